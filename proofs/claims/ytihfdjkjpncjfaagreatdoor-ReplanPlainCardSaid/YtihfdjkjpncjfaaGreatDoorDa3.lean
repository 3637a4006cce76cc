/- Part 3 of the proof of ReplanPlain.card. -/
import Derived.Test.YtihfdjkjpncjfaaGreatDoorDa2
import Derived.Test.YtihfdjkjpncjfaaGreatDoorRows
import Derived.WalkKit
import Derived.ProofKit
import Derived.OpenShut
import Derived.Carry
import Derived.ChangeSame
import Derived.Deep.Slices
import Derived.Test.YtihfdjkjpncjfaaGreatDoorCards
import Derived.Test.YtihfdjkjpncjfaaGreatDoorTie
import Derived.KernelRfl
import Derived.JoinedCond
set_option linter.unusedVariables false
set_option linter.unusedSimpArgs false
section
set_option maxRecDepth 100000
namespace Go.Proofs.YtihfdjkjpncjfaaGreatDoor.A
open Go
noncomputable section
def z6.C:Ctx where
 T:=tab
 call:=Qf [(71,z5.pack)]
theorem z6.link (a0:J0) (a1:Bool):z6.C.evTop 14 (ifun Tryz.f14) [(.agg [(.ints false .i64 a0),(.bool a1)])] z81.dec=z6.F a0 a1:=by kernel_rfl
def z7.C:Ctx where
 T:=tab
theorem z7.link (a0:Int):z7.C.evTop 202 (ifun Tryz.f202) [(.int .i64 a0)] z21.dec=z7.F a0:=by kernel_rfl
def z15.l0sh:Env×Store:=(.undef :: .undef::(.int .i64 0)::(.int .i64 0) :: .undef :: .undef::(.ints false .i64 [])::(.int .i64 0)::(.int .i64 0)::un 9 [],[])
def z15.l0so1:Env×Store:=(.undef :: .undef::(.int .i64 0)::un 15 [],[])
def z15.l0at (a b:Int) (c:J0) (d x:Int):Env×Store:=Qh z15.l0sh [.i a,.i b,.li c,.i d,.i x]
def z15.l0out0 (a b:Int) (c:J0) (d o:Int):X×Env×Store:=((.exit 0),Qh z15.l0sh [.i a,.i b,.li c,.i d,.i o])
def z15.l0out1 (o:Int):X×Env×Store:=(.ret,Qh z15.l0so1 [.i o])
def z15.l0pack:List Leaf->Option LPack
 |[.i a,.i b,.li c,.i d,.i e]=>some (.two _ _ (z15.l0 b c d e) (z15.l0out0 a b c d) (z15.l0out1 ))
 |_=>none
def z15.C:Ctx where
 T:=tab
 keep:=λf i=>match f,i with|210,0=>([2,3,6,7,8],[],[])|_,_=>([],[],[])
 keepR:=λf i=>match f,i with|210,0=>([2],[],[2])|_,_=>([],[],[])
 L:=Qs [⟨210,0,0,z15.l0sh,z15.l0pack⟩]
theorem z15.l0_link (a b:Int) (c:J0) (d:Int):Yp z15.C 6 210 0 0 0 (ifun Tryz.f210) (z15.l0at a b c d) (z15.l0P b c d) (z15.l0out0 a b c d) (z15.l0out1 ):=λ_ _ _ _=>by kernel_rfl
theorem z15.link (a0:J0):z15.C.evTop 210 (ifun Tryz.f210) [(.ints false .i64 a0)] z14.dec=z15.F a0:=by kernel_rfl
def z34.l0sh:Env×Store:=(.undef :: .undef::(.ptr 0 0)::(.ptr 1 0)::(.ptr 2 0)::(.bool false)::(.sref 3 0)::(.int .u64 0)::un 11 ((.int .i64 0)::(.int .i64 0)::un 21 []),[(.cells 37 [(.ints false .u64 [])]),(.cells 37 [(.ints false .u64 [])]),(.cells 37 [(.ints false .u64 [])]),(.arr 0 false 63 (.ints false .u64 []))])
def z34.l0at (a:Bool) (c:Int) (d e g:J0) (x:(Int×Int×J0)):Env×Store:=Qh z34.l0sh [.b a,.i x.1,.i c,.i x.2.1,.li d,.li e,.li g,.li x.2.2]
def z34.l0out0 (a:Bool) (c:Int) (d e g:J0) (o:Int×Int×J0):X×Env×Store:=((.exit 0),Qh z34.l0sh [.b a,.i o.1,.i c,.i o.2.1,.li d,.li e,.li g,.li o.2.2])
def z34.l0pack:List Leaf->Option LPack
 |[.b a,.i c,.i d,.i e,.li g,.li h,.li j,.li k]=>some (.one _ (z34.l0 d g h (c,e,k)) (z34.l0out0 a d g h j))
 |_=>none
def z34.C:Ctx where
 T:=tab
 draws:=λf i=>match f,i with|69,8=>([(25,[(6,0)],0),(26,[(8,0)],0),(27,[(2,0)],0),(28,[(26,3)],4),(29,[(8,0)],0),(30,[(27,4),(28,5)],28),(31,[(29,6)],60),(32,[(3,0)],0),(33,[(8,0)],0),(34,[(31,8),(32,9)],384),(35,[(7,18)],0),(36,[(30,7),(33,10),(34,11)],2044),(24,[(35,12)],4092),(37,[(23,13)],8188),(38,[(23,13)],8188),(39,[(24,1),(25,2)],16383),(0,[(38,16),(36,14)],49151),(8,[(37,15)],131071)],549747425408)|_,_=>([],0)
 call:=Qf [(140,z33.pack),(139,z30.pack),(141,z1.pack),(107,z24.pack)]
 keep:=λf i=>match f,i with|69,0=>([2,3,4,5,6,7,19,20],[0,1,2,3],[])|_,_=>([],[],[])
 keepR:=λf i=>match f,i with|69,0=>([4,5],[0,1,2,3],[4,5])|_,_=>([],[],[])
 L:=Qs [⟨69,0,0,z34.l0sh,z34.l0pack⟩]
def z34.dec:V->Option (J0×Bool)
 |(.tup [(.agg [(.ints _ .u64 x0)]),(.bool x1)])=>some (x0,x1)
 |_=>none
theorem z34.l0_link (a:Bool) (b:Int) (c d e:J0):Qt z34.C 6 69 0 0 4 (ifun Tryz.f69) (z34.l0at a b c d e) (z34.l0P b c d) (z34.l0out0 a b c d e):=λ_ _ _ _=>by kernel_rfl
theorem z34.link (a0 a1:J0):z34.C.evTop 69 (ifun Tryz.f69) [(.agg [(.ints false .u64 a0)]),(.agg [(.ints false .u64 a1)])] z34.dec=z34.F a0 a1:=by kernel_rfl
def z35.C:Ctx where
 T:=tab
 prim:=Yj [(108,J4 (.ints true .u64 []) 63 8)]
def z35.dec:V->Option (J0)
 |(.ints _ .u64 x0)=>some x0
 |_=>none
theorem z35.link (a0:J0):z35.C.evTop 143 (ifun Tryz.f143) [(.agg [(.ints false .u64 a0)])] z35.dec=z35.F a0:=by kernel_rfl
def z40.C:Ctx where
 T:=tab
theorem z40.link (a0:Int):z40.C.evTop 325 (ifun Tryz.f325) [(.int .i64 a0)] z21.dec=z40.F a0:=by kernel_rfl
def z50.l0sh:Env×Store:=(.undef :: .undef::(.ptr 0 0)::(.ptr 1 0)::(.ptr 2 0)::(.sref 3 0)::(.int .u64 0)::un 11 ((.int .i64 0)::(.int .i64 0)::un 19 []),[(.cells 37 [(.ints false .u64 [])]),(.cells 37 [(.ints false .u64 [])]),(.cells 37 [(.ints false .u64 [])]),(.arr 0 false 63 (.ints false .u64 []))])
def z50.l0at (a:Int) (b c d:J0) (x:(Int×Int×J0)):Env×Store:=Qh z50.l0sh [.i x.1,.i a,.i x.2.1,.li b,.li c,.li d,.li x.2.2]
def z50.l0out0 (a:Int) (b c d:J0) (o:Int×Int×J0):X×Env×Store:=((.exit 0),Qh z50.l0sh [.i o.1,.i a,.i o.2.1,.li b,.li c,.li d,.li o.2.2])
def z50.l0pack:List Leaf->Option LPack
 |[.i a,.i b,.i c,.li d,.li e,.li g,.li h]=>some (.one _ (z50.l0 b d e (a,c,h)) (z50.l0out0 b d e g))
 |_=>none
def z50.C:Ctx where
 T:=tab
 draws:=λf i=>match f,i with|68,6=>([(24,[(5,0)],0),(25,[(7,0)],0),(26,[(2,0)],0),(27,[(7,0)],0),(28,[(25,3),(26,4)],12),(29,[(3,0)],0),(30,[(7,0)],0),(31,[(28,6),(29,7)],124),(32,[(6,16)],0),(33,[(27,5),(30,8),(31,9)],508),(23,[(32,10)],1020),(34,[(22,11)],2044),(35,[(22,11)],2044),(36,[(23,1),(24,2)],4095),(0,[(35,14),(33,12)],12287),(7,[(34,13)],32767)],68715282496)|_,_=>([],0)
 call:=Qf [(139,z30.pack),(138,z0.pack),(107,z24.pack)]
 keep:=λf i=>match f,i with|68,0=>([2,3,4,5,6,18,19],[0,1,2,3],[])|_,_=>([],[],[])
 keepR:=λf i=>match f,i with|68,0=>([4],[0,1,2,3],[4])|_,_=>([],[],[])
 L:=Qs [⟨68,0,0,z50.l0sh,z50.l0pack⟩]
theorem z50.l0_link (a:Int) (b c d:J0):Qt z50.C 6 68 0 0 4 (ifun Tryz.f68) (z50.l0at a b c d) (z50.l0P a b c) (z50.l0out0 a b c d):=λ_ _ _ _=>by kernel_rfl
theorem z50.link (a0 a1:J0):z50.C.evTop 68 (ifun Tryz.f68) [(.agg [(.ints false .u64 a0)]),(.agg [(.ints false .u64 a1)])] z48.dec=z50.F a0 a1:=by kernel_rfl
def z56.C:Ctx where
 T:=tab
 call:=Qf [(159,z55.pack)]
def z56.dec:V->Option (J1×Bool)
 |(.tup [(.str x0),(.bool x1)])=>some (x0,x1)
 |_=>none
theorem z56.link (a0 a1:J1):z56.C.evTop 92 (ifun Tryz.f92) [(.str a0),(.str a1)] z56.dec=z56.F a0 a1:=by kernel_rfl
def z68.C:Ctx where
 T:=tab
 call:=Qf [(213,z67.pack),(32,z23.pack)]
theorem z68.link (a0:Int):z68.C.evTop 313 (ifun Tryz.f313) [(.int .i64 a0)] z28.dec=z68.F a0:=by kernel_rfl
def z72.C:Ctx where
 T:=tab
 draws:=λf i=>match f,i with|255,1=>([(7,[(1,0)],0),(8,[(6,1)],1),(9,[(1,0)],0),(10,[(8,3)],4),(11,[(9,4)],12),(12,[(7,2),(10,5)],31),(6,[(11,6)],63),(13,[(5,7)],127),(14,[(5,7)],127),(4,[],0),(0,[(3,10),(12,8)],767),(5,[(13,9)],2047)],16376)|_,_=>([],0)
 call:=Qf [(313,z68.pack),(174,z47.pack)]
def z72.dec:V->Option (J0×Bool×J0)
 |(.agg [(.ints _ .u64 x0),(.bool x1),(.ints _ .u64 x2)])=>some (x0,x1,x2)
 |_=>none
theorem z72.link (a0:J0) (a1:Bool) (a2:Int):z72.C.evTop 255 (ifun Tryz.f255) [(.agg [(.ints false .u64 a0),(.bool a1),(.int .i64 a2)])] z72.dec=z72.F a0 a1 a2:=by kernel_rfl
def z75.C:Ctx where
 T:=tab
 call:=Qf [(213,z67.pack),(32,z23.pack)]
theorem z75.link:z75.C.evTop 156 (ifun Tryz.f156) [] z28.dec=z75.F:=by kernel_rfl
def z92.C:Ctx where
 T:=tab
theorem z92.link (a0:Int):z92.C.evTop 241 (ifun Tryz.f241) [(.int .i64 a0)] z21.dec=z92.F a0:=by kernel_rfl
def z97.C:Ctx where
 T:=tab
 call:=Qf [(105,z95.pack),(106,z96.pack)]
theorem z97.link (a0 a1:J1) (a2 a3 a4 a5 a6 a7 a8 a9:Int) (a10:J0) (a11:Bool) (a12:J1) (a13:Int):z97.C.evTop 31 (ifun Tryz.f31) [(.agg [(.str a0),(.str a1),(.int .i64 a2),(.int .i64 a3),(.int .i64 a4),(.int .i64 a5),(.int .i64 a6),(.int .i64 a7),(.int .i64 a8),(.int .i64 a9)]),(.agg [(.ints false .u64 a10),(.bool a11)]),(.str a12),(.int .i64 a13)] z76.dec=z97.F a0 a1 a2 a3 a4 a5 a6 a7 a8 a9 a10 a11 a12 a13:=by kernel_rfl
def z98.C:Ctx where
 T:=tab
 draws:=λf i=>match f,i with|42,3=>([(20,[(10,0)],0),(21,[(19,1)],1),(22,[(20,2)],3),(23,[(21,3)],7),(24,[(5,0)],0),(25,[(22,4),(23,5)],31)],33030144)|42,6=>([(35,[(5,0)],0),(36,[(10,0)],0),(37,[(35,2)],2),(38,[(36,3)],6),(39,[(37,4)],14),(40,[(2,0)],0),(41,[(3,0)],0),(42,[(34,1),(38,5),(39,6),(40,7)],127),(12,[],0),(0,[(11,9),(41,8)],511)],4380866643968)|_,_=>([],0)
 prim:=Yj [(41,J4 (.recs true 8 []) 107 80)]
def z98.dec:V->Option (J2)
 |(.recs _ 8 x0)=>some x0
 |_=>none
theorem z98.link (a0:J2) (a1 a2 a3:Int) (a4 a5:J1):z98.C.evTop 42 (ifun Tryz.f42) [(.recs false 8 a0),(.agg [(.int .i64 a1),(.int .i64 a2),(.int .i64 a3)]),(.str a4),(.str a5)] z98.dec=z98.F a0 a1 a2 a3 a4 a5:=by kernel_rfl
def z101.l0sh:Env×Store:=((.recs false 8 []) :: .undef::(.int .i64 0)::(.cptr [(.int .i64 0),(.int .i64 0),(.int .i64 0),(.int .i64 0),(.int .i64 0),(.int .i64 0),(.str ([]:J1)),(.str ([]:J1))])::un 3 ((.recs false 8 [])::(.int .i64 0)::(.int .i64 0)::un 14 []),[.dead,.dead,.dead])
def z101.l0so1:Env×Store:=(.undef :: .undef::(.int .i64 0)::un 21 [],[.dead,.dead,.dead])
def z101.l0at (a:J2) (b:Int) (c:J2) (d:Int) (x:(Int×Int×Int×Int×Int×Int×J1×J1×Int)):Env×Store:=Qh z101.l0sh [.lr a,.i b,.i x.1,.i x.2.1,.i x.2.2.1,.i x.2.2.2.1,.i x.2.2.2.2.1,.i x.2.2.2.2.2.1,.s x.2.2.2.2.2.2.1,.s x.2.2.2.2.2.2.2.1,.lr c,.i d,.i x.2.2.2.2.2.2.2.2]
def z101.l0out0 (a:J2) (b:Int) (c:J2) (d:Int) (o:Int×Int×Int×Int×Int×Int×J1×J1×Int):X×Env×Store:=((.exit 0),Qh z101.l0sh [.lr a,.i b,.i o.1,.i o.2.1,.i o.2.2.1,.i o.2.2.2.1,.i o.2.2.2.2.1,.i o.2.2.2.2.2.1,.s o.2.2.2.2.2.2.1,.s o.2.2.2.2.2.2.2.1,.lr c,.i d,.i o.2.2.2.2.2.2.2.2])
def z101.l0out1 (o:Int):X×Env×Store:=(.ret,Qh z101.l0so1 [.i o])
def z101.l0pack:List Leaf->Option LPack
 |[.lr a,.i b,.i c,.i d,.i e,.i g,.i h,.i j,.s k,.s m,.lr n,.i o,.i p]=>some (.two _ _ (z101.l0 a n o (c,d,e,g,h,j,k,m,p)) (z101.l0out0 a b n o) (z101.l0out1 ))
 |_=>none
def z101.l0ash:Env×Store:=((.recs false 8 []) :: .undef::(.int .i64 0)::(.cptr [(.int .i64 0),(.int .i64 0),(.int .i64 0),(.int .i64 0),(.int .i64 0),(.int .i64 0),(.str ([]:J1)),(.str ([]:J1))])::un 3 ((.recs false 8 [])::(.int .i64 0)::(.int .i64 0)::un 14 []),[.dead,.dead,.dead,.dead])
def z101.l0aso1:Env×Store:=(.undef :: .undef::(.int .i64 0)::un 21 [],[.dead,.dead,.dead,.dead])
def z101.l0aat (a:J2) (b:Int) (c:J2) (d:Int) (x:(Int×Int×Int×Int×Int×Int×J1×J1×Int)):Env×Store:=Qh z101.l0ash [.lr a,.i b,.i x.1,.i x.2.1,.i x.2.2.1,.i x.2.2.2.1,.i x.2.2.2.2.1,.i x.2.2.2.2.2.1,.s x.2.2.2.2.2.2.1,.s x.2.2.2.2.2.2.2.1,.lr c,.i d,.i x.2.2.2.2.2.2.2.2]
def z101.l0aout0 (a:J2) (b:Int) (c:J2) (d:Int) (o:Int×Int×Int×Int×Int×Int×J1×J1×Int):X×Env×Store:=((.exit 0),Qh z101.l0ash [.lr a,.i b,.i o.1,.i o.2.1,.i o.2.2.1,.i o.2.2.2.1,.i o.2.2.2.2.1,.i o.2.2.2.2.2.1,.s o.2.2.2.2.2.2.1,.s o.2.2.2.2.2.2.2.1,.lr c,.i d,.i o.2.2.2.2.2.2.2.2])
def z101.l0aout1 (o:Int):X×Env×Store:=(.ret,Qh z101.l0aso1 [.i o])
def z101.l0apack:List Leaf->Option LPack
 |[.lr a,.i b,.i c,.i d,.i e,.i g,.i h,.i j,.s k,.s m,.lr n,.i o,.i p]=>some (.two _ _ (z101.l0a a n o (c,d,e,g,h,j,k,m,p)) (z101.l0aout0 a b n o) (z101.l0aout1 ))
 |_=>none
def z101.C:Ctx where
 T:=tab
 draws:=λf i=>match f,i with|116,3=>([(22,[(2,0)],0),(23,[(21,1)],1),(24,[(2,0)],0),(25,[(23,3)],4),(26,[(22,2),(24,4)],15),(27,[(25,5)],31),(28,[(26,6)],63),(29,[(1,0),(27,7)],127),(30,[(28,8),(27,7)],255),(31,[(29,9),(27,7)],511),(32,[(2,0),(30,10)],1023),(33,[(31,11),(30,10)],2047),(34,[(1,0),(30,10)],1023),(35,[(33,13),(30,10)],5119),(36,[(34,14),(30,10)],13311),(37,[(35,15),(30,10)],29695),(38,[(32,12),(36,16),(30,10)],65535),(39,[(30,10),(37,17),(27,7)],131071),(40,[(27,7),(38,18)],262143),(21,[(39,19)],524287)],1099510579200)|_,_=>([],0)
 call:=Qf [(181,z20.pack),(148,z16.pack),(89,z76.pack),(184,z73.pack)]
 inl:=inlL [(116,Tryz.f116)]
 keep:=λf i=>match f,i with|45,0=>([0,2,3,7,8,9],[],[])|_,_=>([],[],[])
 keepR:=λf i=>match f,i with|45,0=>([2],[],[2])|_,_=>([],[],[])
 unroll:=λf i=>match f,i with|45,0=>1|_,_=>0
 L:=Qs [⟨45,0,0,z101.l0sh,z101.l0pack⟩,⟨45,0,0,z101.l0ash,z101.l0apack⟩]
theorem z101.l0_link (a:J2) (b:Int) (c:J2) (d:Int):Yp z101.C 6 45 0 0 3 (ifun Tryz.f45) (z101.l0at a b c d) (z101.l0P a c d) (z101.l0out0 a b c d) (z101.l0out1 ):=λ_ _ _ _=>by kernel_rfl
theorem z101.l0a_link (a:J2) (b:Int) (c:J2) (d:Int):Yp z101.C 6 45 0 0 4 (ifun Tryz.f45) (z101.l0aat a b c d) (z101.l0aP a c d) (z101.l0aout0 a b c d) (z101.l0aout1 ):=λ_ _ _ _=>by kernel_rfl
theorem z101.link (a0:J2):z101.C.evTop 45 (ifun Tryz.f45) [(.recs false 8 a0)] z14.dec=z101.F a0:=by kernel_rfl
def z102.C:Ctx where
 T:=tab
theorem z102.link (a0:Int):z102.C.evTop 278 (ifun Tryz.f278) [(.int .i64 a0)] z21.dec=z102.F a0:=by kernel_rfl
def z104.C:Ctx where
 T:=tab
 call:=Qf [(278,z102.pack),(334,z103.pack)]
theorem z104.link (a0:Int):z104.C.evTop 320 (ifun Tryz.f320) [(.int .i64 a0)] z81.dec=z104.F a0:=by kernel_rfl
def z107.C:Ctx where
 T:=tab
 call:=Qf [(280,z106.pack)]
theorem z107.link (a0 a1 a2 a3 a4 a5:Int):z107.C.evTop 279 (ifun Tryz.f279) [(.agg [(.int .i64 a0),(.int .i64 a1),(.int .i64 a2)]),(.agg [(.int .i64 a3),(.int .i64 a4),(.int .i64 a5)])] z72.dec=z107.F a0 a1 a2 a3 a4 a5:=by kernel_rfl
def z113.C:Ctx where
 T:=tab
 draws:=λf i=>match f,i with|323,1=>([(6,[(2,0)],0),(7,[(5,1)],1),(8,[(3,0)],0),(9,[(7,3)],4),(10,[(6,2),(8,4)],15),(11,[(3,0)],0),(12,[(10,6)],32),(13,[(2,0)],0),(14,[(12,8)],159),(15,[(11,7),(13,9)],511),(16,[(9,5),(14,10)],1023),(17,[(2,0)],0),(18,[(16,12)],4095),(19,[(3,0)],0),(20,[(18,14)],16383),(21,[(17,13),(19,15)],32767),(22,[(15,11),(20,16)],65535),(0,[(4,0),(21,17)],131071)],4194272)|_,_=>([],0)
 call:=Qf [(304,z52.pack),(239,z49.pack),(12,z63.pack),(235,z51.pack),(161,z48.pack),(243,z46.pack)]
theorem z113.link (a0:J0) (a1:Bool) (a2 a3:J0) (a4:Bool) (a5:J0):z113.C.evTop 323 (ifun Tryz.f323) [(.agg [(.ints false .u64 a0),(.bool a1),(.ints false .u64 a2)]),(.agg [(.ints false .u64 a3),(.bool a4),(.ints false .u64 a5)])] z72.dec=z113.F a0 a1 a2 a3 a4 a5:=by kernel_rfl
def z114.C:Ctx where
 T:=tab
 draws:=λf i=>match f,i with|282,2=>([(13,[(2,0)],0),(14,[(3,0)],0),(15,[(12,1),(13,2)],3),(16,[(2,0)],0),(17,[(15,4)],8),(18,[(16,5)],31),(19,[(14,3),(17,6)],63),(0,[(4,0),(18,7)],127)],520192)|282,5=>([(31,[(5,0)],0),(32,[(2,0)],0),(33,[(31,2)],2),(34,[(32,3)],6),(35,[(30,1),(33,4)],15),(36,[(3,0)],0),(37,[(35,6)],32),(38,[(2,0)],0),(39,[(37,8)],128),(40,[(36,7),(38,9)],480),(41,[(39,10)],992),(42,[(40,11)],2047),(43,[(34,5),(41,12)],4095),(44,[(6,0)],0),(45,[(3,0)],0),(46,[(44,15)],16384),(47,[(45,16)],57343),(48,[(43,14),(46,17)],131071),(49,[(42,13),(47,18)],262143),(0,[(4,0),(48,19)],524287)],562948879679488)|_,_=>([],0)
 call:=Qf [(281,z111.pack),(322,z112.pack),(280,z106.pack),(323,z113.pack)]
theorem z114.link (a0 a1 a2 a3 a4 a5:Int):z114.C.evTop 282 (ifun Tryz.f282) [(.agg [(.int .i64 a0),(.int .i64 a1),(.int .i64 a2)]),(.agg [(.int .i64 a3),(.int .i64 a4),(.int .i64 a5)])] z72.dec=z114.F a0 a1 a2 a3 a4 a5:=by kernel_rfl
def z115.C:Ctx where
 T:=tab
 call:=Qf [(278,z102.pack),(181,z20.pack),(148,z16.pack),(279,z107.pack),(281,z111.pack),(280,z106.pack),(282,z114.pack)]
theorem z115.link (a0 a1 a2 a3 a4 a5 a6:Int):z115.C.evTop 199 (ifun Tryz.f199) [(.int .i64 a0),(.agg [(.int .i64 a1),(.int .i64 a2),(.int .i64 a3)]),(.agg [(.int .i64 a4),(.int .i64 a5),(.int .i64 a6)])] z53.dec=z115.F a0 a1 a2 a3 a4 a5 a6:=by kernel_rfl
def z123.C:Ctx where
 T:=tab
theorem z123.link:z123.C.evTop 335 (ifun Tryz.f335) [] z103.dec=z123.F:=by kernel_rfl
def z124.C:Ctx where
 T:=tab
 call:=Qf [(241,z92.pack),(335,z123.pack)]
theorem z124.link (a0:Int):z124.C.evTop 321 (ifun Tryz.f321) [(.int .i64 a0)] z81.dec=z124.F a0:=by kernel_rfl
def z125.C:Ctx where
 T:=tab
 call:=Qf [(319,z122.pack),(320,z104.pack),(321,z124.pack)]
theorem z125.link (a0 a1:J1) (a2 a3 a4 a5 a6 a7 a8 a9:Int):z125.C.evTop 276 (ifun Tryz.f276) [(.agg [(.str a0),(.str a1),(.int .i64 a2),(.int .i64 a3),(.int .i64 a4),(.int .i64 a5),(.int .i64 a6),(.int .i64 a7),(.int .i64 a8),(.int .i64 a9)])] z21.dec=z125.F a0 a1 a2 a3 a4 a5 a6 a7 a8 a9:=by kernel_rfl
def z132.l0ash:Env×Store:=((.ptr 4 0) :: .undef :: .undef::(.int .i64 0) :: .undef::(.ptr 6 0) :: .undef :: .undef::(.int .i64 0)::(.int .i64 0)::(.recs false 8 [])::(.int .i64 0)::un 18 ((.recs false 5 [])::(.int .i64 0)::(.int .i64 0)::un 31 []),[.dead,(.arr 0 true 81 (.recs false 8 [])),.dead,(.arr 0 true 81 (.recs false 8 [])),(.cells 178 [(.str ([]:J1)),(.str ([]:J1)),(.int .i64 0),(.int .i64 0),(.int .i64 0),(.int .i64 0),(.int .i64 0),(.int .i64 0),(.int .i64 0),(.int .i64 0),(.ints false .u64 []),(.bool false),(.str ([]:J1)),(.ints false .u64 []),(.bool false),(.sref 3 0)]),(.cells 175 [(.int .i64 0),(.int .i64 0),(.int .i64 0),(.int .i64 0),(.int .i64 0),(.int .i64 0)]),(.cells 175 [(.int .i64 0),(.int .i64 0),(.int .i64 0),(.int .i64 0),(.int .i64 0),(.int .i64 0)])])
def z132.l0aso1:Env×Store:=(un 8 ((.int .i64 0)::(.int .i64 0)::un 54 []),[.dead,(.arr 0 true 81 (.recs false 8 [])),.dead,(.arr 0 true 81 (.recs false 8 [])),(.cells 178 [(.str ([]:J1)),(.str ([]:J1)),(.int .i64 0),(.int .i64 0),(.int .i64 0),(.int .i64 0),(.int .i64 0),(.int .i64 0),(.int .i64 0),(.int .i64 0),(.ints false .u64 []),(.bool false),(.str ([]:J1)),(.ints false .u64 []),(.bool false),(.sref 3 0)]),(.cells 175 [(.int .i64 0),(.int .i64 0),(.int .i64 0),(.int .i64 0),(.int .i64 0),(.int .i64 0)]),(.cells 175 [(.int .i64 0),(.int .i64 0),(.int .i64 0),(.int .i64 0),(.int .i64 0),(.int .i64 0)])])
def z132.l0aat (a c d:Int) (e:J2) (g:Int) (h:J2) (j k m n o p q r t u v w:Int) (x:(J2×Int×Int×J2×J1×J1×Int×Int×Int×Int×Int×Int×Int×Int×J0×Bool×J1×J0×Bool)):Env×Store:=Qh z132.l0ash [.i a,.i c,.i d,.lr x.1,.i x.2.1,.lr e,.i g,.i x.2.2.1,.lr h,.lr x.2.2.2.1,.s x.2.2.2.2.1,.s x.2.2.2.2.2.1,.i x.2.2.2.2.2.2.1,.i x.2.2.2.2.2.2.2.1,.i x.2.2.2.2.2.2.2.2.1,.i x.2.2.2.2.2.2.2.2.2.1,.i x.2.2.2.2.2.2.2.2.2.2.1,.i x.2.2.2.2.2.2.2.2.2.2.2.1,.i x.2.2.2.2.2.2.2.2.2.2.2.2.1,.i x.2.2.2.2.2.2.2.2.2.2.2.2.2.1,.li x.2.2.2.2.2.2.2.2.2.2.2.2.2.2.1,.b x.2.2.2.2.2.2.2.2.2.2.2.2.2.2.2.1,.s x.2.2.2.2.2.2.2.2.2.2.2.2.2.2.2.2.1,.li x.2.2.2.2.2.2.2.2.2.2.2.2.2.2.2.2.2.1,.b x.2.2.2.2.2.2.2.2.2.2.2.2.2.2.2.2.2.2,.i j,.i k,.i m,.i n,.i o,.i p,.i q,.i r,.i t,.i u,.i v,.i w]
def z132.l0aout0 (a c d:Int) (e:J2) (g:Int) (h:J2) (j k m n p q r t u v w x:Int) (o:J2×Int×Int×J2×J1×J1×Int×Int×Int×Int×Int×Int×Int×Int×J0×Bool×J1×J0×Bool):X×Env×Store:=((.exit 0),Qh z132.l0ash [.i a,.i c,.i d,.lr o.1,.i o.2.1,.lr e,.i g,.i o.2.2.1,.lr h,.lr o.2.2.2.1,.s o.2.2.2.2.1,.s o.2.2.2.2.2.1,.i o.2.2.2.2.2.2.1,.i o.2.2.2.2.2.2.2.1,.i o.2.2.2.2.2.2.2.2.1,.i o.2.2.2.2.2.2.2.2.2.1,.i o.2.2.2.2.2.2.2.2.2.2.1,.i o.2.2.2.2.2.2.2.2.2.2.2.1,.i o.2.2.2.2.2.2.2.2.2.2.2.2.1,.i o.2.2.2.2.2.2.2.2.2.2.2.2.2.1,.li o.2.2.2.2.2.2.2.2.2.2.2.2.2.2.1,.b o.2.2.2.2.2.2.2.2.2.2.2.2.2.2.2.1,.s o.2.2.2.2.2.2.2.2.2.2.2.2.2.2.2.2.1,.li o.2.2.2.2.2.2.2.2.2.2.2.2.2.2.2.2.2.1,.b o.2.2.2.2.2.2.2.2.2.2.2.2.2.2.2.2.2.2,.i j,.i k,.i m,.i n,.i p,.i q,.i r,.i t,.i u,.i v,.i w,.i x])
def z132.l0aout1 (a:J2) (c d e g h j k m n p q r:Int) (o:Int×Int×J2×J1×J1×Int×Int×Int×Int×Int×Int×Int×Int×J0×Bool×J1×J0×Bool):X×Env×Store:=(.ret,Qh z132.l0aso1 [.i o.1,.i o.2.1,.lr a,.lr o.2.2.1,.s o.2.2.2.1,.s o.2.2.2.2.1,.i o.2.2.2.2.2.1,.i o.2.2.2.2.2.2.1,.i o.2.2.2.2.2.2.2.1,.i o.2.2.2.2.2.2.2.2.1,.i o.2.2.2.2.2.2.2.2.2.1,.i o.2.2.2.2.2.2.2.2.2.2.1,.i o.2.2.2.2.2.2.2.2.2.2.2.1,.i o.2.2.2.2.2.2.2.2.2.2.2.2.1,.li o.2.2.2.2.2.2.2.2.2.2.2.2.2.1,.b o.2.2.2.2.2.2.2.2.2.2.2.2.2.2.1,.s o.2.2.2.2.2.2.2.2.2.2.2.2.2.2.2.1,.li o.2.2.2.2.2.2.2.2.2.2.2.2.2.2.2.2.1,.b o.2.2.2.2.2.2.2.2.2.2.2.2.2.2.2.2.2,.i c,.i d,.i e,.i g,.i h,.i j,.i k,.i m,.i n,.i p,.i q,.i r])
def z132.l0apack:List Leaf->Option LPack
 |.i a :: .i c :: .i d :: .lr e :: .i g :: .lr h :: .i j :: .i k :: .lr m :: .lr n :: .s o :: .s p :: .i q :: .i r :: .i t :: .i u :: .i v :: .i w :: .i x :: .i y :: .li z :: .b A :: .s B :: .li C :: .b D :: .i E :: .i G :: .i H :: .i I :: .i J :: .i K :: .i L :: .i M :: .i N :: .i O :: .i P :: .i Q::[]=>some (.two _ _ (z132.l0a a h j O P Q (e,g,k,n,o,p,q,r,t,u,v,w,x,y,z,A,B,C,D)) (z132.l0aout0 a c d h j m E G H I J K L M N O P Q) (z132.l0aout1 m E G H I J K L M N O P Q))
 |_=>none
def z132.l0sh:Env×Store:=(.undef::(.recs false 5 []) :: .undef :: .undef::(.sref 1 0)::(.int .i64 0)::(.int .i64 0)::(.recs false 6 [])::un 7 ((.ptr 4 0)::(.int .i64 0)::un 63 ((.recs false 6 [])::(.int .i64 0)::(.int .i64 0)::un 29 [])),[.dead,(.arr 0 true 81 (.recs false 8 [])),.dead,(.arr 0 true 81 (.recs false 8 [])),(.cells 178 [(.str ([]:J1)),(.str ([]:J1)),(.int .i64 0),(.int .i64 0),(.int .i64 0),(.int .i64 0),(.int .i64 0),(.int .i64 0),(.int .i64 0),(.int .i64 0),(.ints false .u64 []),(.bool false),(.str ([]:J1)),(.ints false .u64 []),(.bool false),(.sref 3 0)])])
def z132.l0so1:Env×Store:=(un 4 ((.recs false 8 [])::(.int .i64 0)::(.int .i64 0)::un 105 []),[.dead,(.arr 0 true 81 (.recs false 8 [])),.dead,(.arr 0 true 81 (.recs false 8 [])),(.cells 178 [(.str ([]:J1)),(.str ([]:J1)),(.int .i64 0),(.int .i64 0),(.int .i64 0),(.int .i64 0),(.int .i64 0),(.int .i64 0),(.int .i64 0),(.int .i64 0),(.ints false .u64 []),(.bool false),(.str ([]:J1)),(.ints false .u64 []),(.bool false),(.sref 3 0)])])
def z132.l0at (a:J2) (c d:Int) (e g:J2) (h:Int) (j:J2) (x:(Int×Int×J2×J1×J1×Int×Int×Int×Int×Int×Int×Int×Int×J0×Bool×J1×J0×Bool)):Env×Store:=Qh z132.l0sh [.lr a,.i c,.i d,.lr e,.i x.1,.lr g,.i h,.i x.2.1,.lr j,.lr x.2.2.1,.s x.2.2.2.1,.s x.2.2.2.2.1,.i x.2.2.2.2.2.1,.i x.2.2.2.2.2.2.1,.i x.2.2.2.2.2.2.2.1,.i x.2.2.2.2.2.2.2.2.1,.i x.2.2.2.2.2.2.2.2.2.1,.i x.2.2.2.2.2.2.2.2.2.2.1,.i x.2.2.2.2.2.2.2.2.2.2.2.1,.i x.2.2.2.2.2.2.2.2.2.2.2.2.1,.li x.2.2.2.2.2.2.2.2.2.2.2.2.2.1,.b x.2.2.2.2.2.2.2.2.2.2.2.2.2.2.1,.s x.2.2.2.2.2.2.2.2.2.2.2.2.2.2.2.1,.li x.2.2.2.2.2.2.2.2.2.2.2.2.2.2.2.2.1,.b x.2.2.2.2.2.2.2.2.2.2.2.2.2.2.2.2.2]
def z132.l0out0 (a:J2) (c d:Int) (e g:J2) (h:Int) (j:J2) (o:Int×Int×J2×J1×J1×Int×Int×Int×Int×Int×Int×Int×Int×J0×Bool×J1×J0×Bool):X×Env×Store:=((.exit 0),Qh z132.l0sh [.lr a,.i c,.i d,.lr e,.i o.1,.lr g,.i h,.i o.2.1,.lr j,.lr o.2.2.1,.s o.2.2.2.1,.s o.2.2.2.2.1,.i o.2.2.2.2.2.1,.i o.2.2.2.2.2.2.1,.i o.2.2.2.2.2.2.2.1,.i o.2.2.2.2.2.2.2.2.1,.i o.2.2.2.2.2.2.2.2.2.1,.i o.2.2.2.2.2.2.2.2.2.2.1,.i o.2.2.2.2.2.2.2.2.2.2.2.1,.i o.2.2.2.2.2.2.2.2.2.2.2.2.1,.li o.2.2.2.2.2.2.2.2.2.2.2.2.2.1,.b o.2.2.2.2.2.2.2.2.2.2.2.2.2.2.1,.s o.2.2.2.2.2.2.2.2.2.2.2.2.2.2.2.1,.li o.2.2.2.2.2.2.2.2.2.2.2.2.2.2.2.2.1,.b o.2.2.2.2.2.2.2.2.2.2.2.2.2.2.2.2.2])
def z132.l0out1 (a:J2) (o:J2×Int×Int×J2×J1×J1×Int×Int×Int×Int×Int×Int×Int×Int×J0×Bool×J1×J0×Bool):X×Env×Store:=(.ret,Qh z132.l0so1 [.lr o.1,.i o.2.1,.i o.2.2.1,.lr a,.lr o.2.2.2.1,.s o.2.2.2.2.1,.s o.2.2.2.2.2.1,.i o.2.2.2.2.2.2.1,.i o.2.2.2.2.2.2.2.1,.i o.2.2.2.2.2.2.2.2.1,.i o.2.2.2.2.2.2.2.2.2.1,.i o.2.2.2.2.2.2.2.2.2.2.1,.i o.2.2.2.2.2.2.2.2.2.2.2.1,.i o.2.2.2.2.2.2.2.2.2.2.2.2.1,.i o.2.2.2.2.2.2.2.2.2.2.2.2.2.1,.li o.2.2.2.2.2.2.2.2.2.2.2.2.2.2.1,.b o.2.2.2.2.2.2.2.2.2.2.2.2.2.2.2.1,.s o.2.2.2.2.2.2.2.2.2.2.2.2.2.2.2.2.1,.li o.2.2.2.2.2.2.2.2.2.2.2.2.2.2.2.2.2.1,.b o.2.2.2.2.2.2.2.2.2.2.2.2.2.2.2.2.2.2])
def z132.l0pack:List Leaf->Option LPack
 |[.lr a,.i c,.i d,.lr e,.i g,.lr h,.i j,.i k,.lr m,.lr n,.s o,.s p,.i q,.i r,.i t,.i u,.i v,.i w,.i x,.i y,.li z,.b A,.s B,.li C,.b D]=>some (.two _ _ (z132.l0 a e h j (g,k,n,o,p,q,r,t,u,v,w,x,y,z,A,B,C,D)) (z132.l0out0 a c d e h j m) (z132.l0out1 m))
 |_=>none
def z132.C:Ctx where
 T:=tab
 draws:=λf i=>match f,i with|25,7=>([(40,[(2,0)],0),(41,[(7,0)],0),(42,[(7,0)],0),(43,[(41,3)],4),(44,[(42,4)],12),(45,[(40,2),(43,5)],30),(46,[(44,6)],62),(47,[(45,7)],126),(48,[(1,0)],0),(49,[(39,1),(46,8),(47,9)],511),(39,[(48,10)],1023),(50,[(38,11)],2047),(51,[(38,11)],2047),(12,[(49,12)],4095),(13,[(50,13)],16383)],2251524935784448)|25,17=>([(89,[(15,0)],0),(90,[(18,0)],0),(91,[(1,0)],0),(92,[(16,0)],0),(93,[(90,3),(91,4)],12),(94,[(7,0)],0),(95,[(93,6)],32),(96,[(17,0)],0),(97,[(94,7),(95,8)],224),(98,[(88,1),(89,2),(92,5),(96,9)],511),(88,[(97,10)],1023),(99,[(87,11)],2047),(100,[(87,11)],2047),(20,[(98,12)],4095),(21,[(99,13)],16383)],1267495857723318728962342387712)|90,1=>([(16,[(5,0)],0),(17,[(15,1)],1),(18,[(5,0)],0),(19,[(17,3)],4),(20,[(0,0)],0),(21,[(19,5)],16),(22,[(20,6)],48),(23,[(21,7)],112),(24,[(22,8)],240),(25,[(0,0)],0),(26,[(24,10)],512),(27,[(25,11)],1536),(28,[(26,12)],3584),(29,[(16,2),(18,4),(23,9),(27,13)],8191),(30,[(28,14)],16383),(11,[(29,15)],32767)],1073710080)|_,_=>([],0)
 call:=Qf [(86,z130.pack),(87,z80.pack),(88,z131.pack),(89,z76.pack),(31,z97.pack),(13,z83.pack),(148,z16.pack)]
 inl:=inlL [(90,Tryz.f90)]
 rank:=λg=>match g with|90=>1|_=>0
 prim:=Yj [(157,subP 178 81 0 z99.pk),(158,subP 178 81 1 z120.pk)]
 own:=λd=>match d with|65=>true|_=>false
 keep:=λf i=>match f,i with|90,0=>([0,3,5,8,9,10,11,30,31,32],List.range 64,[])|25,0=>([1,4,5,6,7,15,16,80,81,82],[1,3,4],[])|_,_=>([],[],[])
 keepR:=λf i=>match f,i with|90,0=>([8,9],List.range 64,[])|25,0=>([4,5,6],[1,3,4],[4,5,6])|_,_=>([],[],[])
 L:=Qs [⟨90,0,6,z132.l0ash,z132.l0apack⟩,⟨25,0,0,z132.l0sh,z132.l0pack⟩]
def z132.dec:V->Option (J2×Int×Int)
 |(.tup [(.recs _ 8 x0),(.int .i64 x1),(.int .i64 x2)])=>some (x0,x1,x2)
 |_=>none
theorem z132.l0a_link (a b c:Int) (d:J2) (e:Int) (g:J2) (h j k m n o p q r s t u:Int):Yp z132.C 1 90 0 6 7 (ifun Tryz.f90) (z132.l0aat a b c d e g h j k m n o p q r s t u) (z132.l0aP a d e s t u) (z132.l0aout0 a b c d e g h j k m n o p q r s t u) (z132.l0aout1 g h j k m n o p q r s t u):=λ_ _ _ _=>by kernel_rfl
theorem z132.l0_link (a:J2) (b c:Int) (d e:J2) (g:Int) (h:J2):Yp z132.C 6 25 0 0 5 (ifun Tryz.f25) (z132.l0at a b c d e g h) (z132.l0P a d e g) (z132.l0out0 a b c d e g h) (z132.l0out1 h):=λ_ _ _ _=>by kernel_rfl
theorem z132.link (a0 a1:J1) (a2 a3 a4 a5 a6 a7 a8 a9:Int) (a10:J2):z132.C.evTop 25 (ifun Tryz.f25) [(.agg [(.str a0),(.str a1),(.int .i64 a2),(.int .i64 a3),(.int .i64 a4),(.int .i64 a5),(.int .i64 a6),(.int .i64 a7),(.int .i64 a8),(.int .i64 a9)]),(.recs false 5 a10)] z132.dec=z132.F a0 a1 a2 a3 a4 a5 a6 a7 a8 a9 a10:=by kernel_rfl
def z135.C:Ctx where
 T:=tab
theorem z135.link (a0:J0) (a1:Int):z135.C.evTop 179 (ifun Tryz.f179) [(.ints false .i64 a0),(.int .i64 a1)] z14.dec=z135.F a0 a1:=by kernel_rfl
def z139.l0sh:Env×Store:=(.undef::(.ptr 0 0)::(.str ([]:J1))::(.str ([]:J1))::un 36 [],[(.cells 200 [(.ints false .i64 []),(.bool false),(.int .i64 0)])])
def z139.l0at (a:J1) (c:J0) (d:Bool) (e:Int) (x:(J1)):Env×Store:=Qh z139.l0sh [.s a,.s x,.li c,.b d,.i e]
def z139.l0out0 (a:J1) (c:J0) (d:Bool) (e:Int) (o:J1):X×Env×Store:=((.exit 0),Qh z139.l0sh [.s a,.s o,.li c,.b d,.i e])
def z139.l0pack:List Leaf->Option LPack
 |[.s a,.s c,.li d,.b e,.i g]=>some (.one _ (z139.l0 g c) (z139.l0out0 a d e g))
 |_=>none
def z139.C:Ctx where
 T:=tab
 draws:=λf i=>match f,i with|104,5=>([(19,[(3,17)],0),(20,[(3,17)],0),(21,[(19,2)],2),(22,[(1,0)],0),(23,[(21,4)],8),(24,[(20,3),(22,5)],30),(25,[(18,1),(23,6)],63),(26,[(24,7)],127),(27,[(3,17)],0),(28,[(3,17)],0),(29,[(27,10)],512),(30,[(1,0)],0),(31,[(29,12)],2048),(32,[(28,11),(30,13)],7680),(33,[(26,9),(31,14)],16128),(34,[(25,8),(32,15)],32767),(4,[(33,16)],65535)],17179607048)|_,_=>([],0)
 call:=Qf [(71,z5.pack)]
 keep:=λf i=>match f,i with|104,0=>([1,2,3],[0],[])|_,_=>([],[],[])
 keepR:=λf i=>match f,i with|104,0=>([2],[0],[2])|_,_=>([],[],[])
 L:=Qs [⟨104,0,0,z139.l0sh,z139.l0pack⟩]
theorem z139.l0_link (a:J1) (b:J0) (c:Bool) (d:Int):Qt z139.C 6 104 0 0 1 (ifun Tryz.f104) (z139.l0at a b c d) (z139.l0P d) (z139.l0out0 a b c d):=λ_ _ _ _=>by kernel_rfl
theorem z139.link (a0:J0) (a1:Bool) (a2:Int):z139.C.evTop 104 (ifun Tryz.f104) [(.agg [(.ints false .i64 a0),(.bool a1),(.int .i64 a2)])] z81.dec=z139.F a0 a1 a2:=by kernel_rfl
def z141.l0sh:Env×Store:=((.recs false 8 [])::(.recs false 8 []) :: .undef :: .undef::(.bool false)::un 7 ((.int .i64 0)::(.int .i64 0)::un 12 []),[])
def z141.l0so1:Env×Store:=(un 4 ((.bool false)::un 21 []),[])
def z141.l0at (a c:J2) (d:Bool) (e x:Int):Env×Store:=Qh z141.l0sh [.lr a,.lr c,.b d,.i e,.i x]
def z141.l0out0 (a c:J2) (d:Bool) (e o:Int):X×Env×Store:=((.exit 0),Qh z141.l0sh [.lr a,.lr c,.b d,.i e,.i o])
def z141.l0out1 (o:Bool):X×Env×Store:=(.ret,Qh z141.l0so1 [.b o])
def z141.l0pack:List Leaf->Option LPack
 |[.lr a,.lr c,.b d,.i e,.i g]=>some (.two _ _ (z141.l0 a c e g) (z141.l0out0 a c d e) (z141.l0out1 ))
 |_=>none
def z141.C:Ctx where
 T:=tab
 draws:=λf i=>match f,i with|29,6=>([(17,[(0,0)],0),(18,[(5,0)],0),(19,[(16,1),(17,2)],3),(20,[(18,3)],7),(21,[(1,0)],0),(22,[(5,0)],0),(23,[(20,5),(21,6)],48),(24,[(22,7)],112),(25,[(19,4),(23,8)],255)],33488896)|_,_=>([],0)
 keep:=λf i=>match f,i with|29,0=>([0,1,4,12,13],[],[])|_,_=>([],[],[])
 keepR:=λf i=>match f,i with|29,0=>([4],[],[4])|_,_=>([],[],[])
 L:=Qs [⟨29,0,0,z141.l0sh,z141.l0pack⟩]
theorem z141.l0_link (a b:J2) (c:Bool) (d:Int):Yp z141.C 6 29 0 0 0 (ifun Tryz.f29) (z141.l0at a b c d) (z141.l0P a b d) (z141.l0out0 a b c d) (z141.l0out1 ):=λ_ _ _ _=>by kernel_rfl
theorem z141.link (a0 a1:J2):z141.C.evTop 29 (ifun Tryz.f29) [(.recs false 8 a0),(.recs false 8 a1)] z21.dec=z141.F a0 a1:=by kernel_rfl
def z142.C:Ctx where
 T:=tab
 call:=Qf [(89,z76.pack),(105,z95.pack),(106,z96.pack)]
theorem z142.link (a0 a1:J1) (a2 a3 a4 a5 a6 a7 a8 a9:Int):z142.C.evTop 129 (ifun Tryz.f129) [(.agg [(.str a0),(.str a1),(.int .i64 a2),(.int .i64 a3),(.int .i64 a4),(.int .i64 a5),(.int .i64 a6),(.int .i64 a7),(.int .i64 a8),(.int .i64 a9)])] z76.dec=z142.F a0 a1 a2 a3 a4 a5 a6 a7 a8 a9:=by kernel_rfl
def z146.l0sh:Env×Store:=(.undef::(.ptr 0 0)::(.sref 1 0)::(.int .i64 0)::(.recs false 6 []) :: .undef::(.ptr 2 0)::(.ptr 3 0) :: .undef::(.sref 4 0)::un 28 ((.recs false 6 [])::(.int .i64 0)::(.int .i64 0)::un 53 []),[(.cells 73 [(.str ([]:J1)),(.str ([]:J1)),(.int .i64 0),(.int .i64 0),(.int .i64 0),(.int .i64 0),(.int .i64 0),(.int .i64 0),(.int .i64 0),(.int .i64 0)]),(.arr 0 true 81 (.recs false 8 [])),(.cells 39 [(.ints false .u64 []),(.bool false)]),(.cells 39 [(.ints false .u64 []),(.bool false)]),(.arr 0 true 81 (.recs false 8 []))])
def z146.l0so1:Env×Store:=(.undef :: .undef::(.recs false 8 [])::(.int .i64 0)::un 90 [],[(.cells 73 [(.str ([]:J1)),(.str ([]:J1)),(.int .i64 0),(.int .i64 0),(.int .i64 0),(.int .i64 0),(.int .i64 0),(.int .i64 0),(.int .i64 0),(.int .i64 0)]),(.arr 0 true 81 (.recs false 8 [])),(.cells 39 [(.ints false .u64 []),(.bool false)]),(.cells 39 [(.ints false .u64 []),(.bool false)]),(.arr 0 true 81 (.recs false 8 []))])
def z146.l0at (a:Int) (c d:J2) (e:Int) (g h:J1) (j k m n o p q r:Int) (t:J2) (u:J0) (v:Bool) (x:(Int×J0×Bool×J2)):Env×Store:=Qh z146.l0sh [.i a,.lr c,.lr d,.i e,.i x.1,.s g,.s h,.i j,.i k,.i m,.i n,.i o,.i p,.i q,.i r,.lr t,.li u,.b v,.li x.2.1,.b x.2.2.1,.lr x.2.2.2]
def z146.l0out0 (a:Int) (c d:J2) (e:Int) (g h:J1) (j k m n p q r t:Int) (u:J2) (v:J0) (w:Bool) (o:Int×J0×Bool×J2):X×Env×Store:=((.exit 0),Qh z146.l0sh [.i a,.lr c,.lr d,.i e,.i o.1,.s g,.s h,.i j,.i k,.i m,.i n,.i p,.i q,.i r,.i t,.lr u,.li v,.b w,.li o.2.1,.b o.2.2.1,.lr o.2.2.2])
def z146.l0out1 (a c:J1) (d e g h j k m n:Int) (p:J2) (q:J0) (r:Bool) (o:J2×Int×J0×Bool×J2):X×Env×Store:=(.ret,Qh z146.l0so1 [.lr o.1,.i o.2.1,.s a,.s c,.i d,.i e,.i g,.i h,.i j,.i k,.i m,.i n,.lr p,.li q,.b r,.li o.2.2.1,.b o.2.2.2.1,.lr o.2.2.2.2])
def z146.l0pack:List Leaf->Option LPack
 |[.i a,.lr c,.lr d,.i e,.i g,.s h,.s j,.i k,.i m,.i n,.i o,.i p,.i q,.i r,.i t,.lr u,.li v,.b w,.li x,.b y,.lr z]=>some (.two _ _ (z146.l0 c d e h j k m n o p q r t v w (g,x,y,z)) (z146.l0out0 a c d e h j k m n o p q r t u v w) (z146.l0out1 h j k m n o p q r t u v w))
 |_=>none
def z146.C:Ctx where
 T:=tab
 draws:=λf i=>match f,i with|61,19=>([(74,[(9,19)],0),(75,[(11,0)],0),(76,[(74,2)],2),(77,[(7,0)],0),(78,[(76,4)],8),(79,[(12,0)],0),(80,[(78,6)],56),(81,[(14,0)],0),(82,[(80,8)],248),(83,[(12,0)],0),(84,[(14,0)],0),(85,[(82,10),(83,11)],2040),(86,[(84,12)],4088),(87,[(15,0)],0),(88,[(86,14)],16376),(89,[(75,3),(77,5),(79,7),(81,9),(85,13),(87,15)],32766),(90,[(88,16)],65534),(91,[(73,1),(89,17)],131071),(10,[(90,18)],262143)],2475870633837794810507821568)|_,_=>([],0)
 call:=Qf [(86,z130.pack),(129,z142.pack),(89,z76.pack),(130,z143.pack),(131,z145.pack),(132,z64.pack),(13,z83.pack),(12,z63.pack)]
 keep:=λf i=>match f,i with|61,0=>([1,2,3,4,6,7,9,38,39,40],[0,1,2,3,4],[])|_,_=>([],[],[])
 keepR:=λf i=>match f,i with|61,0=>([2,3],[0,1,2,3,4],[2,3])|_,_=>([],[],[])
 L:=Qs [⟨61,0,0,z146.l0sh,z146.l0pack⟩]
def z146.dec:V->Option (J2×Int)
 |(.tup [(.recs _ 8 x0),(.int .i64 x1)])=>some (x0,x1)
 |_=>none
theorem z146.l0_link (a:Int) (b c:J2) (d:Int) (e g:J1) (h j k m n o p q:Int) (r:J2) (s:J0) (t:Bool):Yp z146.C 6 61 0 0 5 (ifun Tryz.f61) (z146.l0at a b c d e g h j k m n o p q r s t) (z146.l0P b c d e g h j k m n o p q s t) (z146.l0out0 a b c d e g h j k m n o p q r s t) (z146.l0out1 e g h j k m n o p q r s t):=λ_ _ _ _=>by kernel_rfl
theorem z146.link (a0 a1:J1) (a2 a3 a4 a5 a6 a7 a8 a9:Int):z146.C.evTop 61 (ifun Tryz.f61) [(.agg [(.str a0),(.str a1),(.int .i64 a2),(.int .i64 a3),(.int .i64 a4),(.int .i64 a5),(.int .i64 a6),(.int .i64 a7),(.int .i64 a8),(.int .i64 a9)])] z146.dec=z146.F a0 a1 a2 a3 a4 a5 a6 a7 a8 a9:=by kernel_rfl
end
noncomputable section
def z5.l2sh:Env×Store:=((.ints false .i64 []) :: .undef::(.str ([]:J1))::(.str ([]:J1))::(.int .i64 0)::(.int .i64 0)::(.int .i64 0)::un 37 [],[])
def z5.l2at (a:J0) (b:J1) (c:Int) (x:(J1×Int×Int)):Env×Store:=Qh z5.l2sh [.li a,.s b,.s x.1,.i c,.i x.2.1,.i x.2.2]
def z5.l2out0 (a:J0) (b:J1) (c:Int) (o:J1×Int×Int):X×Env×Store:=((.exit 2),Qh z5.l2sh [.li a,.s b,.s o.1,.i c,.i o.2.1,.i o.2.2])
def z5.l2pack:List Leaf->Option LPack
 |[.li a,.s b,.s c,.i d,.i e,.i g]=>some (.one _ (z5.l2 (c,e,g)) (z5.l2out0 a b d))
 |_=>none
def z5.l0sh:Env×Store:=((.ints false .i64 []) :: .undef::(.str ([]:J1))::(.str ([]:J1))::(.int .i64 0)::un 39 [],[])
def z5.l0at (a:J0) (b:J1) (x:(J1×Int)):Env×Store:=Qh z5.l0sh [.li a,.s b,.s x.1,.i x.2]
def z5.l0out0 (a:J0) (b:J1) (o:J1×Int):X×Env×Store:=((.exit 0),Qh z5.l0sh [.li a,.s b,.s o.1,.i o.2])
def z5.l0pack:List Leaf->Option LPack
 |[.li a,.s b,.s c,.i d]=>some (.one _ (z5.l0 a (c,d)) (z5.l0out0 a b))
 |_=>none
def z5.l4sh:Env×Store:=(.undef :: .undef::(.str ([]:J1))::(.str ([]:J1))::un 3 ((.int .i64 0)::un 36 []),[])
def z5.l4at (a b:J1) (x:Int):Env×Store:=Qh z5.l4sh [.s a,.s b,.i x]
def z5.l4out0 (a b:J1) (o:Int):X×Env×Store:=((.exit 4),Qh z5.l4sh [.s a,.s b,.i o])
def z5.l4pack:List Leaf->Option LPack
 |[.s a,.s b,.i c]=>some (.one _ (z5.l4 b c) (z5.l4out0 a b))
 |_=>none
def z5.C:Ctx where
 T:=tab
 keep:=λf i=>match f,i with|71,2=>([0,2,3,4,5,6],[],[])|71,0=>([0,2,3,4],[],[])|71,4=>([2,3,7],[],[])|_,_=>([],[],[])
 keepR:=λf i=>match f,i with|71,2=>([2],[],[2])|71,0=>([2],[],[2])|71,4=>([2],[],[2])|_,_=>([],[],[])
 L:=Qs [⟨71,2,0,z5.l2sh,z5.l2pack⟩,⟨71,0,0,z5.l0sh,z5.l0pack⟩,⟨71,4,0,z5.l4sh,z5.l4pack⟩]
theorem z5.l2_link (a:J0) (b:J1) (c:Int):Qt z5.C 6 71 2 0 0 (ifun Tryz.f71) (z5.l2at a b c) (z5.l2P ) (z5.l2out0 a b c):=λ_ _ _ _=>by kernel_rfl
theorem z5.l0_link (a:J0) (b:J1):Qt z5.C 6 71 0 0 0 (ifun Tryz.f71) (z5.l0at a b) (z5.l0P a) (z5.l0out0 a b):=λ_ _ _ _=>by kernel_rfl
theorem z5.l4_link (a b:J1):Qt z5.C 6 71 4 0 0 (ifun Tryz.f71) (z5.l4at a b) (z5.l4P b) (z5.l4out0 a b):=λ_ _ _ _=>by kernel_rfl
theorem z5.link (a0:J0):z5.C.evTop 71 (ifun Tryz.f71) [(.ints false .i64 a0)] z81.dec=z5.F a0:=by kernel_rfl
def z8.C:Ctx where
 T:=tab
 call:=Qf [(202,z7.pack)]
theorem z8.link (a0 a1:Int):z8.C.evTop 133 (ifun Tryz.f133) [(.int .i64 a0),(.int .i64 a1)] z14.dec=z8.F a0 a1:=by kernel_rfl
def z11.C:Ctx where
 T:=tab
 call:=Qf [(111,z10.pack),(35,z9.pack)]
def z11.dec:V->Option (J0×Bool)
 |(.agg [(.ints _ .i64 x0),(.bool x1)])=>some (x0,x1)
 |_=>none
theorem z11.link (a0:Int):z11.C.evTop 64 (ifun Tryz.f64) [(.int .i64 a0)] z11.dec=z11.F a0:=by kernel_rfl
def z13.C:Ctx where
 T:=tab
theorem z13.link (a0:Int):z13.C.evTop 283 (ifun Tryz.f283) [(.int .i64 a0)] z21.dec=z13.F a0:=by kernel_rfl
def z16.C:Ctx where
 T:=tab
 draws:=λf i=>match f,i with|148,1=>([(6,[(2,0)],0),(7,[(5,1)],1),(8,[(3,0)],0),(9,[(7,3)],4),(10,[(6,2),(8,4)],15),(11,[(2,0)],0),(12,[(10,6)],32),(13,[(3,0)],0),(14,[(12,8)],128),(15,[(11,7),(13,9)],511),(16,[(2,0)],0),(17,[(15,11)],1024),(18,[(3,0)],0),(19,[(17,13)],4096),(20,[(16,12),(18,14)],16383),(21,[(9,5),(14,10),(19,15)],32767),(22,[(20,16)],65535),(5,[(21,17)],131071)],4194288)|_,_=>([],0)
 call:=Qf [(206,z14.pack),(210,z15.pack)]
theorem z16.link (a0 a1 a2 a3 a4 a5:Int):z16.C.evTop 148 (ifun Tryz.f148) [(.agg [(.int .i64 a0),(.int .i64 a1),(.int .i64 a2)]),(.agg [(.int .i64 a3),(.int .i64 a4),(.int .i64 a5)])] z14.dec=z16.F a0 a1 a2 a3 a4 a5:=by kernel_rfl
def z17.C:Ctx where
 T:=tab
theorem z17.link (a0:Int):z17.C.evTop 248 (ifun Tryz.f248) [(.int .i64 a0)] z21.dec=z17.F a0:=by kernel_rfl
def z20.C:Ctx where
 T:=tab
 draws:=λf i=>match f,i with|181,1=>([(4,[(1,0)],0),(5,[(3,1)],1),(6,[(4,2)],3),(7,[(5,3)],7),(8,[(1,0),(6,4)],15),(9,[(7,5),(6,4)],31),(10,[(1,0),(6,4)],15),(11,[(9,7),(6,4)],79),(12,[(1,0),(6,4)],15),(13,[(11,9),(6,4)],271),(14,[(10,8),(12,10),(6,4)],975),(15,[(8,6),(13,11),(6,4)],2047),(16,[(6,4),(14,12)],4095)],65528)|_,_=>([],0)
 call:=Qf [(183,z19.pack)]
theorem z20.link (a0 a1 a2:Int):z20.C.evTop 181 (ifun Tryz.f181) [(.agg [(.int .i64 a0),(.int .i64 a1),(.int .i64 a2)])] z14.dec=z20.F a0 a1 a2:=by kernel_rfl
def z24.l0sh:Env×Store:=((.ints false .u64 []) :: .undef::(.ptr 0 0)::(.int .i64 0)::un 19 [],[(.cells 37 [(.ints false .u64 [])])])
def z24.l0at (a b:J0) (x:Int):Env×Store:=Qh z24.l0sh [.li a,.i x,.li b]
def z24.l0out0 (a b:J0) (o:Int):X×Env×Store:=((.exit 0),Qh z24.l0sh [.li a,.i o,.li b])
def z24.l0pack:List Leaf->Option LPack
 |[.li a,.i b,.li c]=>some (.one _ (z24.l0 a b) (z24.l0out0 a c))
 |_=>none
def z24.C:Ctx where
 T:=tab
 keep:=λf i=>match f,i with|107,0=>([0,2,3],[0],[])|_,_=>([],[],[])
 keepR:=λf i=>match f,i with|107,0=>([2],[0],[2])|_,_=>([],[],[])
 L:=Qs [⟨107,0,0,z24.l0sh,z24.l0pack⟩]
theorem z24.l0_link (a b:J0):Qt z24.C 6 107 0 0 1 (ifun Tryz.f107) (z24.l0at a b) (z24.l0P a) (z24.l0out0 a b):=λ_ _ _ _=>by kernel_rfl
theorem z24.link (a0:J0):z24.C.evTop 107 (ifun Tryz.f107) [(.ints false .u64 a0)] z48.dec=z24.F a0:=by kernel_rfl
def z25.C:Ctx where
 T:=tab
 call:=Qf [(107,z24.pack)]
 prim:=Yj [(108,J4 (.ints true .u64 []) 63 8)]
theorem z25.link (a0:J0):z25.C.evTop 33 (ifun Tryz.f33) [(.ints false .u64 a0)] z48.dec=z25.F a0:=by kernel_rfl
def z29.C:Ctx where
 T:=tab
theorem z29.link (a0:J0) (a1:Bool):z29.C.evTop 237 (ifun Tryz.f237) [(.agg [(.ints false .u64 a0),(.bool a1)])] z48.dec=z29.F a0 a1:=by kernel_rfl
def z30.C:Ctx where
 T:=tab
def z30.dec:V->Option (Int)
 |(.int .u64 x0)=>some x0
 |_=>none
theorem z30.link (a0:J0) (a1:Int):z30.C.evTop 139 (ifun Tryz.f139) [(.agg [(.ints false .u64 a0)]),(.int .i64 a1)] z30.dec=z30.F a0 a1:=by kernel_rfl
def z31.C:Ctx where
 T:=tab
theorem z31.link (a0:Int):z31.C.evTop 284 (ifun Tryz.f284) [(.int .u64 a0)] z21.dec=z31.F a0:=by kernel_rfl
def z37.C:Ctx where
 T:=tab
 call:=Qf [(324,z36.pack)]
theorem z37.link (a0:Int):z37.C.evTop 286 (ifun Tryz.f286) [(.int .u64 a0)] z14.dec=z37.F a0:=by kernel_rfl
def z38.l0sh:Env×Store:=(.undef :: .undef::(.int .u64 0)::un 3 ((.int .u64 0)::(.int .u64 0)::(.int .u64 0)::(.int .u64 0)::(.int .u64 0)::(.int .u64 0) :: .undef::(.int .u64 0)::(.int .u64 0)::(.int .u64 0)::(.int .u64 0)::un 118 []),[])
def z38.l0at (a b c d e g h j k:Int) (x:(Int×Int)):Env×Store:=Qh z38.l0sh [.i a,.i b,.i c,.i d,.i e,.i g,.i h,.i j,.i k,.i x.1,.i x.2]
def z38.l0out0 (a b c d e g h j k:Int) (o:Int×Int):X×Env×Store:=((.exit 0),Qh z38.l0sh [.i a,.i b,.i c,.i d,.i e,.i g,.i h,.i j,.i k,.i o.1,.i o.2])
def z38.l0pack:List Leaf->Option LPack
 |[.i a,.i b,.i c,.i d,.i e,.i g,.i h,.i j,.i k,.i m,.i n]=>some (.one _ (z38.l0 e g j (m,n)) (z38.l0out0 a b c d e g h j k))
 |_=>none
def z38.l2sh:Env×Store:=(.undef :: .undef::(.int .u64 0)::un 3 ((.int .u64 0)::(.int .u64 0)::(.int .u64 0)::(.int .u64 0)::(.int .u64 0)::un 3 ((.int .u64 0)::(.int .u64 0)::(.int .u64 0)::(.int .u64 0)::(.int .u64 0)::un 116 [])),[])
def z38.l2at (a b c d e g h j k:Int) (x:(Int×Int)):Env×Store:=Qh z38.l2sh [.i a,.i b,.i c,.i d,.i e,.i g,.i h,.i j,.i x.1,.i k,.i x.2]
def z38.l2out0 (a b c d e g h j k:Int) (o:Int×Int):X×Env×Store:=((.exit 2),Qh z38.l2sh [.i a,.i b,.i c,.i d,.i e,.i g,.i h,.i j,.i o.1,.i k,.i o.2])
def z38.l2pack:List Leaf->Option LPack
 |[.i a,.i b,.i c,.i d,.i e,.i g,.i h,.i j,.i k,.i m,.i n]=>some (.one _ (z38.l2 e g h (k,n)) (z38.l2out0 a b c d e g h j m))
 |_=>none
def z38.C:Ctx where
 T:=tab
 draws:=λf i=>match f,i with|285,6=>([(29,[(1,0)],0),(30,[(2,0)],0),(31,[(28,1),(29,2)],3),(32,[(1,0)],0),(33,[(2,0)],0),(34,[(31,4),(32,5)],24),(7,[(30,3)],7),(8,[(33,6)],127)],16911433920)|_,_=>([],0)
 call:=Qf [(286,z37.pack)]
 keep:=λf i=>match f,i with|285,0=>([2,6,7,8,9,10,11,13,14,15,16,105,106,107,108,109,110,111,112],[],[])|285,2=>([2,6,7,8,9,10,14,15,16,17,18],[],[])|_,_=>([],[],[])
 keepR:=λf i=>match f,i with|285,0=>([6,7],[],[6,7])|285,2=>([6,7],[],[6,7])|_,_=>([],[],[])
 L:=Qs [⟨285,0,0,z38.l0sh,z38.l0pack⟩,⟨285,2,0,z38.l2sh,z38.l2pack⟩]
def z38.dec:V->Option (Int×Int)
 |(.tup [(.int .u64 x0),(.int .u64 x1)])=>some (x0,x1)
 |_=>none
theorem z38.l0_link (a b c d e g h j k:Int):Qt z38.C 6 285 0 0 0 (ifun Tryz.f285) (z38.l0at a b c d e g h j k) (z38.l0P e g j) (z38.l0out0 a b c d e g h j k):=λ_ _ _ _=>by kernel_rfl
theorem z38.l2_link (a b c d e g h j k:Int):Qt z38.C 6 285 2 0 0 (ifun Tryz.f285) (z38.l2at a b c d e g h j k) (z38.l2P e g h) (z38.l2out0 a b c d e g h j k):=λ_ _ _ _=>by kernel_rfl
theorem z38.link (a0 a1 a2:Int):z38.C.evTop 285 (ifun Tryz.f285) [(.int .u64 a0),(.int .u64 a1),(.int .u64 a2)] z38.dec=z38.F a0 a1 a2:=by kernel_rfl
def z39.l0sh:Env×Store:=((.ints false .u64 [])::(.int .u64 0) :: .undef :: .undef::(.sref 0 0)::(.int .u64 0)::(.sref 1 0)::(.int .u64 0)::(.int .i64 0)::un 25 [],[(.arr 0 true 63 (.ints false .u64 [])),(.arr 0 false 63 (.ints false .u64 []))])
def z39.l0at (a:J0) (b c:Int) (d:J0) (x:(Int×Int×J0)):Env×Store:=Qh z39.l0sh [.li a,.i b,.i c,.i x.1,.i x.2.1,.li d,.li x.2.2]
def z39.l0out0 (a:J0) (b c:Int) (d:J0) (o:Int×Int×J0):X×Env×Store:=((.exit 0),Qh z39.l0sh [.li a,.i b,.i c,.i o.1,.i o.2.1,.li d,.li o.2.2])
def z39.l0pack:List Leaf->Option LPack
 |[.li a,.i b,.i c,.i d,.i e,.li g,.li h]=>some (.one _ (z39.l0 a b (d,e,h)) (z39.l0out0 a b c g))
 |_=>none
def z39.C:Ctx where
 T:=tab
 call:=Qf [(285,z38.pack)]
 keep:=λf i=>match f,i with|208,0=>([0,1,4,5,6,7,8],[0,1],[])|_,_=>([],[],[])
 keepR:=λf i=>match f,i with|208,0=>([4,5],[0,1],[4,5])|_,_=>([],[],[])
 L:=Qs [⟨208,0,0,z39.l0sh,z39.l0pack⟩]
def z39.dec:V->Option (J0×Int)
 |(.tup [(.ints _ .u64 x0),(.int .u64 x1)])=>some (x0,x1)
 |_=>none
theorem z39.l0_link (a:J0) (b c:Int) (d:J0):Qt z39.C 6 208 0 0 2 (ifun Tryz.f208) (z39.l0at a b c d) (z39.l0P a b) (z39.l0out0 a b c d):=λ_ _ _ _=>by kernel_rfl
theorem z39.link (a0:J0) (a1:Int):z39.C.evTop 208 (ifun Tryz.f208) [(.ints false .u64 a0),(.int .u64 a1)] z39.dec=z39.F a0 a1:=by kernel_rfl
def z43.l0sh:Env×Store:=(.undef::(.int .u64 0) :: .undef :: .undef::(.sref 2 0)::(.sref 3 0)::un 6 ((.ints false .u64 [])::(.int .i64 0)::(.int .i64 0)::un 23 []),[(.arr 0 true 63 (.ints false .u64 [])),(.arr 0 true 63 (.ints false .u64 [])),(.arr 0 true 63 (.ints false .u64 [])),(.arr 0 false 63 (.ints false .u64 []))])
def z43.l0at (a:Int) (b:J0) (c:Int) (d e g:J0) (x:(Int×J0)):Env×Store:=Qh z43.l0sh [.i a,.li b,.i c,.i x.1,.li d,.li e,.li g,.li x.2]
def z43.l0out0 (a:Int) (b:J0) (c:Int) (d e g:J0) (o:Int×J0):X×Env×Store:=((.exit 0),Qh z43.l0sh [.i a,.li b,.i c,.i o.1,.li d,.li e,.li g,.li o.2])
def z43.l0pack:List Leaf->Option LPack
 |[.i a,.li b,.i c,.i d,.li e,.li g,.li h,.li j]=>some (.one _ (z43.l0 a b c (d,j)) (z43.l0out0 a b c e g h))
 |_=>none
def z43.l0ash:Env×Store:=(.undef::(.int .u64 0) :: .undef :: .undef::(.sref 4 0)::(.sref 5 0)::un 6 ((.ints false .u64 [])::(.int .i64 0)::(.int .i64 0)::un 23 []),[(.arr 0 true 63 (.ints false .u64 [])),(.arr 0 true 63 (.ints false .u64 [])),(.arr 0 true 63 (.ints false .u64 [])),(.arr 0 false 63 (.ints false .u64 [])),(.arr 0 true 63 (.ints false .u64 [])),(.arr 0 false 63 (.ints false .u64 []))])
def z43.l0aat (a:Int) (b:J0) (c:Int) (d e g h j:J0) (x:(Int×J0)):Env×Store:=Qh z43.l0ash [.i a,.li b,.i c,.i x.1,.li d,.li e,.li g,.li h,.li j,.li x.2]
def z43.l0aout0 (a:Int) (b:J0) (c:Int) (d e g h j:J0) (o:Int×J0):X×Env×Store:=((.exit 0),Qh z43.l0ash [.i a,.li b,.i c,.i o.1,.li d,.li e,.li g,.li h,.li j,.li o.2])
def z43.l0apack:List Leaf->Option LPack
 |[.i a,.li b,.i c,.i d,.li e,.li g,.li h,.li j,.li k,.li m]=>some (.one _ (z43.l0a a b c (d,m)) (z43.l0aout0 a b c e g h j k))
 |_=>none
def z43.l0b3sh:Env×Store:=((.sview 3 0 0 0)::(.sview 5 0 0 0)::(.int .u64 0)::un 3 ((.int .u64 0)::(.int .u64 0)::(.int .u64 0)::un 5 ((.sview 5 0 0 0)::(.int .i64 0)::(.int .i64 0)::un 49 [])),[(.arr 0 true 63 (.ints false .u64 [])),(.arr 0 true 63 (.ints false .u64 [])),.dead,(.arr 0 false 63 (.ints false .u64 [])),.dead,(.arr 0 false 63 (.ints false .u64 [])),(.arr 0 false 63 (.ints false .u64 []))])
def z43.l0b4t (a b c d:Nat) (e g:Int) (h j:Nat) (k:Int) (m o p q:J0) (x:(Int×Int×Int×J0)):Env×Store:=Qh z43.l0b3sh [.n a,.n b,.n c,.n d,.i e,.i g,.i x.1,.i x.2.1,.n h,.n j,.i k,.i x.2.2.1,.li m,.li o,.li x.2.2.2,.li p,.li q]
def z43.l0b3out0 (a b c d:Nat) (e g:Int) (h j:Nat) (k:Int) (m p q r:J0) (o:Int×Int×Int×J0):X×Env×Store:=((.exit 0),Qh z43.l0b3sh [.n a,.n b,.n c,.n d,.i e,.i g,.i o.1,.i o.2.1,.n h,.n j,.i k,.i o.2.2.1,.li m,.li p,.li o.2.2.2,.li q,.li r])
def z43.l0b3pack:List Leaf->Option LPack
 |[.n a,.n b,.n c,.n d,.i e,.i g,.i h,.i j,.n k,.n m,.i o,.i p,.li q,.li r,.li s,.li t,.li u]=>some (.one _ (z43.l0b3 a b e k m o t (h,j,p,s)) (z43.l0b3out0 a b c d e g k m o q r t u))
 |_=>none
def z43.l0b4sh:Env×Store:=((.sview 3 0 0 0)::(.sview 5 0 0 0) :: .undef :: .undef::(.int .u64 0) :: .undef :: .undef::(.sview 5 0 0 0)::(.int .i64 0)::(.int .i64 0)::un 26 [],[(.arr 0 true 63 (.ints false .u64 [])),(.arr 0 true 63 (.ints false .u64 [])),.dead,(.arr 0 false 63 (.ints false .u64 [])),.dead,(.arr 0 false 63 (.ints false .u64 [])),(.arr 0 false 63 (.ints false .u64 []))])
def z43.l0b5t (a b c d e g:Nat) (h:Int) (j k m o:J0) (x:(Int×Int×J0)):Env×Store:=Qh z43.l0b4sh [.n a,.n b,.n c,.n d,.i x.1,.n e,.n g,.i h,.i x.2.1,.li j,.li k,.li x.2.2,.li m,.li o]
def z43.l0b4out0 (a b c d e g:Nat) (h:Int) (j k m p:J0) (o:Int×Int×J0):X×Env×Store:=((.exit 0),Qh z43.l0b4sh [.n a,.n b,.n c,.n d,.i o.1,.n e,.n g,.i h,.i o.2.1,.li j,.li k,.li o.2.2,.li m,.li p])
def z43.l0b4pack:List Leaf->Option LPack
 |[.n a,.n b,.n c,.n d,.i e,.n g,.n h,.i j,.i k,.li m,.li o,.li p,.li q,.li r]=>some (.one _ (z43.l0b4 a b g h j q (e,k,p)) (z43.l0b4out0 a b c d g h j m o q r))
 |_=>none
def z43.l2sh:Env×Store:=((.sref 3 0)::(.sview 5 0 0 0) :: .undef :: .undef::(.sref 0 0)::(.sref 1 0)::(.int .u64 0)::(.sref 6 0)::(.int .i64 0)::(.sview 3 0 0 0)::(.int .u64 0)::(.int .u64 0)::un 75 [],[(.arr 0 true 63 (.ints false .u64 [])),(.arr 0 true 63 (.ints false .u64 [])),.dead,(.arr 0 false 63 (.ints false .u64 [])),.dead,(.arr 0 false 63 (.ints false .u64 [])),(.arr 0 false 63 (.ints false .u64 []))])
def z43.l2at (a b:Nat) (c d:Int) (e g:Nat) (h j k m:J0) (x:(Int×Int×J0)):Env×Store:=Qh z43.l2sh [.n a,.n b,.i c,.i d,.n e,.n g,.i x.1,.i x.2.1,.li h,.li j,.li x.2.2,.li k,.li m]
def z43.l2out0 (a b:Nat) (c d:Int) (e g:Nat) (h j k m:J0) (o:Int×Int×J0):X×Env×Store:=((.exit 2),Qh z43.l2sh [.n a,.n b,.i c,.i d,.n e,.n g,.i o.1,.i o.2.1,.li h,.li j,.li o.2.2,.li k,.li m])
def z43.l2pack:List Leaf->Option LPack
 |[.n a,.n b,.i c,.i d,.n e,.n g,.i h,.i j,.li k,.li m,.li o,.li p,.li q]=>some (.one _ (z43.l2 a b e g p (h,j,o)) (z43.l2out0 a b c d e g k m p q))
 |_=>none
def z43.l0aash:Env×Store:=((.sref 3 0)::(.sview 5 0 0 0) :: .undef :: .undef::(.sref 0 0)::(.sref 1 0)::(.int .u64 0)::(.sref 6 0)::(.int .i64 0)::un 78 [],[(.arr 0 true 63 (.ints false .u64 [])),(.arr 0 true 63 (.ints false .u64 [])),.dead,(.arr 0 false 63 (.ints false .u64 [])),.dead,(.arr 0 false 63 (.ints false .u64 [])),(.arr 0 false 63 (.ints false .u64 []))])
def z43.l0b3t (a b:Nat) (c:Int) (d e g:J0) (x:(Int×J0×J0)):Env×Store:=Qh z43.l0aash [.n a,.n b,.i c,.i x.1,.li d,.li e,.li x.2.1,.li g,.li x.2.2]
def z43.l0aaout0 (a b:Nat) (c:Int) (d e g:J0) (o:Int×J0×J0):X×Env×Store:=((.exit 0),Qh z43.l0aash [.n a,.n b,.i c,.i o.1,.li d,.li e,.li o.2.1,.li g,.li o.2.2])
def z43.l0aapack:List Leaf->Option LPack
 |[.n a,.n b,.i c,.i d,.li e,.li g,.li h,.li j,.li k]=>some (.one _ (z43.l0aa a b j (d,h,k)) (z43.l0aaout0 a b c e g j))
 |_=>none
def z43.C:Ctx where
 T:=tab
 draws:=λf i=>match f,i with|209,2=>([(23,[(0,10)],0),(24,[(6,0)],0),(25,[(22,1),(23,2)],3),(26,[(1,11)],0),(27,[(6,0)],0),(28,[(25,4),(26,5)],31),(29,[(1,11)],0),(30,[(28,7)],64),(31,[(27,6),(29,8)],255),(1,[(24,3)],63),(2,[(30,9)],1023)],2143289347)|288,2=>([(18,[(0,0)],0),(19,[(5,0)],0),(20,[(17,1),(18,2)],3),(21,[(19,3)],7),(22,[(0,0)],0),(23,[(5,0)],0),(24,[(22,6)],32),(25,[(21,5),(23,7)],112),(26,[(24,8)],240),(27,[(0,0)],0),(28,[(5,0)],0),(29,[(27,11)],1024),(30,[(26,10),(28,12)],3584),(31,[(29,13)],7680),(7,[(20,4)],15),(8,[(25,9)],16895),(9,[(30,14)],65535)],2147353024)|_,_=>([],0)
 call:=Qf [(286,z37.pack),(297,z42.pack),(138,z0.pack),(141,z1.pack),(285,z38.pack),(33,z25.pack),(291,z41.pack),(143,z35.pack)]
 inl:=inlL [(287,Tryz.f287),(288,Tryz.f288),(289,Tryz.f289),(290,Tryz.f290)]
 keep:=λf i=>match f,i with|287,0=>([1,4,5,12,13,14],List.range 64,[])|289,0=>([0,1,2,6,7,8,14,15,16],List.range 64,[])|290,0=>([0,1,4,7,8,9],List.range 64,[])|209,2=>([0,1,4,5,6,7,8,9,10,11],[0,1,3,5,6],[])|209,0=>([0,1,4,5,6,7,8],[0,1,3,5,6],[])|_,_=>([],[],[])
 keepR:=λf i=>match f,i with|287,0=>([4],List.range 64,[])|289,0=>([6],List.range 64,[])|290,0=>([],List.range 64,[])|209,2=>([4,5],[0,1,3,5,6],[4,5])|209,0=>([4,5],[0,1,3,5,6],[4,5])|_,_=>([],[],[])
 unroll:=λf i=>match f,i with|288,1000000=>2|_,_=>0
 L:=Qs [⟨287,0,2,z43.l0sh,z43.l0pack⟩,⟨287,0,4,z43.l0ash,z43.l0apack⟩,⟨289,0,7,z43.l0b3sh,z43.l0b3pack⟩,⟨290,0,7,z43.l0b4sh,z43.l0b4pack⟩,⟨209,2,0,z43.l2sh,z43.l2pack⟩,⟨209,0,0,z43.l0aash,z43.l0aapack⟩]
def z43.dec:V->Option (J0×J0)
 |(.tup [(.ints _ .u64 x0),(.ints _ .u64 x1)])=>some (x0,x1)
 |_=>none
theorem z43.l0_link (a:Int) (b:J0) (c:Int) (d e g:J0):Qt z43.C 0 287 0 2 4 (ifun Tryz.f287) (z43.l0at a b c d e g) (z43.l0P a b c) (z43.l0out0 a b c d e g):=λ_ _ _ _=>by kernel_rfl
theorem z43.l0a_link (a:Int) (b:J0) (c:Int) (d e g h j:J0):Qt z43.C 0 287 0 4 6 (ifun Tryz.f287) (z43.l0aat a b c d e g h j) (z43.l0aP a b c) (z43.l0aout0 a b c d e g h j):=λ_ _ _ _=>by kernel_rfl
theorem z43.l0b3_link (a b c d:Nat) (e g:Int) (h j:Nat) (k:Int) (m n o p:J0):Qt z43.C 0 289 0 7 7 (ifun Tryz.f289) (z43.l0b4t a b c d e g h j k m n o p) (z43.l0b3P a b e h j k o) (z43.l0b3out0 a b c d e g h j k m n o p):=λ_ _ _ _=>by kernel_rfl
theorem z43.l0b4_link (a b c d e g:Nat) (h:Int) (j k m n:J0):Qt z43.C 0 290 0 7 7 (ifun Tryz.f290) (z43.l0b5t a b c d e g h j k m n) (z43.l0b4P a b e g h m) (z43.l0b4out0 a b c d e g h j k m n):=λ_ _ _ _=>by kernel_rfl
theorem z43.l2_link (a b:Nat) (c d:Int) (e g:Nat) (h j k m:J0):Qt z43.C 6 209 2 0 7 (ifun Tryz.f209) (z43.l2at a b c d e g h j k m) (z43.l2P a b e g k) (z43.l2out0 a b c d e g h j k m):=λ_ _ _ _=>by kernel_rfl
theorem z43.l0aa_link (a b:Nat) (c:Int) (d e g:J0):Qt z43.C 6 209 0 0 7 (ifun Tryz.f209) (z43.l0b3t a b c d e g) (z43.l0aaP a b g) (z43.l0aaout0 a b c d e g):=λ_ _ _ _=>by kernel_rfl
theorem z43.link (a0 a1:J0):z43.C.evTop 209 (ifun Tryz.f209) [(.ints false .u64 a0),(.ints false .u64 a1)] z43.dec=z43.F a0 a1:=by kernel_rfl
def z45.l0sh:Env×Store:=(.undef :: .undef::(.ptr 0 0)::(.ptr 1 0)::(.ptr 2 0)::un 16 [],[(.cells 37 [(.ints false .u64 [])]),(.cells 37 [(.ints false .u64 [])]),(.cells 37 [(.ints false .u64 [])])])
def z45.l0at (a:J0) (x:(J0×J0)):Env×Store:=Qh z45.l0sh [.li x.1,.li x.2,.li a]
def z45.l0out0 (a:J0) (o:J0×J0):X×Env×Store:=((.exit 0),Qh z45.l0sh [.li o.1,.li o.2,.li a])
def z45.l0pack:List Leaf->Option LPack
 |[.li a,.li b,.li c]=>some (.one _ (z45.l0 (a,b)) (z45.l0out0 c))
 |_=>none
def z45.C:Ctx where
 T:=tab
 draws:=λf i=>match f,i with|306,3=>([(19,[(3,0)],0),(20,[(6,0)],0),(0,[(2,0),(18,1)],1),(0,[(3,0),(19,2)],7)],786432)|_,_=>([],0)
 call:=Qf [(75,z21.pack),(142,z44.pack)]
 keep:=λf i=>match f,i with|306,0=>([2,3,4],[0,1,2],[])|_,_=>([],[],[])
 keepR:=λf i=>match f,i with|306,0=>([4],[0,1,2],[4])|_,_=>([],[],[])
 L:=Qs [⟨306,0,0,z45.l0sh,z45.l0pack⟩]
theorem z45.l0_link (a:J0):Qt z45.C 6 306 0 0 3 (ifun Tryz.f306) (z45.l0at a) (z45.l0P ) (z45.l0out0 a):=λ_ _ _ _=>by kernel_rfl
theorem z45.link (a0 a1:J0):z45.C.evTop 306 (ifun Tryz.f306) [(.agg [(.ints false .u64 a0)]),(.agg [(.ints false .u64 a1)])] z48.dec=z45.F a0 a1:=by kernel_rfl
def z46.C:Ctx where
 T:=tab
 draws:=λf i=>match f,i with|243,1=>([(15,[(2,0)],0),(16,[(14,1)],1),(17,[(3,0)],0),(18,[(15,2),(16,3)],7),(6,[],0),(0,[(5,5),(17,4)],31)],245792)|243,2=>([(20,[(2,0)],0),(21,[(19,1)],1),(22,[(5,0)],0),(23,[(20,2),(21,3)],7),(19,[(22,4)],15),(24,[(18,5)],31),(25,[(18,5)],31),(26,[(18,5)],31),(7,[],0),(8,[],0),(0,[(6,9),(23,6)],831),(0,[(7,10),(24,7)],1919),(9,[(25,8)],4095)],66847168)|243,4=>([(35,[(9,0)],0),(36,[],0),(37,[(35,2)],2),(38,[(34,1),(36,3)],7),(34,[(37,4)],15),(39,[(33,5)],31),(40,[(33,5)],31),(13,[],0),(0,[(12,8),(38,6)],191),(14,[(39,7)],511)],1090921705472)|243,5=>([(41,[(6,0)],0),(42,[(2,0)],0),(43,[(41,2)],2),(44,[(42,3)],6),(45,[(40,1),(43,4)],15),(46,[(12,0)],0),(47,[(44,5),(45,6)],63),(0,[(4,0),(46,7)],127)],139637976727552)|_,_=>([],0)
 call:=Qf [(237,z29.pack),(306,z45.pack),(142,z44.pack),(33,z25.pack),(69,z34.pack),(16,z22.pack),(32,z23.pack)]
theorem z46.link (a0:J0) (a1:Bool) (a2:J0):z46.C.evTop 243 (ifun Tryz.f243) [(.agg [(.ints false .u64 a0),(.bool a1)]),(.agg [(.ints false .u64 a2)])] z72.dec=z46.F a0 a1 a2:=by kernel_rfl
def z55.C:Ctx where
 T:=tab
 call:=Qf [(124,z54.pack)]
theorem z55.link (a0 a1:J1):z55.C.evTop 159 (ifun Tryz.f159) [(.str a0),(.str a1)] z56.dec=z55.F a0 a1:=by kernel_rfl
def z57.l2sh:Env×Store:=((.str ([]:J1)) :: .undef::(.ptr 0 0)::(.int .i64 0)::(.ptr 1 0) :: .undef::(.int .i64 0)::(.int .u64 0)::un 39 ((.ptr 2 0)::un 21 []),[(.cells 37 [(.ints false .u64 [])]),(.cells 37 [(.ints false .u64 [])]),(.siter ([]:J1) 0)])
def z57.l2at (a:J1) (b c:Int) (d e:J0) (g:J1) (x:(Int×Nat)):Env×Store:=Qh z57.l2sh [.s a,.i b,.i c,.i x.1,.li d,.li e,.s g,.n x.2]
def z57.l2out0 (a:J1) (b c:Int) (d e:J0) (g:J1) (o:Int×Nat):X×Env×Store:=((.exit 2),Qh z57.l2sh [.s a,.i b,.i c,.i o.1,.li d,.li e,.s g,.n o.2])
def z57.l2pack:List Leaf->Option LPack
 |[.s a,.i b,.i c,.i d,.li e,.li g,.s h,.n j]=>some (.one _ (z57.l2 h (d,j)) (z57.l2out0 a b c e g h))
 |_=>none
def z57.l2ash:Env×Store:=((.str ([]:J1)) :: .undef::(.ptr 0 0)::(.int .i64 0)::(.ptr 1 0) :: .undef::(.int .i64 0)::(.int .u64 0)::un 33 ((.int .i64 0)::(.bool false)::un 4 ((.ptr 2 0)::un 21 [])),[(.cells 37 [(.ints false .u64 [])]),(.cells 37 [(.ints false .u64 [])]),(.siter ([]:J1) 0)])
def z57.l2aat (a:J1) (c d e:Int) (g:Bool) (h j:J0) (k:J1) (x:(Int×Nat)):Env×Store:=Qh z57.l2ash [.s a,.i c,.i d,.i x.1,.i e,.b g,.li h,.li j,.s k,.n x.2]
def z57.l2aout0 (a:J1) (c d e:Int) (g:Bool) (h j:J0) (k:J1) (o:Int×Nat):X×Env×Store:=((.exit 2),Qh z57.l2ash [.s a,.i c,.i d,.i o.1,.i e,.b g,.li h,.li j,.s k,.n o.2])
def z57.l2apack:List Leaf->Option LPack
 |[.s a,.i c,.i d,.i e,.i g,.b h,.li j,.li k,.s m,.n o]=>some (.one _ (z57.l2a m (e,o)) (z57.l2aout0 a c d g h j k m))
 |_=>none
def z57.l0sh:Env×Store:=((.str ([]:J1)) :: .undef::(.ptr 0 0)::(.int .i64 0)::(.ptr 1 0)::(.bool false)::un 63 [],[(.cells 37 [(.ints false .u64 [])]),(.cells 37 [(.ints false .u64 [])])])
def z57.l0at (a:Int) (c:J0) (x:(J1×Bool×J0)):Env×Store:=Qh z57.l0sh [.s x.1,.i a,.b x.2.1,.li c,.li x.2.2]
def z57.l0out0 (a:Int) (c:J0) (o:J1×Bool×J0):X×Env×Store:=((.exit 0),Qh z57.l0sh [.s o.1,.i a,.b o.2.1,.li c,.li o.2.2])
def z57.l0pack:List Leaf->Option LPack
 |[.s a,.i c,.b d,.li e,.li g]=>some (.one _ (z57.l0 (a,d,g)) (z57.l0out0 c e))
 |_=>none
def z57.C:Ctx where
 T:=tab
 draws:=λf i=>match f,i with|93,17=>([(58,[(4,0)],0),(59,[],0),(60,[(58,2)],2),(61,[(57,1),(59,3)],7),(62,[(7,0)],0),(63,[(61,5)],16),(64,[(62,6)],63),(65,[(60,4),(63,7)],127),(0,[(4,0),(64,8)],255)],36749372959343247360)|_,_=>([],0)
 call:=Qf [(160,z3.pack),(33,z25.pack),(161,z48.pack),(68,z50.pack)]
 keep:=λf i=>match f,i with|93,2=>([0,2,3,4,6,7,41,42,47],[0,1,2],[])|93,0=>([0,2,3,4,5],[0,1],[])|_,_=>([],[],[])
 keepR:=λf i=>match f,i with|93,2=>([2,3],[0,1,2],[2,3])|93,0=>([2,3],[0,1],[2,3])|_,_=>([],[],[])
 L:=Qs [⟨93,2,0,z57.l2sh,z57.l2pack⟩,⟨93,2,0,z57.l2ash,z57.l2apack⟩,⟨93,0,0,z57.l0sh,z57.l0pack⟩]
theorem z57.l2_link (a:J1) (b c:Int) (d e:J0) (g:J1):Qt z57.C 6 93 2 0 3 (ifun Tryz.f93) (z57.l2at a b c d e g) (z57.l2P g) (z57.l2out0 a b c d e g):=λ_ _ _ _=>by kernel_rfl
theorem z57.l2a_link (a:J1) (b c d:Int) (e:Bool) (g h:J0) (j:J1):Qt z57.C 6 93 2 0 3 (ifun Tryz.f93) (z57.l2aat a b c d e g h j) (z57.l2aP j) (z57.l2aout0 a b c d e g h j):=λ_ _ _ _=>by kernel_rfl
theorem z57.l0_link (a:Int) (b:J0):Qt z57.C 6 93 0 0 2 (ifun Tryz.f93) (z57.l0at a b) (z57.l0P ) (z57.l0out0 a b):=λ_ _ _ _=>by kernel_rfl
theorem z57.link (a0:J1):z57.C.evTop 93 (ifun Tryz.f93) [(.str a0)] z89.dec=z57.F a0:=by kernel_rfl
def z62.C:Ctx where
 T:=tab
theorem z62.link (a0:J0) (a1:Bool) (a2:Int):z62.C.evTop 252 (ifun Tryz.f252) [(.agg [(.ints false .u64 a0),(.bool a1),(.int .i64 a2)])] z28.dec=z62.F a0 a1 a2:=by kernel_rfl
def z66.l0sh:Env×Store:=(.undef::(.int .i64 0)::(.ptr 0 0) :: .undef::(.ptr 1 0)::(.ptr 2 0)::un 18 [],[(.cells 37 [(.ints false .u64 [])]),(.cells 37 [(.ints false .u64 [])]),(.cells 37 [(.ints false .u64 [])])])
def z66.l0at (a:J0) (x:(Int×J0×J0)):Env×Store:=Qh z66.l0sh [.i x.1,.li x.2.1,.li a,.li x.2.2]
def z66.l0out0 (a:J0) (o:Int×J0×J0):X×Env×Store:=((.exit 0),Qh z66.l0sh [.i o.1,.li o.2.1,.li a,.li o.2.2])
def z66.l0pack:List Leaf->Option LPack
 |[.i a,.li b,.li c,.li d]=>some (.one _ (z66.l0 (a,b,d)) (z66.l0out0 c))
 |_=>none
def z66.C:Ctx where
 T:=tab
 call:=Qf [(33,z25.pack),(161,z48.pack)]
 keep:=λf i=>match f,i with|293,0=>([1,2,4,5],[0,1,2],[])|_,_=>([],[],[])
 keepR:=λf i=>match f,i with|293,0=>([4],[0,1,2],[4])|_,_=>([],[],[])
 L:=Qs [⟨293,0,0,z66.l0sh,z66.l0pack⟩]
theorem z66.l0_link (a:J0):Qt z66.C 6 293 0 0 3 (ifun Tryz.f293) (z66.l0at a) (z66.l0P ) (z66.l0out0 a):=λ_ _ _ _=>by kernel_rfl
theorem z66.link (a0:J0) (a1:Int):z66.C.evTop 293 (ifun Tryz.f293) [(.agg [(.ints false .u64 a0)]),(.int .i64 a1)] z48.dec=z66.F a0 a1:=by kernel_rfl
def z67.C:Ctx where
 T:=tab
 call:=Qf [(33,z25.pack),(293,z66.pack)]
theorem z67.link (a0:Int):z67.C.evTop 213 (ifun Tryz.f213) [(.int .i64 a0)] z89.dec=z67.F a0:=by kernel_rfl
def z69.C:Ctx where
 T:=tab
 draws:=λf i=>match f,i with|312,1=>([(6,[(2,0)],0),(7,[(5,1)],1),(8,[(1,0)],0),(9,[(2,0)],0),(10,[(8,4)],8),(11,[(7,3),(9,5)],28),(12,[(10,6)],60),(13,[(6,2),(11,7)],127),(0,[(4,0),(12,8)],255)],8160)|_,_=>([],0)
 call:=Qf [(313,z68.pack),(239,z49.pack)]
theorem z69.link (a0:J0) (a1:Bool) (a2 a3:Int):z69.C.evTop 312 (ifun Tryz.f312) [(.agg [(.ints false .u64 a0),(.bool a1),(.int .i64 a2)]),(.int .i64 a3)] z28.dec=z69.F a0 a1 a2 a3:=by kernel_rfl
def z74.C:Ctx where
 T:=tab
 call:=Qf [(92,z56.pack),(93,z57.pack),(75,z21.pack),(32,z23.pack)]
theorem z74.link (a0:J1):z74.C.evTop 27 (ifun Tryz.f27) [(.str a0)] z76.dec=z74.F a0:=by kernel_rfl
def z79.C:Ctx where
 T:=tab
 call:=Qf [(181,z20.pack),(148,z16.pack),(212,z78.pack)]
theorem z79.link (a0 a1 a2 a3:Int) (a4:J1) (a5 a6 a7:Int):z79.C.evTop 154 (ifun Tryz.f154) [(.agg [(.int .i64 a0),(.int .i64 a1),(.int .i64 a2),(.int .i64 a3),(.str a4)]),(.agg [(.int .i64 a5),(.int .i64 a6),(.int .i64 a7)])] z14.dec=z79.F a0 a1 a2 a3 a4 a5 a6 a7:=by kernel_rfl
def z80.l0sh:Env×Store:=(.undef :: .undef::(.int .i64 0)::(.int .i64 0)::(.ptr 0 0)::un 6 ((.recs false 5 [])::(.int .i64 0)::(.int .i64 0)::un 14 []),[(.cells 41 [(.int .i64 0),(.int .i64 0),(.int .i64 0)])])
def z80.l0so1:Env×Store:=(.undef :: .undef::(.int .i64 0)::(.int .i64 0)::un 24 [],[(.cells 41 [(.int .i64 0),(.int .i64 0),(.int .i64 0)])])
def z80.l0at (a b:Int) (c:J2) (d:Int) (x:(Int×Int×Int×Int)):Env×Store:=Qh z80.l0sh [.i a,.i b,.lr c,.i d,.i x.1,.i x.2.1,.i x.2.2.1,.i x.2.2.2]
def z80.l0out0 (a b:Int) (c:J2) (d:Int) (o:Int×Int×Int×Int):X×Env×Store:=((.exit 0),Qh z80.l0sh [.i a,.i b,.lr c,.i d,.i o.1,.i o.2.1,.i o.2.2.1,.i o.2.2.2])
def z80.l0out1 (o:Int×Int×Int×Int×Int):X×Env×Store:=(.ret,Qh z80.l0so1 [.i o.1,.i o.2.1,.i o.2.2.1,.i o.2.2.2.1,.i o.2.2.2.2])
def z80.l0pack:List Leaf->Option LPack
 |[.i a,.i b,.lr c,.i d,.i e,.i g,.i h,.i j]=>some (.two _ _ (z80.l0 c d (e,g,h,j)) (z80.l0out0 a b c d) (z80.l0out1 ))
 |_=>none
def z80.C:Ctx where
 T:=tab
 call:=Qf [(154,z79.pack)]
 keep:=λf i=>match f,i with|87,0=>([2,3,4,11,12,13],[0],[])|_,_=>([],[],[])
 keepR:=λf i=>match f,i with|87,0=>([2,3],[0],[2,3])|_,_=>([],[],[])
 L:=Qs [⟨87,0,0,z80.l0sh,z80.l0pack⟩]
theorem z80.l0_link (a b:Int) (c:J2) (d:Int):Yp z80.C 6 87 0 0 1 (ifun Tryz.f87) (z80.l0at a b c d) (z80.l0P c d) (z80.l0out0 a b c d) (z80.l0out1 ):=λ_ _ _ _=>by kernel_rfl
theorem z80.link (a0:J2):z80.C.evTop 87 (ifun Tryz.f87) [(.recs false 5 a0)] z110.dec=z80.F a0:=by kernel_rfl
def z84.C:Ctx where
 T:=tab
 draws:=λf i=>match f,i with|200,1=>([(6,[(2,0)],0),(7,[(5,1)],1),(8,[(3,0)],0),(9,[(7,3)],4),(10,[(6,2),(8,4)],15),(11,[(2,0)],0),(12,[(10,6)],63),(13,[(3,0)],0),(14,[(12,8)],255),(15,[(11,7),(13,9)],511),(16,[(9,5),(14,10)],1023),(0,[(4,0),(15,11)],2047)],65504)|_,_=>([],0)
 call:=Qf [(239,z49.pack),(235,z51.pack),(161,z48.pack),(243,z46.pack)]
theorem z84.link (a0:J0) (a1:Bool) (a2 a3:J0) (a4:Bool) (a5:J0):z84.C.evTop 200 (ifun Tryz.f200) [(.agg [(.ints false .u64 a0),(.bool a1),(.ints false .u64 a2)]),(.agg [(.ints false .u64 a3),(.bool a4),(.ints false .u64 a5)])] z72.dec=z84.F a0 a1 a2 a3 a4 a5:=by kernel_rfl
def z85.C:Ctx where
 T:=tab
 call:=Qf [(184,z73.pack),(37,z26.pack),(174,z47.pack),(200,z84.pack)]
theorem z85.link (a0:J1) (a1:Int):z85.C.evTop 170 (ifun Tryz.f170) [(.str a0),(.int .i64 a1)] z53.dec=z85.F a0 a1:=by kernel_rfl
def z105.C:Ctx where
 T:=tab
 call:=Qf [(320,z104.pack)]
theorem z105.link (a0:Int):z105.C.evTop 326 (ifun Tryz.f326) [(.int .i64 a0)] z21.dec=z105.F a0:=by kernel_rfl
def z106.C:Ctx where
 T:=tab
 call:=Qf [(37,z26.pack),(174,z47.pack)]
theorem z106.link (a0 a1:Int):z106.C.evTop 280 (ifun Tryz.f280) [(.int .i64 a0),(.int .i64 a1)] z72.dec=z106.F a0 a1:=by kernel_rfl
def z116.C:Ctx where
 T:=tab
 call:=Qf [(148,z16.pack)]
theorem z116.link (a0 a1 a2 a3 a4 a5:Int):z116.C.evTop 336 (ifun Tryz.f336) [(.agg [(.int .i64 a0),(.int .i64 a1),(.int .i64 a2)]),(.agg [(.int .i64 a3),(.int .i64 a4),(.int .i64 a5)])] z12.dec=z116.F a0 a1 a2 a3 a4 a5:=by kernel_rfl
def z129.C:Ctx where
 T:=tab
 call:=Qf [(198,z127.pack),(211,z128.pack)]
def z129.dec:V->Option (J2×Int)
 |(.tup [(.recs _ 3 x0),(.int .i64 x1)])=>some (x0,x1)
 |_=>none
theorem z129.link (a0 a1:J1) (a2 a3 a4 a5 a6 a7 a8 a9:Int):z129.C.evTop 153 (ifun Tryz.f153) [(.agg [(.str a0),(.str a1),(.int .i64 a2),(.int .i64 a3),(.int .i64 a4),(.int .i64 a5),(.int .i64 a6),(.int .i64 a7),(.int .i64 a8),(.int .i64 a9)])] z129.dec=z129.F a0 a1 a2 a3 a4 a5 a6 a7 a8 a9:=by kernel_rfl
def z130.l0sh:Env×Store:=(.undef :: .undef::(.sref 1 0)::(.int .i64 0) :: .undef :: .undef::(.sref 2 0)::(.ptr 3 0)::un 12 ((.recs false 3 [])::(.int .i64 0)::(.int .i64 0)::un 12 []),[.dead,(.arr 0 true 175 (.recs false 6 [])),(.arr 0 true 175 (.recs false 6 [])),(.cells 41 [(.int .i64 0),(.int .i64 0),(.int .i64 0)])])
def z130.l0at (a:Int) (b:J2) (c:Int) (d:J2) (x:(Int×J2×Int×Int×Int)):Env×Store:=Qh z130.l0sh [.i a,.lr b,.i c,.i x.1,.lr d,.lr x.2.1,.i x.2.2.1,.i x.2.2.2.1,.i x.2.2.2.2]
def z130.l0out0 (a:Int) (b:J2) (c:Int) (d:J2) (o:Int×J2×Int×Int×Int):X×Env×Store:=((.exit 0),Qh z130.l0sh [.i a,.lr b,.i c,.i o.1,.lr d,.lr o.2.1,.i o.2.2.1,.i o.2.2.2.1,.i o.2.2.2.2])
def z130.l0pack:List Leaf->Option LPack
 |[.i a,.lr b,.i c,.i d,.lr e,.lr g,.i h,.i j,.i k]=>some (.one _ (z130.l0 b c (d,g,h,j,k)) (z130.l0out0 a b c e))
 |_=>none
def z130.C:Ctx where
 T:=tab
 call:=Qf [(153,z129.pack)]
 keep:=λf i=>match f,i with|86,0=>([2,3,6,7,20,21,22],[1,2,3],[])|_,_=>([],[],[])
 keepR:=λf i=>match f,i with|86,0=>([2,3],[1,2,3],[2,3])|_,_=>([],[],[])
 L:=Qs [⟨86,0,0,z130.l0sh,z130.l0pack⟩]
def z130.dec:V->Option (J2×Int)
 |(.tup [(.recs _ 6 x0),(.int .i64 x1)])=>some (x0,x1)
 |_=>none
theorem z130.l0_link (a:Int) (b:J2) (c:Int) (d:J2):Qt z130.C 6 86 0 0 4 (ifun Tryz.f86) (z130.l0at a b c d) (z130.l0P b c) (z130.l0out0 a b c d):=λ_ _ _ _=>by kernel_rfl
theorem z130.link (a0 a1:J1) (a2 a3 a4 a5 a6 a7 a8 a9:Int):z130.C.evTop 86 (ifun Tryz.f86) [(.agg [(.str a0),(.str a1),(.int .i64 a2),(.int .i64 a3),(.int .i64 a4),(.int .i64 a5),(.int .i64 a6),(.int .i64 a7),(.int .i64 a8),(.int .i64 a9)])] z130.dec=z130.F a0 a1 a2 a3 a4 a5 a6 a7 a8 a9:=by kernel_rfl
def z138.C:Ctx where
 T:=tab
 call:=Qf [(112,z137.pack),(35,z9.pack)]
theorem z138.link (a0:J0) (a1:Bool) (a2:J0) (a3:Bool):z138.C.evTop 103 (ifun Tryz.f103) [(.agg [(.ints false .i64 a0),(.bool a1)]),(.agg [(.ints false .i64 a2),(.bool a3)])] z11.dec=z138.F a0 a1 a2 a3:=by kernel_rfl
def z144.C:Ctx where
 T:=tab
 call:=Qf [(155,z65.pack)]
 meth:=λt m=>if t=39/\m = "Cmp" then some 155 else none
theorem z144.link (a0:J0) (a1:Bool) (a2:J0) (a3:Bool):z144.C.evTop 201 (ifun Tryz.f201) [(.agg [(.ints false .u64 a0),(.bool a1)]),(.agg [(.ints false .u64 a2),(.bool a3)])] z28.dec=z144.F a0 a1 a2 a3:=by kernel_rfl
def z145.C:Ctx where
 T:=tab
 call:=Qf [(132,z64.pack),(16,z22.pack),(201,z144.pack)]
theorem z145.link (a0:Int) (a1:J0) (a2:Bool) (a3:J0) (a4:Bool) (a5:J0) (a6:Bool):z145.C.evTop 131 (ifun Tryz.f131) [(.int .i64 a0),(.agg [(.ints false .u64 a1),(.bool a2)]),(.agg [(.ints false .u64 a3),(.bool a4)]),(.agg [(.ints false .u64 a5),(.bool a6)])] z28.dec=z145.F a0 a1 a2 a3 a4 a5 a6:=by kernel_rfl
def z147.C:Ctx where
 T:=tab
 call:=Qf [(30,z140.pack),(25,z132.pack),(61,z146.pack),(26,z134.pack),(29,z141.pack)]
theorem z147.link (a0 a1 a2 a3 a4 a5 a6 a7 a8 a9 a10 a11:Int):z147.C.evTop 9 (ifun Tryz.f9) [(.agg [(.int .u64 a0),(.int .u16 a1),(.int .u32 a2),(.int .u8 a3),(.int .u8 a4),(.int .u8 a5),(.int .u8 a6),(.int .u8 a7),(.int .u8 a8),(.int .i64 a9),(.int .i64 a10),(.int .i64 a11)])] z21.dec=z147.F a0 a1 a2 a3 a4 a5 a6 a7 a8 a9 a10 a11:=by kernel_rfl
end
noncomputable section
def z9.C:Ctx where
 T:=tab
theorem z9.link (a0:J0) (a1:Bool):z9.C.evTop 35 (ifun Tryz.f35) [(.ints false .i64 a0),(.bool a1)] z11.dec=z9.F a0 a1:=by kernel_rfl
def z10.l0sh:Env×Store:=((.int .i64 0) :: .undef::(.sref 0 0)::(.sref 1 0)::un 10 [],[(.arr 0 true 3 (.ints false .i64 [])),(.arr 0 true 3 (.ints false .i64 []))])
def z10.l0at (a:J0) (x:(Int×J0)):Env×Store:=Qh z10.l0sh [.i x.1,.li a,.li x.2]
def z10.l0out0 (a:J0) (o:Int×J0):X×Env×Store:=((.exit 0),Qh z10.l0sh [.i o.1,.li a,.li o.2])
def z10.l0pack:List Leaf->Option LPack
 |[.i a,.li b,.li c]=>some (.one _ (z10.l0 (a,c)) (z10.l0out0 b))
 |_=>none
def z10.C:Ctx where
 T:=tab
 keep:=λf i=>match f,i with|111,0=>([0,2,3],[0,1],[])|_,_=>([],[],[])
 keepR:=λf i=>match f,i with|111,0=>([2],[0,1],[2])|_,_=>([],[],[])
 L:=Qs [⟨111,0,0,z10.l0sh,z10.l0pack⟩]
theorem z10.l0_link (a:J0):Qt z10.C 6 111 0 0 2 (ifun Tryz.f111) (z10.l0at a) (z10.l0P ) (z10.l0out0 a):=λ_ _ _ _=>by kernel_rfl
theorem z10.link (a0:Int):z10.C.evTop 111 (ifun Tryz.f111) [(.int .i64 a0)] z136.dec=z10.F a0:=by kernel_rfl
def z18.C:Ctx where
 T:=tab
 call:=Qf [(248,z17.pack)]
theorem z18.link (a0:Int):z18.C.evTop 249 (ifun Tryz.f249) [(.int .i64 a0)] z21.dec=z18.F a0:=by kernel_rfl
def z23.C:Ctx where
 T:=tab
 draws:=λf i=>match f,i with|32,1=>([(6,[(2,0)],0),(7,[(1,0)],0),(8,[(6,2)],2),(9,[(2,0),(7,3)],6),(10,[(8,4),(7,3)],14),(11,[(9,5),(7,3)],30),(12,[(7,3),(10,6)],62),(13,[(5,1),(11,7)],127),(0,[(4,0),(12,8)],255)],8160)|_,_=>([],0)
 call:=Qf [(75,z21.pack)]
theorem z23.link (a0:J0) (a1:Bool):z23.C.evTop 32 (ifun Tryz.f32) [(.agg [(.ints false .u64 a0)]),(.bool a1)] z28.dec=z23.F a0 a1:=by kernel_rfl
def z26.C:Ctx where
 T:=tab
 call:=Qf [(33,z25.pack),(32,z23.pack)]
theorem z26.link (a0:Int):z26.C.evTop 37 (ifun Tryz.f37) [(.int .i64 a0)] z28.dec=z26.F a0:=by kernel_rfl
def z27.C:Ctx where
 T:=tab
theorem z27.link (a0:J0) (a1:Bool):z27.C.evTop 172 (ifun Tryz.f172) [(.agg [(.ints false .u64 a0),(.bool a1)])] z72.dec=z27.F a0 a1:=by kernel_rfl
def z33.l0sh:Env×Store:=(.undef :: .undef::(.ptr 0 0)::(.ptr 1 0)::(.int .i64 0) :: .undef::(.int .i64 0)::un 33 [],[(.cells 37 [(.ints false .u64 [])]),(.cells 37 [(.ints false .u64 [])])])
def z33.l0so1:Env×Store:=(un 4 ((.int .i64 0)::un 35 []),[(.cells 37 [(.ints false .u64 [])]),(.cells 37 [(.ints false .u64 [])])])
def z33.l0at (a:Int) (b c:J0) (x:Int):Env×Store:=Qh z33.l0sh [.i a,.i x,.li b,.li c]
def z33.l0out0 (a:Int) (b c:J0) (o:Int):X×Env×Store:=((.exit 0),Qh z33.l0sh [.i a,.i o,.li b,.li c])
def z33.l0out1 (a b:J0) (o:Int):X×Env×Store:=(.ret,Qh z33.l0so1 [.i o,.li a,.li b])
def z33.l0pack:List Leaf->Option LPack
 |[.i a,.i b,.li c,.li d]=>some (.two _ _ (z33.l0 c d b) (z33.l0out0 a c d) (z33.l0out1 c d))
 |_=>none
def z33.C:Ctx where
 T:=tab
 draws:=λf i=>match f,i with|140,7=>([(27,[(2,0)],0),(28,[(26,1)],1),(29,[(6,0)],0),(30,[(27,2),(28,3)],7),(31,[(29,4)],15),(32,[(3,0)],0),(33,[(31,6)],32),(34,[(6,0)],0),(35,[(32,7),(33,8)],224),(36,[(34,9)],480),(37,[(30,5),(35,10)],1023),(8,[(36,11)],2047)],137371844736)|_,_=>([],0)
 call:=Qf [(206,z14.pack),(207,z32.pack)]
 keep:=λf i=>match f,i with|140,0=>([2,3,4,6],[0,1],[])|_,_=>([],[],[])
 keepR:=λf i=>match f,i with|140,0=>([4],[0,1],[4])|_,_=>([],[],[])
 L:=Qs [⟨140,0,0,z33.l0sh,z33.l0pack⟩]
theorem z33.l0_link (a:Int) (b c:J0):Yp z33.C 6 140 0 0 2 (ifun Tryz.f140) (z33.l0at a b c) (z33.l0P b c) (z33.l0out0 a b c) (z33.l0out1 b c):=λ_ _ _ _=>by kernel_rfl
theorem z33.link (a0 a1:J0):z33.C.evTop 140 (ifun Tryz.f140) [(.agg [(.ints false .u64 a0)]),(.agg [(.ints false .u64 a1)])] z14.dec=z33.F a0 a1:=by kernel_rfl
def z36.C:Ctx where
 T:=tab
theorem z36.link (a0:Int):z36.C.evTop 324 (ifun Tryz.f324) [(.int .u64 a0)] z14.dec=z36.F a0:=by kernel_rfl
def z41.l0sh:Env×Store:=(un 4 ((.ptr 1 0)::(.int .i64 0)::(.sview 4 0 0 0)::(.int .u64 0)::un 17 ((.int .i64 0)::(.int .i64 0)::un 31 [])),[.dead,(.cells 37 [(.ints false .u64 [])]),.dead,.dead,(.arr 0 true 63 (.ints false .u64 []))])
def z41.l0at (a:Int) (b c:Nat) (d e:Int) (g:J0) (x:(Int×J0)):Env×Store:=Qh z41.l0sh [.i a,.n b,.n c,.i d,.i e,.i x.1,.li g,.li x.2]
def z41.l0out0 (a:Int) (b c:Nat) (d e:Int) (g:J0) (o:Int×J0):X×Env×Store:=((.exit 0),Qh z41.l0sh [.i a,.n b,.n c,.i d,.i e,.i o.1,.li g,.li o.2])
def z41.l0pack:List Leaf->Option LPack
 |[.i a,.n b,.n c,.i d,.i e,.i g,.li h,.li j]=>some (.one _ (z41.l0 b c d e (g,j)) (z41.l0out0 a b c d e h))
 |_=>none
def z41.C:Ctx where
 T:=tab
 draws:=λf i=>match f,i with|291,11=>([(42,[(6,0)],0),(43,[(8,0)],0),(44,[(41,1),(42,2)],3),(45,[(43,3)],7),(46,[(6,0)],0),(47,[(8,0)],0),(48,[(46,6)],32),(49,[(45,5),(47,7)],112),(50,[(48,8)],240),(51,[(7,0)],0),(52,[(50,10)],512),(53,[(49,9),(51,11)],2032),(54,[(44,4),(52,12)],4095),(55,[(41,1),(42,2)],8191),(0,[(54,14),(53,13)],16383)],36026597995708416)|_,_=>([],0)
 call:=Qf [(325,z40.pack),(33,z25.pack)]
 inl:=inlL [(143,Tryz.f143)]
 rank:=λg=>match g with|143=>1|_=>0
 prim:=Yj [(108,J4 (.ints true .u64 []) 63 8)]
 keep:=λf i=>match f,i with|291,0=>([4,5,6,7,25,26],[1,4],[])|_,_=>([],[],[])
 keepR:=λf i=>match f,i with|291,0=>([4,5],[1,4],[4,5])|_,_=>([],[],[])
 L:=Qs [⟨291,0,0,z41.l0sh,z41.l0pack⟩]
theorem z41.l0_link (a:Int) (b c:Nat) (d e:Int) (g:J0):Qt z41.C 6 291 0 0 5 (ifun Tryz.f291) (z41.l0at a b c d e g) (z41.l0P b c d e) (z41.l0out0 a b c d e g):=λ_ _ _ _=>by kernel_rfl
theorem z41.link (a0:J0) (a1:Int):z41.C.evTop 291 (ifun Tryz.f291) [(.agg [(.ints false .u64 a0)]),(.int .i64 a1)] z89.dec=z41.F a0 a1:=by kernel_rfl
def z42.C:Ctx where
 T:=tab
theorem z42.link (a0 a1:Int):z42.C.evTop 297 (ifun Tryz.f297) [(.int .u64 a0),(.int .u64 a1)] z38.dec=z42.F a0 a1:=by kernel_rfl
def z47.C:Ctx where
 T:=tab
 draws:=λf i=>match f,i with|174,6=>([(16,[(2,0)],0),(17,[(3,0)],0),(18,[(16,2)],2),(19,[(15,1),(17,3)],7),(0,[(4,0),(18,4)],15),(6,[],31)],491552)|_,_=>([],0)
 call:=Qf [(16,z22.pack),(81,z28.pack),(237,z29.pack),(243,z46.pack)]
theorem z47.link (a0:J0) (a1:Bool) (a2:J0) (a3:Bool):z47.C.evTop 174 (ifun Tryz.f174) [(.agg [(.ints false .u64 a0),(.bool a1)]),(.agg [(.ints false .u64 a2),(.bool a3)])] z53.dec=z47.F a0 a1 a2 a3:=by kernel_rfl
def z52.C:Ctx where
 T:=tab
 call:=Qf [(235,z51.pack),(32,z23.pack)]
theorem z52.link (a0:J0) (a1:Bool) (a2:J0):z52.C.evTop 304 (ifun Tryz.f304) [(.agg [(.ints false .u64 a0),(.bool a1),(.ints false .u64 a2)])] z28.dec=z52.F a0 a1 a2:=by kernel_rfl
def z59.C:Ctx where
 T:=tab
 draws:=λf i=>match f,i with|329,3=>([(14,[(0,0)],0),(15,[(7,0)],0),(16,[(13,1),(14,2)],3),(17,[(0,0)],0),(18,[(7,0)],0),(19,[(1,0)],0),(20,[(18,6)],32),(21,[(17,5),(19,7)],112),(22,[(16,4),(20,8)],248),(5,[(15,3)],7),(6,[(21,9)],1023),(7,[],2047)],4186224)|_,_=>([],0)
 call:=Qf [(92,z56.pack),(310,z58.pack),(160,z3.pack),(260,z4.pack),(93,z57.pack),(32,z23.pack),(317,z2.pack)]
 inl:=inlL [(309,Tryz.f309),(329,Tryz.f329),(197,Tryz.f197),(272,Tryz.f272)]
 rank:=λg=>match g with|309=>3|329=>2|197=>1|_=>0
def z59.dec:V->Option (J0×Bool×Int×Int)
 |(.tup [(.agg [(.ints _ .u64 x0),(.bool x1),(.int .i64 x2)]),(.int .i64 x3)])=>some (x0,x1,x2,x3)
 |_=>none
theorem z59.link (a0:J1):z59.C.evTop 250 (ifun Tryz.f250) [(.str a0)] z59.dec=z59.F a0:=by kernel_rfl
def z61.C:Ctx where
 T:=tab
 call:=Qf [(311,z60.pack)]
theorem z61.link (a0:J0) (a1:Bool) (a2:Int):z61.C.evTop 251 (ifun Tryz.f251) [(.agg [(.ints false .u64 a0),(.bool a1)]),(.int .i64 a2)] z59.dec=z61.F a0 a1 a2:=by kernel_rfl
def z63.C:Ctx where
 T:=tab
 draws:=λf i=>match f,i with|12,2=>([(15,[(2,0)],0),(16,[(14,1)],1),(17,[(3,0)],0),(18,[(16,3)],4),(19,[(15,2),(17,4)],15),(20,[(2,0)],0),(21,[(19,6)],32),(22,[(18,5),(20,7)],127),(0,[(4,0),(21,8)],255)],4177920)|_,_=>([],0)
 call:=Qf [(68,z50.pack),(32,z23.pack),(69,z34.pack)]
theorem z63.link (a0:J0) (a1:Bool) (a2:J0) (a3:Bool):z63.C.evTop 12 (ifun Tryz.f12) [(.agg [(.ints false .u64 a0),(.bool a1)]),(.agg [(.ints false .u64 a2),(.bool a3)])] z28.dec=z63.F a0 a1 a2 a3:=by kernel_rfl
def z70.C:Ctx where
 T:=tab
 draws:=λf i=>match f,i with|253,2=>([(12,[(2,0)],0),(13,[(5,0)],0),(14,[(11,1),(12,2)],3),(15,[(3,0)],0),(16,[(5,0)],0),(17,[(14,4),(15,5)],31),(18,[(13,3),(16,6)],63),(5,[(17,7)],127)],260112)|_,_=>([],0)
 call:=Qf [(312,z69.pack),(155,z65.pack)]
theorem z70.link (a0:J0) (a1:Bool) (a2:Int) (a3:J0) (a4:Bool) (a5:Int):z70.C.evTop 253 (ifun Tryz.f253) [(.agg [(.ints false .u64 a0),(.bool a1),(.int .i64 a2)]),(.agg [(.ints false .u64 a3),(.bool a4),(.int .i64 a5)])] z14.dec=z70.F a0 a1 a2 a3 a4 a5:=by kernel_rfl
def z78.C:Ctx where
 T:=tab
 call:=Qf [(292,z77.pack),(184,z73.pack)]
theorem z78.link (a0 a1 a2 a3:Int) (a4:J1):z78.C.evTop 212 (ifun Tryz.f212) [(.agg [(.int .i64 a0),(.int .i64 a1),(.int .i64 a2),(.int .i64 a3),(.str a4)])] z14.dec=z78.F a0 a1 a2 a3 a4:=by kernel_rfl
def z83.C:Ctx where
 T:=tab
 call:=Qf [(70,z82.pack)]
theorem z83.link (a0:J0) (a1:Bool):z83.C.evTop 13 (ifun Tryz.f13) [(.agg [(.ints false .u64 a0),(.bool a1)])] z81.dec=z83.F a0 a1:=by kernel_rfl
def z87.C:Ctx where
 T:=tab
theorem z87.link (a0:J0) (a1:Bool) (a2:J0):z87.C.evTop 236 (ifun Tryz.f236) [(.agg [(.ints false .u64 a0),(.bool a1),(.ints false .u64 a2)])] z28.dec=z87.F a0 a1 a2:=by kernel_rfl
def z88.C:Ctx where
 T:=tab
 call:=Qf [(75,z21.pack),(324,z36.pack)]
theorem z88.link (a0:J0):z88.C.evTop 305 (ifun Tryz.f305) [(.agg [(.ints false .u64 a0)])] z14.dec=z88.F a0:=by kernel_rfl
def z90.C:Ctx where
 T:=tab
 call:=Qf [(32,z23.pack)]
theorem z90.link (a0:J0):z90.C.evTop 240 (ifun Tryz.f240) [(.agg [(.ints false .u64 a0)])] z28.dec=z90.F a0:=by kernel_rfl
def z91.C:Ctx where
 T:=tab
 draws:=λf i=>match f,i with|171,6=>([(35,[(3,0)],0),(36,[(2,0)],0),(37,[(35,2)],2),(38,[(36,3)],6),(39,[(34,1),(37,4)],15),(40,[(38,5)],31),(41,[(38,5)],31),(0,[(6,0),(39,6)],127),(8,[(40,7)],255)],2181843386496)|171,8=>([(44,[(4,0)],0),(45,[(43,1)],1),(46,[(44,2)],3),(47,[(8,0)],0),(48,[(45,3),(46,4)],15),(10,[],0),(0,[(9,6),(47,5)],63)],272678883688960)|171,14=>([(74,[(3,0)],0),(75,[(73,1)],1),(76,[(4,0)],0),(77,[(75,3)],7),(78,[(74,2),(76,4)],15),(79,[(10,0)],0),(80,[(78,6)],63),(81,[(77,5),(79,7)],127),(17,[],0),(0,[(16,9),(80,8)],511)],2408406906263519059050496)|171,15=>([(82,[(16,0)],0),(83,[(3,0)],0),(84,[(82,2)],2),(85,[(8,0)],0),(86,[(83,3),(84,4)],14),(87,[(14,0)],0),(88,[(85,5),(86,6)],62),(89,[(87,7)],126),(90,[(81,1),(88,8)],255),(91,[(89,9)],511),(92,[(89,9)],511),(0,[(6,0),(90,10)],2047),(8,[(91,11)],4095)],4949342305502291841247084672)|_,_=>([],0)
 call:=Qf [(233,z86.pack),(37,z26.pack),(172,z27.pack),(234,z53.pack),(235,z51.pack),(236,z87.pack),(237,z29.pack),(68,z50.pack),(238,z89.pack),(69,z34.pack),(239,z49.pack),(240,z90.pack),(161,z48.pack),(174,z47.pack)]
theorem z91.link (a0:J0) (a1:Bool) (a2 a3:J0) (a4:Bool) (a5:J0) (a6:Int):z91.C.evTop 171 (ifun Tryz.f171) [(.agg [(.ints false .u64 a0),(.bool a1),(.ints false .u64 a2)]),(.agg [(.ints false .u64 a3),(.bool a4),(.ints false .u64 a5)]),(.int .i64 a6)] z53.dec=z91.F a0 a1 a2 a3 a4 a5 a6:=by kernel_rfl
def z93.C:Ctx where
 T:=tab
 draws:=λf i=>match f,i with|242,1=>([(12,[(6,0)],0),(13,[(6,0)],0),(14,[(11,1),(12,2)],3),(15,[(7,0)],0),(16,[(13,3),(14,4)],15),(10,[(15,5)],31)],64000)|_,_=>([],0)
 call:=Qf [(68,z50.pack),(140,z33.pack),(143,z35.pack)]
theorem z93.link (a0:Int) (a1 a2 a3:J0):z93.C.evTop 242 (ifun Tryz.f242) [(.int .i64 a0),(.agg [(.ints false .u64 a1)]),(.agg [(.ints false .u64 a2)]),(.agg [(.ints false .u64 a3)])] z21.dec=z93.F a0 a1 a2 a3:=by kernel_rfl
def z94.C:Ctx where
 T:=tab
 draws:=λf i=>match f,i with|173,3=>([(15,[(2,0)],0),(16,[(14,1)],1),(17,[(15,2)],3),(18,[(2,0)],0),(19,[(17,4)],15),(20,[(16,3),(18,5)],31),(14,[(19,6)],63),(21,[(13,7)],127),(22,[(13,7)],127),(23,[(13,7)],127),(7,[],0),(8,[],0),(0,[(6,11),(20,8)],3327),(0,[(7,12),(21,9)],7679),(9,[(22,10)],16383)],8380864)|173,4=>([(24,[(7,0)],0),(25,[(23,1)],1),(26,[(24,2)],3),(27,[(25,3)],7),(28,[(1,0),(26,4)],15),(29,[(6,0),(26,4)],15),(30,[(7,0),(26,4)],15),(31,[(2,0),(26,4)],15),(32,[(30,8),(26,4)],143),(33,[(27,5),(28,6),(29,7),(31,9),(26,4)],511),(34,[(26,4),(32,10)],1023)],17171480576)|173,5=>([(35,[(6,0)],0),(36,[],0),(37,[(35,2)],2),(38,[(34,1),(36,3)],7),(0,[(6,0),(37,4)],15)],257698037760)|173,6=>([(39,[(6,0)],0),(40,[(2,0)],0),(41,[(39,2)],2),(42,[(40,3)],6),(43,[(38,1),(41,4)],15),(0,[(4,0),(42,5)],31),(6,[],63)],8521215115296)|_,_=>([],0)
 call:=Qf [(241,z92.pack),(236,z87.pack),(237,z29.pack),(235,z51.pack),(142,z44.pack),(75,z21.pack),(242,z93.pack),(33,z25.pack),(68,z50.pack),(233,z86.pack),(32,z23.pack)]
theorem z94.link (a0:J0) (a1:Bool) (a2:J0) (a3:Int):z94.C.evTop 173 (ifun Tryz.f173) [(.agg [(.ints false .u64 a0),(.bool a1),(.ints false .u64 a2)]),(.int .i64 a3)] z76.dec=z94.F a0 a1 a2 a3:=by kernel_rfl
def z95.C:Ctx where
 T:=tab
 draws:=λf i=>match f,i with|105,6=>([(31,[(5,0)],0),(32,[(30,1)],1),(33,[(12,0)],0),(34,[(3,0)],0),(35,[(31,2),(32,3),(33,4)],15),(30,[(34,5)],31),(36,[(29,6)],63),(37,[(29,6)],63),(15,[],0),(0,[(14,9),(35,7)],383),(14,[(36,8)],1023)],136902107136)|_,_=>([],0)
 call:=Qf [(170,z85.pack),(16,z22.pack),(172,z27.pack),(171,z91.pack),(173,z94.pack)]
theorem z95.link (a0:J0) (a1:Bool) (a2:J1) (a3 a4 a5:Int):z95.C.evTop 105 (ifun Tryz.f105) [(.agg [(.ints false .u64 a0),(.bool a1)]),(.str a2),(.int .i64 a3),(.int .i64 a4),(.int .i64 a5)] z76.dec=z95.F a0 a1 a2 a3 a4 a5:=by kernel_rfl
def z96.C:Ctx where
 T:=tab
 draws:=λf i=>match f,i with|106,5=>([(25,[(3,0)],0),(26,[(1,0)],0),(27,[(25,2)],2),(28,[(24,1),(26,3)],7),(24,[(27,4)],15),(29,[(23,5)],31),(30,[(23,5)],31),(9,[],0),(0,[(8,8),(28,6)],191),(10,[(29,7)],511)],1065353984)|_,_=>([],0)
 call:=Qf [(16,z22.pack),(37,z26.pack),(174,z47.pack),(173,z94.pack)]
theorem z96.link (a0:J0) (a1:Bool) (a2 a3:Int):z96.C.evTop 106 (ifun Tryz.f106) [(.agg [(.ints false .u64 a0),(.bool a1)]),(.int .i64 a2),(.int .i64 a3)] z76.dec=z96.F a0 a1 a2 a3:=by kernel_rfl
def z108.C:Ctx where
 T:=tab
theorem z108.link (a0:Int):z108.C.evTop 182 (ifun Tryz.f182) [(.int .i64 a0)] z14.dec=z108.F a0:=by kernel_rfl
def z109.l0sh:Env×Store:=(.undef::(.ptr 0 0)::(.int .i64 0)::(.int .i64 0) :: .undef::(.int .i64 0)::(.int .i64 0)::un 24 [],[(.cells 41 [(.int .i64 0),(.int .i64 0),(.int .i64 0)])])
def z109.l0at (a b c d e:Int) (x:(Int×Int)):Env×Store:=Qh z109.l0sh [.i a,.i b,.i x.1,.i x.2,.i c,.i d,.i e]
def z109.l0out0 (a b c d e:Int) (o:Int×Int):X×Env×Store:=((.exit 0),Qh z109.l0sh [.i a,.i b,.i o.1,.i o.2,.i c,.i d,.i e])
def z109.l0pack:List Leaf->Option LPack
 |[.i a,.i b,.i c,.i d,.i e,.i g,.i h]=>some (.one _ (z109.l0 e g (c,d)) (z109.l0out0 a b e g h))
 |_=>none
def z109.C:Ctx where
 T:=tab
 call:=Qf [(181,z20.pack),(182,z108.pack),(183,z19.pack)]
 keep:=λf i=>match f,i with|114,0=>([1,2,3,5,6],[0],[])|_,_=>([],[],[])
 keepR:=λf i=>match f,i with|114,0=>([2,3],[0],[2,3])|_,_=>([],[],[])
 L:=Qs [⟨114,0,0,z109.l0sh,z109.l0pack⟩]
theorem z109.l0_link (a b c d e:Int):Qt z109.C 6 114 0 0 1 (ifun Tryz.f114) (z109.l0at a b c d e) (z109.l0P c d) (z109.l0out0 a b c d e):=λ_ _ _ _=>by kernel_rfl
theorem z109.link (a0 a1 a2:Int):z109.C.evTop 114 (ifun Tryz.f114) [(.agg [(.int .i64 a0),(.int .i64 a1),(.int .i64 a2)])] z110.dec=z109.F a0 a1 a2:=by kernel_rfl
def z112.C:Ctx where
 T:=tab
 call:=Qf [(249,z18.pack)]
theorem z112.link (a0:Int):z112.C.evTop 322 (ifun Tryz.f322) [(.int .i64 a0)] z14.dec=z112.F a0:=by kernel_rfl
def z117.l0sh:Env×Store:=((.int .i64 0)::un 4 ((.ptr 0 0)::(.ptr 1 0)::(.ptr 2 0)::un 8 ((.recs false 8 [])::(.int .i64 0)::(.int .i64 0)::un 41 [])),[(.cells 41 [(.int .i64 0),(.int .i64 0),(.int .i64 0)]),(.cells 281 [(.ints false .u64 []),(.bool false),(.ints false .u64 [])]),(.cells 281 [(.ints false .u64 []),(.bool false),(.ints false .u64 [])])])
def z117.l0at (a:Int) (c:J2) (d e g h:Int) (j:J0) (k:Bool) (m:J0) (x:(Int×J0×Bool×J0)):Env×Store:=Qh z117.l0sh [.i a,.lr c,.i d,.i x.1,.i e,.i g,.i h,.li j,.b k,.li m,.li x.2.1,.b x.2.2.1,.li x.2.2.2]
def z117.l0out0 (a:Int) (c:J2) (d e g h:Int) (j:J0) (k:Bool) (m:J0) (o:Int×J0×Bool×J0):X×Env×Store:=((.exit 0),Qh z117.l0sh [.i a,.lr c,.i d,.i o.1,.i e,.i g,.i h,.li j,.b k,.li m,.li o.2.1,.b o.2.2.1,.li o.2.2.2])
def z117.l0pack:List Leaf->Option LPack
 |[.i a,.lr c,.i d,.i e,.i g,.i h,.i j,.li k,.b m,.li n,.li o,.b p,.li q]=>some (.one _ (z117.l0 a c d g h j (e,o,p,q)) (z117.l0out0 a c d g h j k m n))
 |_=>none
def z117.C:Ctx where
 T:=tab
 draws:=λf i=>match f,i with|327,8=>([(41,[(0,0)],0),(42,[(9,0)],0),(43,[(41,2)],2),(44,[(9,0)],0),(45,[(43,4)],8),(46,[(5,0)],0),(47,[(44,5),(45,6)],56),(48,[(40,1),(42,3),(46,7)],127),(40,[(47,8)],255),(49,[(39,9)],511),(50,[(39,9)],511),(15,[],0),(0,[(14,12),(48,10)],3071),(16,[(49,11)],8191)],1125350151077888)|327,9=>([(51,[(7,0)],0),(52,[(10,0)],0),(53,[(51,2)],2),(54,[(12,0)],0),(55,[(52,3),(53,4)],14),(56,[(14,0)],0),(57,[(54,5),(55,6)],62),(58,[(50,1),(56,7)],127),(0,[(7,0),(57,8)],255)],287104476244869120)|_,_=>([],0)
 call:=Qf [(148,z16.pack),(89,z76.pack),(184,z73.pack),(336,z116.pack),(199,z115.pack),(172,z27.pack),(200,z84.pack),(323,z113.pack)]
 keep:=λf i=>match f,i with|327,0=>([0,5,6,7,16,17,18],[0,1,2],[])|_,_=>([],[],[])
 keepR:=λf i=>match f,i with|327,0=>([6],[0,1,2],[6])|_,_=>([],[],[])
 L:=Qs [⟨327,0,0,z117.l0sh,z117.l0pack⟩]
theorem z117.l0_link (a:Int) (b:J2) (c d e g:Int) (h:J0) (j:Bool) (k:J0):Qt z117.C 6 327 0 0 3 (ifun Tryz.f327) (z117.l0at a b c d e g h j k) (z117.l0P a b c d e g) (z117.l0out0 a b c d e g h j k):=λ_ _ _ _=>by kernel_rfl
theorem z117.link (a0:Int) (a1:J2) (a2 a3 a4:Int):z117.C.evTop 327 (ifun Tryz.f327) [(.int .i64 a0),(.recs false 8 a1),(.agg [(.int .i64 a2),(.int .i64 a3),(.int .i64 a4)])] z72.dec=z117.F a0 a1 a2 a3 a4:=by kernel_rfl
def z118.C:Ctx where
 T:=tab
 call:=Qf [(45,z101.pack),(181,z20.pack),(326,z105.pack),(327,z117.pack)]
theorem z118.link (a0:Int) (a1:J2) (a2 a3 a4:Int):z118.C.evTop 294 (ifun Tryz.f294) [(.int .i64 a0),(.recs false 8 a1),(.agg [(.int .i64 a2),(.int .i64 a3),(.int .i64 a4)])] z53.dec=z118.F a0 a1 a2 a3 a4:=by kernel_rfl
def z119.C:Ctx where
 T:=tab
 call:=Qf [(294,z118.pack),(173,z94.pack)]
theorem z119.link (a0 a1:Int) (a2:J2) (a3 a4 a5:Int):z119.C.evTop 214 (ifun Tryz.f214) [(.int .i64 a0),(.int .i64 a1),(.recs false 8 a2),(.agg [(.int .i64 a3),(.int .i64 a4),(.int .i64 a5)])] z76.dec=z119.F a0 a1 a2 a3 a4 a5:=by kernel_rfl
def z121.C:Ctx where
 T:=tab
theorem z121.link:z121.C.evTop 333 (ifun Tryz.f333) [] z103.dec=z121.F:=by kernel_rfl
def z128.l0sh:Env×Store:=(.undef::(.int .i64 0)::(.int .i64 0)::(.ptr 0 0) :: .undef :: .undef::(.sref 1 0)::(.int .i64 0) :: .undef::(.sref 2 0)::(.int .i64 0)::un 39 [],[(.cells 41 [(.int .i64 0),(.int .i64 0),(.int .i64 0)]),(.arr 0 true 41 (.recs false 3 [])),(.arr 0 true 41 (.recs false 3 []))])
def z128.l0so1:Env×Store:=(un 6 ((.recs false 3 [])::(.int .i64 0)::un 42 []),[(.cells 41 [(.int .i64 0),(.int .i64 0),(.int .i64 0)]),(.arr 0 true 41 (.recs false 3 [])),(.arr 0 true 41 (.recs false 3 []))])
def z128.l0at (a b c d e g:Int) (h:J2) (x:(Int×J2)):Env×Store:=Qh z128.l0sh [.i a,.i b,.i c,.i x.1,.i d,.i e,.i g,.lr h,.lr x.2]
def z128.l0out0 (a b c d e g:Int) (h:J2) (o:Int×J2):X×Env×Store:=((.exit 0),Qh z128.l0sh [.i a,.i b,.i c,.i o.1,.i d,.i e,.i g,.lr h,.lr o.2])
def z128.l0out1 (a b c:Int) (d:J2) (o:J2×Int×J2):X×Env×Store:=(.ret,Qh z128.l0so1 [.lr o.1,.i o.2.1,.i a,.i b,.i c,.lr d,.lr o.2.2])
def z128.l0pack:List Leaf->Option LPack
 |[.i a,.i b,.i c,.i d,.i e,.i g,.i h,.lr j,.lr k]=>some (.two _ _ (z128.l0 a b e g h (d,k)) (z128.l0out0 a b c e g h j) (z128.l0out1 e g h j))
 |_=>none
def z128.C:Ctx where
 T:=tab
 call:=Qf [(181,z20.pack),(277,z126.pack)]
 keep:=λf i=>match f,i with|211,0=>([1,2,3,6,7,9,10],[0,1,2],[])|_,_=>([],[],[])
 keepR:=λf i=>match f,i with|211,0=>([6,7],[0,1,2],[6,7])|_,_=>([],[],[])
 L:=Qs [⟨211,0,0,z128.l0sh,z128.l0pack⟩]
theorem z128.l0_link (a b c d e g:Int) (h:J2):Yp z128.C 6 211 0 0 3 (ifun Tryz.f211) (z128.l0at a b c d e g h) (z128.l0P a b d e g) (z128.l0out0 a b c d e g h) (z128.l0out1 d e g h):=λ_ _ _ _=>by kernel_rfl
theorem z128.link (a0 a1 a2 a3 a4:Int):z128.C.evTop 211 (ifun Tryz.f211) [(.agg [(.int .i64 a0),(.int .i64 a1),(.int .i64 a2)]),(.int .i64 a3),(.int .i64 a4)] z129.dec=z128.F a0 a1 a2 a3 a4:=by kernel_rfl
def z133.C:Ctx where
 T:=tab
theorem z133.link:z133.C.evTop 91 (ifun Tryz.f91) [] z140.dec=z133.F:=by kernel_rfl
def z134.C:Ctx where
 T:=tab
 call:=Qf [(91,z133.pack),(25,z132.pack),(37,z26.pack),(31,z97.pack),(13,z83.pack)]
theorem z134.link:z134.C.evTop 26 (ifun Tryz.f26) [] z21.dec=z134.F:=by kernel_rfl
def z143.C:Ctx where
 T:=tab
 draws:=λf i=>match f,i with|130,8=>([(40,[(4,0)],0),(41,[(39,1)],1),(42,[(13,0)],0),(43,[(40,2),(41,3)],7),(44,[(11,0)],0),(45,[(42,4),(43,5)],31),(46,[(5,0)],0),(47,[(45,7)],64),(48,[(44,6),(46,8)],255),(49,[(47,9)],511),(50,[(47,9)],511),(0,[(8,0),(48,10)],2047),(10,[(49,11)],4095)],1125350151029248)|_,_=>([],0)
 call:=Qf [(198,z127.pack),(199,z115.pack),(184,z73.pack),(172,z27.pack),(200,z84.pack),(173,z94.pack)]
theorem z143.link (a0:J0) (a1:Bool) (a2 a3:J1) (a4 a5 a6 a7 a8 a9 a10 a11 a12 a13 a14 a15 a16 a17:Int):z143.C.evTop 130 (ifun Tryz.f130) [(.agg [(.ints false .u64 a0),(.bool a1)]),(.agg [(.str a2),(.str a3),(.int .i64 a4),(.int .i64 a5),(.int .i64 a6),(.int .i64 a7),(.int .i64 a8),(.int .i64 a9),(.int .i64 a10),(.int .i64 a11)]),(.agg [(.int .i64 a12),(.int .i64 a13),(.int .i64 a14)]),(.agg [(.int .i64 a15),(.int .i64 a16),(.int .i64 a17)])] z76.dec=z143.F a0 a1 a2 a3 a4 a5 a6 a7 a8 a9 a10 a11 a12 a13 a14 a15 a16 a17:=by kernel_rfl
end
noncomputable section
abbrev Sn (k:List V->Option Pack) (n:FuncId):Prop:=∀vs p,k vs=some p->SoundC Tryz.prog n vs p
theorem Qc:tab.check Tryz.prog=true:=by kernel_rfl
def tabC:Ctx where
 T:=tab
theorem Qd:Tryz.prog.follows .mixedOrders=true:=by kernel_rfl
theorem z5.l2_sound (hI:IK Tryz.prog z5.C 6):Qm z5.C 6 71 2 0 (Ql 2 (ifun Tryz.f71).body) z5.l2sh z5.l2pack:=by
 refine Qo λls p h=>?_
 unfold z5.l2pack at h;split at h<;>cases h
 rename_i a b c d e g
 exact Qv hI z5.l2sh z5.l2sh [2,4,5] [2,4,5] (c,e,g) (z5.l2_link a b d)
theorem z5.l0_sound (hI:IK Tryz.prog z5.C 6):Qm z5.C 6 71 0 0 (Ql 0 (ifun Tryz.f71).body) z5.l0sh z5.l0pack:=by
 refine Qo λls p h=>?_
 unfold z5.l0pack at h;split at h<;>cases h
 rename_i a b c d
 exact Qv hI z5.l0sh z5.l0sh [2,3] [2,3] (c,d) (z5.l0_link a b)
theorem z5.l4_sound (hI:IK Tryz.prog z5.C 6):Qm z5.C 6 71 4 0 (Ql 4 (ifun Tryz.f71).body) z5.l4sh z5.l4pack:=by
 refine Qo λls p h=>?_
 unfold z5.l4pack at h;split at h<;>cases h
 rename_i a b c
 exact Qv hI z5.l4sh z5.l4sh [2] [2] c (z5.l4_link a b)
theorem Qxd:Qq (ifun Tryz.f71).body=true:=by kernel_rfl
theorem z5.hdec:Q7 z81.dec z5.enc:=by
 intro v r h
 unfold z81.dec at h;split at h<;>cases h
 exact ⟨rfl,rfl⟩
theorem z5.sound:Sn z5.pack 71:=by
 intro vs p h;unfold z5.pack at h;split at h<;>cases h
 exact Q3 (C:=z5.C) Qc Qd rfl rfl rfl Qx ⟨Tryz.func71,rfl,by kernel_rfl⟩ (λhI=>Qu rfl Qxd (lpY (z5.l2_sound hI) (lpY (z5.l0_sound hI) (lpY (z5.l4_sound hI) lpE))) 0) rfl (z5.link _) z5.hdec
theorem z6.sound:Sn z6.pack 14:=by
 intro vs p h;unfold z6.pack at h;split at h<;>cases h
 exact Qi Qc Qd rfl rfl rfl rfl (Qa z5.sound Qg) ⟨Tryz.func14,rfl,by kernel_rfl⟩ rfl (z6.link _ _) z5.hdec
theorem z7.hdec:Q7 z21.dec z7.enc:=by
 intro v r h
 unfold z21.dec at h;split at h<;>cases h
 exact ⟨rfl,rfl⟩
theorem z7.sound:Sn z7.pack 202:=by
 intro vs p h;unfold z7.pack at h;split at h<;>cases h
 exact Qi Qc Qd rfl rfl rfl rfl Qx ⟨Tryz.func202,rfl,by kernel_rfl⟩ rfl (z7.link _) z7.hdec
theorem z8.hdec:Q7 z14.dec z8.enc:=by
 intro v r h
 unfold z14.dec at h;split at h<;>cases h
 exact ⟨rfl,rfl⟩
theorem z8.sound:Sn z8.pack 133:=by
 intro vs p h;unfold z8.pack at h;split at h<;>cases h
 exact Qi Qc Qd rfl rfl rfl rfl (Qa z7.sound Qg) ⟨Tryz.func133,rfl,by kernel_rfl⟩ rfl (z8.link _ _) z8.hdec
theorem z9.hdec:Q7 z11.dec z9.enc:=by
 intro v r h
 unfold z11.dec at h;split at h<;>cases h
 exact ⟨rfl,rfl⟩
theorem z9.sound:Sn z9.pack 35:=by
 intro vs p h;unfold z9.pack at h;split at h<;>cases h
 exact Qi Qc Qd rfl rfl rfl rfl Qx ⟨Tryz.func35,rfl,by kernel_rfl⟩ rfl (z9.link _ _) z9.hdec
theorem z10.l0_sound (hI:IK Tryz.prog z10.C 6):Qm z10.C 6 111 0 0 (Ql 0 (ifun Tryz.f111).body) z10.l0sh z10.l0pack:=by
 refine Qo λls p h=>?_
 unfold z10.l0pack at h;split at h<;>cases h
 rename_i a b c
 exact Qv hI z10.l0sh z10.l0sh [0,2] [0,2] (a,c) (z10.l0_link b)
theorem Qrt:Qq (ifun Tryz.f111).body=true:=by kernel_rfl
theorem z10.hdec:Q7 z136.dec z10.enc:=by
 intro v r h
 unfold z136.dec at h;split at h<;>cases h
 exact ⟨rfl,rfl⟩
theorem z10.sound:Sn z10.pack 111:=by
 intro vs p h;unfold z10.pack at h;split at h<;>cases h
 exact Q3 (C:=z10.C) Qc Qd rfl rfl rfl Qx ⟨Tryz.func111,rfl,by kernel_rfl⟩ (λhI=>Qu rfl Qrt (lpY (z10.l0_sound hI) lpE) 0) rfl (z10.link _) z10.hdec
theorem z11.sound:Sn z11.pack 64:=by
 intro vs p h;unfold z11.pack at h;split at h<;>cases h
 exact Qi Qc Qd rfl rfl rfl rfl (Qa z10.sound (Qa z9.sound Qg)) ⟨Tryz.func64,rfl,by kernel_rfl⟩ rfl (z11.link _) z9.hdec
theorem z12.hdec:Q7 z12.dec z12.enc:=by
 intro v r h
 unfold z12.dec at h;split at h<;>cases h
 exact ⟨rfl,rfl⟩
theorem z12.sound:Sn z12.pack 62:=by
 intro vs p h;unfold z12.pack at h;split at h<;>cases h
 exact Qi Qc Qd rfl rfl rfl rfl (Qa z8.sound Qg) ⟨Tryz.func62,rfl,by kernel_rfl⟩ rfl (z12.link _ _ _ _) z12.hdec
theorem z13.sound:Sn z13.pack 283:=by
 intro vs p h;unfold z13.pack at h;split at h<;>cases h
 exact Qi Qc Qd rfl rfl rfl rfl Qx ⟨Tryz.func283,rfl,by kernel_rfl⟩ rfl (z13.link _) z7.hdec
theorem z14.sound:Sn z14.pack 206:=by
 intro vs p h;unfold z14.pack at h;split at h<;>cases h
 exact Qi Qc Qd rfl rfl rfl rfl (Qa z13.sound Qg) ⟨Tryz.func206,rfl,by kernel_rfl⟩ rfl (z14.link _ _) z8.hdec
theorem z15.l0_sound (hI:IK Tryz.prog z15.C 6):Qm z15.C 6 210 0 0 (Ql 0 (ifun Tryz.f210).body) z15.l0sh z15.l0pack:=by
 refine Qo λls p h=>?_
 unfold z15.l0pack at h;split at h<;>cases h
 rename_i a b c d e
 exact Y3 hI z15.l0sh z15.l0sh z15.l0so1 (.exit 0) [4] [4] [0] e (z15.l0_link a b c d)
theorem Qr5:Qq (ifun Tryz.f210).body=true:=by kernel_rfl
theorem z15.sound:Sn z15.pack 210:=by
 intro vs p h;unfold z15.pack at h;split at h<;>cases h
 exact Q3 (C:=z15.C) Qc Qd rfl rfl rfl Qx ⟨Tryz.func210,rfl,by kernel_rfl⟩ (λhI=>Qu rfl Qr5 (lpY (z15.l0_sound hI) lpE) 0) rfl (z15.link _) z8.hdec
theorem z16.sound:Sn z16.pack 148:=by
 intro vs p h;unfold z16.pack at h;split at h<;>cases h
 exact Qi Qc Qd rfl rfl rfl rfl (Qa z14.sound (Qa z15.sound Qg)) ⟨Tryz.func148,rfl,by kernel_rfl⟩ rfl (z16.link _ _ _ _ _ _) z8.hdec
theorem z17.sound:Sn z17.pack 248:=by
 intro vs p h;unfold z17.pack at h;split at h<;>cases h
 exact Qi Qc Qd rfl rfl rfl rfl Qx ⟨Tryz.func248,rfl,by kernel_rfl⟩ rfl (z17.link _) z7.hdec
theorem z18.sound:Sn z18.pack 249:=by
 intro vs p h;unfold z18.pack at h;split at h<;>cases h
 exact Qi Qc Qd rfl rfl rfl rfl (Qa z17.sound Qg) ⟨Tryz.func249,rfl,by kernel_rfl⟩ rfl (z18.link _) z7.hdec
theorem z19.sound:Sn z19.pack 183:=by
 intro vs p h;unfold z19.pack at h;split at h<;>cases h
 exact Qi Qc Qd rfl rfl rfl rfl (Qa z17.sound (Qa z18.sound Qg)) ⟨Tryz.func183,rfl,by kernel_rfl⟩ rfl (z19.link _ _) z8.hdec
theorem z20.sound:Sn z20.pack 181:=by
 intro vs p h;unfold z20.pack at h;split at h<;>cases h
 exact Qi Qc Qd rfl rfl rfl rfl (Qa z19.sound Qg) ⟨Tryz.func181,rfl,by kernel_rfl⟩ rfl (z20.link _ _ _) z8.hdec
theorem z21.sound:Sn z21.pack 75:=by
 intro vs p h;unfold z21.pack at h;split at h<;>cases h
 exact Qi Qc Qd rfl rfl rfl rfl Qx ⟨Tryz.func75,rfl,by kernel_rfl⟩ rfl (z21.link _) z7.hdec
theorem z22.sound:Sn z22.pack 16:=by
 intro vs p h;unfold z22.pack at h;split at h<;>cases h
 exact Qi Qc Qd rfl rfl rfl rfl (Qa z21.sound Qg) ⟨Tryz.func16,rfl,by kernel_rfl⟩ rfl (z22.link _ _) z8.hdec
theorem z23.hdec:Q7 z28.dec z23.enc:=by
 intro v r h
 unfold z28.dec at h;split at h<;>cases h
 exact ⟨rfl,rfl⟩
theorem z23.sound:Sn z23.pack 32:=by
 intro vs p h;unfold z23.pack at h;split at h<;>cases h
 exact Qi Qc Qd rfl rfl rfl rfl (Qa z21.sound Qg) ⟨Tryz.func32,rfl,by kernel_rfl⟩ rfl (z23.link _ _) z23.hdec
theorem z24.l0_sound (hI:IK Tryz.prog z24.C 6):Qm z24.C 6 107 0 0 (Ql 0 (ifun Tryz.f107).body) z24.l0sh z24.l0pack:=by
 refine Qo λls p h=>?_
 unfold z24.l0pack at h;split at h<;>cases h
 rename_i a b c
 exact Qv hI z24.l0sh z24.l0sh [1] [1] b (z24.l0_link a c)
theorem Qxt:Qq (ifun Tryz.f107).body=true:=by kernel_rfl
theorem z24.hdec:Q7 z48.dec z24.enc:=by
 intro v r h
 unfold z48.dec at h;split at h<;>cases h
 exact ⟨rfl,rfl⟩
theorem z24.sound:Sn z24.pack 107:=by
 intro vs p h;unfold z24.pack at h;split at h<;>cases h
 exact Q3 (C:=z24.C) Qc Qd rfl rfl rfl Qx ⟨Tryz.func107,rfl,by kernel_rfl⟩ (λhI=>Qu rfl Qxt (lpY (z24.l0_sound hI) lpE) 0) rfl (z24.link _) z24.hdec
theorem Qia:SoundP Tryz.prog 108 (J4 (.ints true .u64 []) 63 8):=Qol (C:=tabC) Qc (f:=Tryz.f108) (t:=35) ⟨Tryz.func108,rfl,by kernel_rfl⟩ rfl (by decide) (by kernel_rfl) (by kernel_rfl) (by kernel_rfl) (by decide) (by kernel_rfl) rfl rfl (by kernel_rfl)
theorem z25.inlF:InlF Tryz.prog z25.C:=W9 (Qan Qia Qa9) inlN
theorem z25.sound:Sn z25.pack 33:=by
 intro vs p h;unfold z25.pack at h;split at h<;>cases h
 exact Jd (C:=z25.C) Qc Qd rfl (Qa z24.sound Qg) z25.inlF ⟨Tryz.func33,rfl,by kernel_rfl⟩ (λhI=>Jq rfl _ _ _ _) rfl (z25.link _) z24.hdec
theorem z26.sound:Sn z26.pack 37:=by
 intro vs p h;unfold z26.pack at h;split at h<;>cases h
 exact Qi Qc Qd rfl rfl rfl rfl (Qa z25.sound (Qa z23.sound Qg)) ⟨Tryz.func37,rfl,by kernel_rfl⟩ rfl (z26.link _) z23.hdec
theorem z27.hdec:Q7 z72.dec z27.enc:=by
 intro v r h
 unfold z72.dec at h;split at h<;>cases h
 exact ⟨rfl,rfl⟩
theorem z27.sound:Sn z27.pack 172:=by
 intro vs p h;unfold z27.pack at h;split at h<;>cases h
 exact Qi Qc Qd rfl rfl rfl rfl Qx ⟨Tryz.func172,rfl,by kernel_rfl⟩ rfl (z27.link _ _) z27.hdec
theorem z28.sound:Sn z28.pack 81:=by
 intro vs p h;unfold z28.pack at h;split at h<;>cases h
 exact Qi Qc Qd rfl rfl rfl rfl (Qa z23.sound Qg) ⟨Tryz.func81,rfl,by kernel_rfl⟩ rfl (z28.link _ _) z23.hdec
theorem z29.sound:Sn z29.pack 237:=by
 intro vs p h;unfold z29.pack at h;split at h<;>cases h
 exact Qi Qc Qd rfl rfl rfl rfl Qx ⟨Tryz.func237,rfl,by kernel_rfl⟩ rfl (z29.link _ _) z24.hdec
theorem z30.sound:Sn z30.pack 139:=by
 intro vs p h;unfold z30.pack at h;split at h<;>cases h
 exact Qi Qc Qd rfl rfl rfl rfl Qx ⟨Tryz.func139,rfl,by kernel_rfl⟩ rfl (z30.link _ _) (by intro v r h;unfold z30.dec at h;split at h<;>cases h;exact ⟨rfl,rfl⟩)
theorem z31.sound:Sn z31.pack 284:=by
 intro vs p h;unfold z31.pack at h;split at h<;>cases h
 exact Qi Qc Qd rfl rfl rfl rfl Qx ⟨Tryz.func284,rfl,by kernel_rfl⟩ rfl (z31.link _) z7.hdec
theorem z32.sound:Sn z32.pack 207:=by
 intro vs p h;unfold z32.pack at h;split at h<;>cases h
 exact Qi Qc Qd rfl rfl rfl rfl (Qa z31.sound Qg) ⟨Tryz.func207,rfl,by kernel_rfl⟩ rfl (z32.link _ _) z8.hdec
theorem z33.l0_sound (hI:IK Tryz.prog z33.C 6):Qm z33.C 6 140 0 0 (Ql 0 (ifun Tryz.f140).body) z33.l0sh z33.l0pack:=by
 refine Qo λls p h=>?_
 unfold z33.l0pack at h;split at h<;>cases h
 rename_i a b c d
 exact Y3 hI z33.l0sh z33.l0sh z33.l0so1 (.exit 0) [1] [1] [0] b (z33.l0_link a c d)
theorem Qsl:Qq (ifun Tryz.f140).body=true:=by kernel_rfl
theorem z33.sound:Sn z33.pack 140:=by
 intro vs p h;unfold z33.pack at h;split at h<;>cases h
 exact Q3 (C:=z33.C) Qc Qd rfl rfl rfl (Qa z14.sound (Qa z32.sound Qg)) ⟨Tryz.func140,rfl,by kernel_rfl⟩ (λhI=>Qu rfl Qsl (lpY (z33.l0_sound hI) lpE) 0) rfl (z33.link _ _) z8.hdec
theorem z34.l0_sound (hI:IK Tryz.prog z34.C 6):Qm z34.C 6 69 0 0 (Ql 0 (ifun Tryz.f69).body) z34.l0sh z34.l0pack:=by
 refine Qo λls p h=>?_
 unfold z34.l0pack at h;split at h<;>cases h
 rename_i a b c d e g j k
 exact Qv hI z34.l0sh z34.l0sh [1,3,7] [1,3,7] (b,d,k) (z34.l0_link a c e g j)
theorem Qw0:Qq (ifun Tryz.f69).body=true:=by kernel_rfl
theorem z34.sound:Sn z34.pack 69:=by
 intro vs p h;unfold z34.pack at h;split at h<;>cases h
 exact Q3 (C:=z34.C) Qc Qd rfl rfl rfl (Qa z33.sound (Qa z30.sound (Qa z1.sound (Qa z24.sound Qg)))) ⟨Tryz.func69,rfl,by kernel_rfl⟩ (λhI=>Qu rfl Qw0 (lpY (z34.l0_sound hI) lpE) 0) rfl (z34.link _ _) (by intro v r h;unfold z34.dec at h;split at h<;>cases h;exact ⟨rfl,rfl⟩)
theorem Qoc:FunOK Tryz.prog 143 Tryz.f143 (ifun Tryz.f143).body:=⟨Tryz.func143,rfl,by kernel_rfl⟩
theorem z35.inlF:InlF Tryz.prog z35.C:=W9 (Qan Qia Qa9) inlN
theorem z35.sound:Sn z35.pack 143:=by
 intro vs p h;unfold z35.pack at h;split at h<;>cases h
 exact Jd (C:=z35.C) Qc Qd rfl Qx z35.inlF Qoc (λhI=>Jq rfl _ _ _ _) rfl (z35.link _) (by intro v r h;unfold z35.dec at h;split at h<;>cases h;exact ⟨rfl,rfl⟩)
theorem z36.sound:Sn z36.pack 324:=by
 intro vs p h;unfold z36.pack at h;split at h<;>cases h
 exact Qi Qc Qd rfl rfl rfl rfl Qx ⟨Tryz.func324,rfl,by kernel_rfl⟩ rfl (z36.link _) z8.hdec
theorem z37.sound:Sn z37.pack 286:=by
 intro vs p h;unfold z37.pack at h;split at h<;>cases h
 exact Qi Qc Qd rfl rfl rfl rfl (Qa z36.sound Qg) ⟨Tryz.func286,rfl,by kernel_rfl⟩ rfl (z37.link _) z8.hdec
theorem z38.l0_sound (hI:IK Tryz.prog z38.C 6):Qm z38.C 6 285 0 0 (Ql 0 (ifun Tryz.f285).body) z38.l0sh z38.l0pack:=by
 refine Qo λls p h=>?_
 unfold z38.l0pack at h;split at h<;>cases h
 rename_i a b c d e g j k m n o
 exact Qv hI z38.l0sh z38.l0sh [9,10] [9,10] (n,o) (z38.l0_link a b c d e g j k m)
theorem z38.l2_sound (hI:IK Tryz.prog z38.C 6):Qm z38.C 6 285 2 0 (Ql 2 (ifun Tryz.f285).body) z38.l2sh z38.l2pack:=by
 refine Qo λls p h=>?_
 unfold z38.l2pack at h;split at h<;>cases h
 rename_i a b c d e g j k m n o
 exact Qv hI z38.l2sh z38.l2sh [8,10] [8,10] (m,o) (z38.l2_link a b c d e g j k n)
theorem Qwy:Qq (ifun Tryz.f285).body=true:=by kernel_rfl
theorem z38.hdec:Q7 z38.dec z38.enc:=by
 intro v r h
 unfold z38.dec at h;split at h<;>cases h
 exact ⟨rfl,rfl⟩
theorem z38.sound:Sn z38.pack 285:=by
 intro vs p h;unfold z38.pack at h;split at h<;>cases h
 exact Q3 (C:=z38.C) Qc Qd rfl rfl rfl (Qa z37.sound Qg) ⟨Tryz.func285,rfl,by kernel_rfl⟩ (λhI=>Qu rfl Qwy (lpY (z38.l0_sound hI) (lpY (z38.l2_sound hI) lpE)) 0) rfl (z38.link _ _ _) z38.hdec
theorem z39.l0_sound (hI:IK Tryz.prog z39.C 6):Qm z39.C 6 208 0 0 (Ql 0 (ifun Tryz.f208).body) z39.l0sh z39.l0pack:=by
 refine Qo λls p h=>?_
 unfold z39.l0pack at h;split at h<;>cases h
 rename_i a b c d e g j
 exact Qv hI z39.l0sh z39.l0sh [3,4,6] [3,4,6] (d,e,j) (z39.l0_link a b c g)
theorem Qyc:Qq (ifun Tryz.f208).body=true:=by kernel_rfl
theorem z39.sound:Sn z39.pack 208:=by
 intro vs p h;unfold z39.pack at h;split at h<;>cases h
 exact Q3 (C:=z39.C) Qc Qd rfl rfl rfl (Qa z38.sound Qg) ⟨Tryz.func208,rfl,by kernel_rfl⟩ (λhI=>Qu rfl Qyc (lpY (z39.l0_sound hI) lpE) 0) rfl (z39.link _ _) (by intro v r h;unfold z39.dec at h;split at h<;>cases h;exact ⟨rfl,rfl⟩)
theorem z40.sound:Sn z40.pack 325:=by
 intro vs p h;unfold z40.pack at h;split at h<;>cases h
 exact Qi Qc Qd rfl rfl rfl rfl Qx ⟨Tryz.func325,rfl,by kernel_rfl⟩ rfl (z40.link _) z7.hdec
theorem z41.l0_sound (hI:IK Tryz.prog z41.C 6):Qm z41.C 6 291 0 0 (Ql 0 (ifun Tryz.f291).body) z41.l0sh z41.l0pack:=by
 refine Qo λls p h=>?_
 unfold z41.l0pack at h;split at h<;>cases h
 rename_i a b c d e g j k
 exact Qv hI z41.l0sh z41.l0sh [5,7] [5,7] (g,k) (z41.l0_link a b c d e j)
theorem Qww:Qq (ifun Tryz.f291).body=true:=by kernel_rfl
theorem z41.inlF:InlF Tryz.prog z41.C:=W9 (Qan Qia Qa9) (inlC Qoc (λhI base=>Qc6 rfl rfl _ _ _) inlE)
theorem z41.hdec:Q7 z89.dec z41.enc:=by
 intro v r h
 unfold z89.dec at h;split at h<;>cases h
 exact ⟨rfl,rfl⟩
theorem z41.sound:Sn z41.pack 291:=by
 intro vs p h;unfold z41.pack at h;split at h<;>cases h
 exact Jd (C:=z41.C) Qc Qd rfl (Qa z40.sound (Qa z25.sound Qg)) z41.inlF ⟨Tryz.func291,rfl,by kernel_rfl⟩ (λhI=>Qu rfl Qww (lpY (z41.l0_sound hI) lpE) 0) rfl (z41.link _ _) z41.hdec
theorem z42.sound:Sn z42.pack 297:=by
 intro vs p h;unfold z42.pack at h;split at h<;>cases h
 exact Qi Qc Qd rfl rfl rfl rfl Qx ⟨Tryz.func297,rfl,by kernel_rfl⟩ rfl (z42.link _ _) z38.hdec
theorem z43.l0_sound (hI:IK Tryz.prog z43.C 0):Qm z43.C 0 287 0 2 (Ql 0 (ifun Tryz.f287).body) z43.l0sh z43.l0pack:=by
 refine Qo λls p h=>?_
 unfold z43.l0pack at h;split at h<;>cases h
 rename_i a b c d e g j k
 exact Qv hI z43.l0sh z43.l0sh [3,7] [3,7] (d,k) (z43.l0_link a b c e g j)
theorem z43.l0a_sound (hI:IK Tryz.prog z43.C 0):Qm z43.C 0 287 0 4 (Ql 0 (ifun Tryz.f287).body) z43.l0ash z43.l0apack:=by
 refine Qo λls p h=>?_
 unfold z43.l0apack at h;split at h<;>cases h
 rename_i a b c d e g j k m n
 exact Qv hI z43.l0ash z43.l0ash [3,9] [3,9] (d,n) (z43.l0a_link a b c e g j k m)
theorem z43.l0b3_sound (hI:IK Tryz.prog z43.C 0):Qm z43.C 0 289 0 7 (Ql 0 (ifun Tryz.f289).body) z43.l0b3sh z43.l0b3pack:=by
 refine Qo λls p h=>?_
 unfold z43.l0b3pack at h;split at h<;>cases h
 rename_i a b c d e g j k m n o q r s t u v
 exact Qv hI z43.l0b3sh z43.l0b3sh [6,7,11,14] [6,7,11,14] (j,k,q,t) (z43.l0b3_link a b c d e g m n o r s u v)
theorem z43.l0b4_sound (hI:IK Tryz.prog z43.C 0):Qm z43.C 0 290 0 7 (Ql 0 (ifun Tryz.f290).body) z43.l0b4sh z43.l0b4pack:=by
 refine Qo λls p h=>?_
 unfold z43.l0b4pack at h;split at h<;>cases h
 rename_i a b c d e g j k m n o q r s
 exact Qv hI z43.l0b4sh z43.l0b4sh [4,8,11] [4,8,11] (e,m,q) (z43.l0b4_link a b c d g j k n o r s)
theorem z43.l2_sound (hI:IK Tryz.prog z43.C 6):Qm z43.C 6 209 2 0 (Ql 2 (ifun Tryz.f209).body) z43.l2sh z43.l2pack:=by
 refine Qo λls p h=>?_
 unfold z43.l2pack at h;split at h<;>cases h
 rename_i a b c d e g j k m n o q r
 exact Qv hI z43.l2sh z43.l2sh [6,7,10] [6,7,10] (j,k,o) (z43.l2_link a b c d e g m n q r)
theorem z43.l0aa_sound (hI:IK Tryz.prog z43.C 6):Qm z43.C 6 209 0 0 (Ql 0 (ifun Tryz.f209).body) z43.l0aash z43.l0aapack:=by
 refine Qo λls p h=>?_
 unfold z43.l0aapack at h;split at h<;>cases h
 rename_i a b c d e g j k m
 exact Qv hI z43.l0aash z43.l0aash [3,6,8] [3,6,8] (d,j,m) (z43.l0aa_link a b c e g k)
theorem Qwm:Qq (ifun Tryz.f209).body=true:=by kernel_rfl
theorem Qsm:Qq (ifun Tryz.f287).body=true:=by kernel_rfl
theorem Qua:Qq (ifun Tryz.f289).body=true:=by kernel_rfl
theorem Qyq:Qq (ifun Tryz.f290).body=true:=by kernel_rfl
theorem z43.inlF:InlF Tryz.prog z43.C:=W9 Qci (inlC ⟨Tryz.func287,rfl,by kernel_rfl⟩ (λhI base=>Qu rfl Qsm (lpY (z43.l0_sound hI) (lpY (z43.l0a_sound hI) (lpN (lpN (lpN (lpN lpE)))))) base) (inlC ⟨Tryz.func288,rfl,by kernel_rfl⟩ (λhI base=>Qc6 rfl rfl _ _ _) (inlC ⟨Tryz.func289,rfl,by kernel_rfl⟩ (λhI base=>Qu rfl Qua (lpN (lpN (lpY (z43.l0b3_sound hI) (lpN (lpN (lpN lpE)))))) base) (inlC ⟨Tryz.func290,rfl,by kernel_rfl⟩ (λhI base=>Qu rfl Qyq (lpN (lpN (lpN (lpY (z43.l0b4_sound hI) (lpN (lpN lpE)))))) base) inlE))))
theorem z43.sound:Sn z43.pack 209:=by
 intro vs p h;unfold z43.pack at h;split at h<;>cases h
 exact Jd (C:=z43.C) Qc Qd rfl (Qa z37.sound (Qa z42.sound (Qa z0.sound (Qa z1.sound (Qa z38.sound (Qa z25.sound (Qa z41.sound (Qa z35.sound Qg)))))))) z43.inlF ⟨Tryz.func209,rfl,by kernel_rfl⟩ (λhI=>Qu rfl Qwm (lpN (lpN (lpN (lpN (lpY (z43.l2_sound hI) (lpY (z43.l0aa_sound hI) lpE)))))) 0) rfl (z43.link _ _) (by intro v r h;unfold z43.dec at h;split at h<;>cases h;exact ⟨rfl,rfl⟩)
theorem z44.sound:Sn z44.pack 142:=by
 intro vs p h;unfold z44.pack at h;split at h<;>cases h
 exact Qi Qc Qd rfl rfl rfl rfl (Qa z21.sound (Qa z33.sound (Qa z35.sound (Qa z39.sound (Qa z25.sound (Qa z43.sound Qg)))))) ⟨Tryz.func142,rfl,by kernel_rfl⟩ rfl (z44.link _ _) (by intro v r h;unfold z44.dec at h;split at h<;>cases h;exact ⟨rfl,rfl⟩)
theorem z45.l0_sound (hI:IK Tryz.prog z45.C 6):Qm z45.C 6 306 0 0 (Ql 0 (ifun Tryz.f306).body) z45.l0sh z45.l0pack:=by
 refine Qo λls p h=>?_
 unfold z45.l0pack at h;split at h<;>cases h
 rename_i a b c
 exact Qv hI z45.l0sh z45.l0sh [0,1] [0,1] (a,b) (z45.l0_link c)
theorem Qrg:Qq (ifun Tryz.f306).body=true:=by kernel_rfl
theorem z45.sound:Sn z45.pack 306:=by
 intro vs p h;unfold z45.pack at h;split at h<;>cases h
 exact Q3 (C:=z45.C) Qc Qd rfl rfl rfl (Qa z21.sound (Qa z44.sound Qg)) ⟨Tryz.func306,rfl,by kernel_rfl⟩ (λhI=>Qu rfl Qrg (lpY (z45.l0_sound hI) lpE) 0) rfl (z45.link _ _) z24.hdec
theorem z46.sound:Sn z46.pack 243:=by
 intro vs p h;unfold z46.pack at h;split at h<;>cases h
 exact Qi Qc Qd rfl rfl rfl rfl (Qa z29.sound (Qa z45.sound (Qa z44.sound (Qa z25.sound (Qa z34.sound (Qa z22.sound (Qa z23.sound Qg))))))) ⟨Tryz.func243,rfl,by kernel_rfl⟩ rfl (z46.link _ _ _) z27.hdec
theorem z47.hdec:Q7 z53.dec z47.enc:=by
 intro v r h
 unfold z53.dec at h;split at h<;>cases h
 exact ⟨rfl,rfl⟩
theorem z47.sound:Sn z47.pack 174:=by
 intro vs p h;unfold z47.pack at h;split at h<;>cases h
 exact Qi Qc Qd rfl rfl rfl rfl (Qa z22.sound (Qa z28.sound (Qa z29.sound (Qa z46.sound Qg)))) ⟨Tryz.func174,rfl,by kernel_rfl⟩ rfl (z47.link _ _ _ _) z47.hdec
theorem z48.l0a_sound (hI:IK Tryz.prog z48.C 0):Qm z48.C 0 223 0 4 (Ql 0 (ifun Tryz.f223).body) z48.l0ash z48.l0apack:=by
 refine Qo λls p h=>?_
 unfold z48.l0apack at h;split at h<;>cases h
 rename_i a b c d e g j k m n o
 exact Qv hI z48.l0ash z48.l0ash [3,6,9] [3,6,9] (d,j,n) (z48.l0a_link a b c e g k m o)
theorem z48.l0_sound (hI:IK Tryz.prog z48.C 6):Qm z48.C 6 161 0 0 (Ql 0 (ifun Tryz.f161).body) z48.l0sh z48.l0pack:=by
 refine Qo λls p h=>?_
 unfold z48.l0pack at h;split at h<;>cases h
 rename_i a b c d e g
 exact Qv hI z48.l0sh z48.l0sh [2,5] [2,5] (c,g) (z48.l0_link a b d e)
theorem Qqr:Qq (ifun Tryz.f161).body=true:=by kernel_rfl
theorem Qyf:Qq (ifun Tryz.f223).body=true:=by kernel_rfl
theorem z48.inlF:InlF Tryz.prog z48.C:=W9 Qci (inlC ⟨Tryz.func223,rfl,by kernel_rfl⟩ (λhI base=>Qu rfl Qyf (lpY (z48.l0a_sound hI) (lpN lpE)) base) inlE)
theorem z48.sound:Sn z48.pack 161:=by
 intro vs p h;unfold z48.pack at h;split at h<;>cases h
 exact Jd (C:=z48.C) Qc Qd rfl (Qa z42.sound (Qa z0.sound (Qa z24.sound Qg))) z48.inlF ⟨Tryz.func161,rfl,by kernel_rfl⟩ (λhI=>Qu rfl Qqr (lpN (lpY (z48.l0_sound hI) lpE)) 0) rfl (z48.link _ _) z24.hdec
theorem z49.sound:Sn z49.pack 239:=by
 intro vs p h;unfold z49.pack at h;split at h<;>cases h
 exact Qi Qc Qd rfl rfl rfl rfl (Qa z48.sound (Qa z23.sound Qg)) ⟨Tryz.func239,rfl,by kernel_rfl⟩ rfl (z49.link _ _ _ _) z23.hdec
theorem z50.l0_sound (hI:IK Tryz.prog z50.C 6):Qm z50.C 6 68 0 0 (Ql 0 (ifun Tryz.f68).body) z50.l0sh z50.l0pack:=by
 refine Qo λls p h=>?_
 unfold z50.l0pack at h;split at h<;>cases h
 rename_i a b c d e g j
 exact Qv hI z50.l0sh z50.l0sh [0,2,6] [0,2,6] (a,c,j) (z50.l0_link b d e g)
theorem Qrv:Qq (ifun Tryz.f68).body=true:=by kernel_rfl
theorem z50.sound:Sn z50.pack 68:=by
 intro vs p h;unfold z50.pack at h;split at h<;>cases h
 exact Q3 (C:=z50.C) Qc Qd rfl rfl rfl (Qa z30.sound (Qa z0.sound (Qa z24.sound Qg))) ⟨Tryz.func68,rfl,by kernel_rfl⟩ (λhI=>Qu rfl Qrv (lpY (z50.l0_sound hI) lpE) 0) rfl (z50.link _ _) z24.hdec
theorem z51.sound:Sn z51.pack 235:=by
 intro vs p h;unfold z51.pack at h;split at h<;>cases h
 exact Qi Qc Qd rfl rfl rfl rfl (Qa z25.sound (Qa z50.sound Qg)) ⟨Tryz.func235,rfl,by kernel_rfl⟩ rfl (z51.link _ _ _) z24.hdec
theorem z52.sound:Sn z52.pack 304:=by
 intro vs p h;unfold z52.pack at h;split at h<;>cases h
 exact Qi Qc Qd rfl rfl rfl rfl (Qa z51.sound (Qa z23.sound Qg)) ⟨Tryz.func304,rfl,by kernel_rfl⟩ rfl (z52.link _ _ _) z23.hdec
theorem z53.sound:Sn z53.pack 234:=by
 intro vs p h;unfold z53.pack at h;split at h<;>cases h
 exact Qi Qc Qd rfl rfl rfl rfl (Qa z52.sound (Qa z49.sound (Qa z47.sound Qg))) ⟨Tryz.func234,rfl,by kernel_rfl⟩ rfl (z53.link _ _ _ _ _ _) z47.hdec
theorem z54.sound:Sn z54.pack 124:=by
 intro vs p h;unfold z54.pack at h;split at h<;>cases h
 exact Qi Qc Qd rfl rfl rfl rfl Qx ⟨Tryz.func124,rfl,by kernel_rfl⟩ rfl (z54.link _ _) z7.hdec
theorem z55.hdec:Q7 z56.dec z55.enc:=by
 intro v r h
 unfold z56.dec at h;split at h<;>cases h
 exact ⟨rfl,rfl⟩
theorem z55.sound:Sn z55.pack 159:=by
 intro vs p h;unfold z55.pack at h;split at h<;>cases h
 exact Qi Qc Qd rfl rfl rfl rfl (Qa z54.sound Qg) ⟨Tryz.func159,rfl,by kernel_rfl⟩ rfl (z55.link _ _) z55.hdec
theorem z56.sound:Sn z56.pack 92:=by
 intro vs p h;unfold z56.pack at h;split at h<;>cases h
 exact Qi Qc Qd rfl rfl rfl rfl (Qa z55.sound Qg) ⟨Tryz.func92,rfl,by kernel_rfl⟩ rfl (z56.link _ _) z55.hdec
theorem z57.l2_sound (hI:IK Tryz.prog z57.C 6):Qm z57.C 6 93 2 0 (Ql 2 (ifun Tryz.f93).body) z57.l2sh z57.l2pack:=by
 refine Qo λls p h=>?_
 unfold z57.l2pack at h;split at h<;>cases h
 rename_i a b c d e g j k
 exact Qv hI z57.l2sh z57.l2sh [3,7] [3,7] (d,k) (z57.l2_link a b c e g j)
theorem z57.l2a_sound (hI:IK Tryz.prog z57.C 6):Qm z57.C 6 93 2 0 (Ql 2 (ifun Tryz.f93).body) z57.l2ash z57.l2apack:=by
 refine Qo λls p h=>?_
 unfold z57.l2apack at h;split at h<;>cases h
 rename_i a b c d e g j k m n
 exact Qv hI z57.l2ash z57.l2ash [3,9] [3,9] (d,n) (z57.l2a_link a b c e g j k m)
theorem z57.l0_sound (hI:IK Tryz.prog z57.C 6):Qm z57.C 6 93 0 0 (Ql 0 (ifun Tryz.f93).body) z57.l0sh z57.l0pack:=by
 refine Qo λls p h=>?_
 unfold z57.l0pack at h;split at h<;>cases h
 rename_i a b c d e
 exact Qv hI z57.l0sh z57.l0sh [0,2,4] [0,2,4] (a,c,e) (z57.l0_link b d)
theorem Qxu:Qq (ifun Tryz.f93).body=true:=by kernel_rfl
theorem z57.sound:Sn z57.pack 93:=by
 intro vs p h;unfold z57.pack at h;split at h<;>cases h
 exact Q3 (C:=z57.C) Qc Qd rfl rfl rfl (Qa z3.sound (Qa z25.sound (Qa z48.sound (Qa z50.sound Qg)))) ⟨Tryz.func93,rfl,by kernel_rfl⟩ (λhI=>Qu rfl Qxu (lpY (z57.l2_sound hI) (lpY (z57.l2a_sound hI) (lpY (z57.l0_sound hI) lpE))) 0) rfl (z57.link _) z41.hdec
theorem z58.sound:Sn z58.pack 310:=by
 intro vs p h;unfold z58.pack at h;split at h<;>cases h
 exact Qi Qc Qd rfl rfl rfl rfl (Qa z3.sound Qg) ⟨Tryz.func310,rfl,by kernel_rfl⟩ rfl (z58.link _) z7.hdec
theorem Qun:FunOK Tryz.prog 197 Tryz.f197 (ifun Tryz.f197).body:=⟨Tryz.func197,rfl,by kernel_rfl⟩
theorem Qx1:FunOK Tryz.prog 272 Tryz.f272 (ifun Tryz.f272).body:=⟨Tryz.func272,rfl,by kernel_rfl⟩
theorem z59.inlF:InlF Tryz.prog z59.C:=W9 Qci (inlC ⟨Tryz.func309,rfl,by kernel_rfl⟩ (λhI base=>Jq rfl _ _ _ _) (inlC ⟨Tryz.func329,rfl,by kernel_rfl⟩ (λhI base=>Jq rfl _ _ _ _) (inlC Qun (λhI base=>Jq rfl _ _ _ _) (inlC Qx1 (λhI base=>Jq rfl _ _ _ _) inlE))))
theorem z59.hdec:Q7 z59.dec z59.enc:=by
 intro v r h
 unfold z59.dec at h;split at h<;>cases h
 exact ⟨rfl,rfl⟩
theorem z59.sound:Sn z59.pack 250:=by
 intro vs p h;unfold z59.pack at h;split at h<;>cases h
 exact Jd (C:=z59.C) Qc Qd rfl (Qa z56.sound (Qa z58.sound (Qa z3.sound (Qa z4.sound (Qa z57.sound (Qa z23.sound (Qa z2.sound Qg))))))) z59.inlF ⟨Tryz.func250,rfl,by kernel_rfl⟩ (λhI=>Jq rfl _ _ _ _) rfl (z59.link _) z59.hdec
theorem z60.sound:Sn z60.pack 311:=by
 intro vs p h;unfold z60.pack at h;split at h<;>cases h
 exact Qi Qc Qd rfl rfl rfl rfl Qx ⟨Tryz.func311,rfl,by kernel_rfl⟩ rfl (z60.link _) z7.hdec
theorem z61.sound:Sn z61.pack 251:=by
 intro vs p h;unfold z61.pack at h;split at h<;>cases h
 exact Qi Qc Qd rfl rfl rfl rfl (Qa z60.sound Qg) ⟨Tryz.func251,rfl,by kernel_rfl⟩ rfl (z61.link _ _ _) z59.hdec
theorem z62.sound:Sn z62.pack 252:=by
 intro vs p h;unfold z62.pack at h;split at h<;>cases h
 exact Qi Qc Qd rfl rfl rfl rfl Qx ⟨Tryz.func252,rfl,by kernel_rfl⟩ rfl (z62.link _ _ _) z23.hdec
theorem z63.sound:Sn z63.pack 12:=by
 intro vs p h;unfold z63.pack at h;split at h<;>cases h
 exact Qi Qc Qd rfl rfl rfl rfl (Qa z50.sound (Qa z23.sound (Qa z34.sound Qg))) ⟨Tryz.func12,rfl,by kernel_rfl⟩ rfl (z63.link _ _ _ _) z23.hdec
theorem z64.sound:Sn z64.pack 132:=by
 intro vs p h;unfold z64.pack at h;split at h<;>cases h
 exact Qi Qc Qd rfl rfl rfl rfl (Qa z28.sound (Qa z63.sound Qg)) ⟨Tryz.func132,rfl,by kernel_rfl⟩ rfl (z64.link _ _ _ _) z23.hdec
theorem z65.sound:Sn z65.pack 155:=by
 intro vs p h;unfold z65.pack at h;split at h<;>cases h
 exact Qi Qc Qd rfl rfl rfl rfl (Qa z64.sound (Qa z22.sound Qg)) ⟨Tryz.func155,rfl,by kernel_rfl⟩ rfl (z65.link _ _ _ _) z8.hdec
theorem z66.l0_sound (hI:IK Tryz.prog z66.C 6):Qm z66.C 6 293 0 0 (Ql 0 (ifun Tryz.f293).body) z66.l0sh z66.l0pack:=by
 refine Qo λls p h=>?_
 unfold z66.l0pack at h;split at h<;>cases h
 rename_i a b c d
 exact Qv hI z66.l0sh z66.l0sh [0,1,3] [0,1,3] (a,b,d) (z66.l0_link c)
theorem Qve:Qq (ifun Tryz.f293).body=true:=by kernel_rfl
theorem z66.sound:Sn z66.pack 293:=by
 intro vs p h;unfold z66.pack at h;split at h<;>cases h
 exact Q3 (C:=z66.C) Qc Qd rfl rfl rfl (Qa z25.sound (Qa z48.sound Qg)) ⟨Tryz.func293,rfl,by kernel_rfl⟩ (λhI=>Qu rfl Qve (lpY (z66.l0_sound hI) lpE) 0) rfl (z66.link _ _) z24.hdec
theorem z67.sound:Sn z67.pack 213:=by
 intro vs p h;unfold z67.pack at h;split at h<;>cases h
 exact Qi Qc Qd rfl rfl rfl rfl (Qa z25.sound (Qa z66.sound Qg)) ⟨Tryz.func213,rfl,by kernel_rfl⟩ rfl (z67.link _) z41.hdec
theorem z68.sound:Sn z68.pack 313:=by
 intro vs p h;unfold z68.pack at h;split at h<;>cases h
 exact Qi Qc Qd rfl rfl rfl rfl (Qa z67.sound (Qa z23.sound Qg)) ⟨Tryz.func313,rfl,by kernel_rfl⟩ rfl (z68.link _) z23.hdec
theorem z69.sound:Sn z69.pack 312:=by
 intro vs p h;unfold z69.pack at h;split at h<;>cases h
 exact Qi Qc Qd rfl rfl rfl rfl (Qa z68.sound (Qa z49.sound Qg)) ⟨Tryz.func312,rfl,by kernel_rfl⟩ rfl (z69.link _ _ _ _) z23.hdec
theorem z70.sound:Sn z70.pack 253:=by
 intro vs p h;unfold z70.pack at h;split at h<;>cases h
 exact Qi Qc Qd rfl rfl rfl rfl (Qa z69.sound (Qa z65.sound Qg)) ⟨Tryz.func253,rfl,by kernel_rfl⟩ rfl (z70.link _ _ _ _ _ _) z8.hdec
theorem z71.sound:Sn z71.pack 254:=by
 intro vs p h;unfold z71.pack at h;split at h<;>cases h
 exact Qi Qc Qd rfl rfl rfl rfl Qx ⟨Tryz.func254,rfl,by kernel_rfl⟩ rfl (z71.link _ _ _) z8.hdec
theorem z72.sound:Sn z72.pack 255:=by
 intro vs p h;unfold z72.pack at h;split at h<;>cases h
 exact Qi Qc Qd rfl rfl rfl rfl (Qa z68.sound (Qa z47.sound Qg)) ⟨Tryz.func255,rfl,by kernel_rfl⟩ rfl (z72.link _ _ _) z27.hdec
theorem z73.sound:Sn z73.pack 184:=by
 intro vs p h;unfold z73.pack at h;split at h<;>cases h
 exact Qi Qc Qd rfl rfl rfl rfl (Qa z59.sound (Qa z26.sound (Qa z61.sound (Qa z62.sound (Qa z22.sound (Qa z70.sound (Qa z71.sound (Qa z72.sound (Qa z27.sound (Qa z53.sound Qg)))))))))) ⟨Tryz.func184,rfl,by kernel_rfl⟩ rfl (z73.link _) z47.hdec
theorem z74.hdec:Q7 z76.dec z74.enc:=by
 intro v r h
 unfold z76.dec at h;split at h<;>cases h
 exact ⟨rfl,rfl⟩
theorem z74.sound:Sn z74.pack 27:=by
 intro vs p h;unfold z74.pack at h;split at h<;>cases h
 exact Qi Qc Qd rfl rfl rfl rfl (Qa z56.sound (Qa z57.sound (Qa z21.sound (Qa z23.sound Qg)))) ⟨Tryz.func27,rfl,by kernel_rfl⟩ rfl (z74.link _) z74.hdec
theorem z75.sound:Sn z75.pack 156:=by
 intro vs p h;unfold z75.pack at h;split at h<;>cases h
 exact Qi Qc Qd rfl rfl rfl rfl (Qa z67.sound (Qa z23.sound Qg)) ⟨Tryz.func156,rfl,by kernel_rfl⟩ rfl z75.link z23.hdec
theorem z76.sound:Sn z76.pack 89:=by
 intro vs p h;unfold z76.pack at h;split at h<;>cases h
 exact Qi Qc Qd rfl rfl rfl rfl (Qa z74.sound (Qa z22.sound (Qa z75.sound (Qa z65.sound Qg)))) ⟨Tryz.func89,rfl,by kernel_rfl⟩ rfl (z76.link _) z74.hdec
theorem z77.sound:Sn z77.pack 292:=by
 intro vs p h;unfold z77.pack at h;split at h<;>cases h
 exact Qi Qc Qd rfl rfl rfl rfl (Qa z76.sound (Qa z22.sound Qg)) ⟨Tryz.func292,rfl,by kernel_rfl⟩ rfl (z77.link _) z8.hdec
theorem z78.sound:Sn z78.pack 212:=by
 intro vs p h;unfold z78.pack at h;split at h<;>cases h
 exact Qi Qc Qd rfl rfl rfl rfl (Qa z77.sound (Qa z73.sound Qg)) ⟨Tryz.func212,rfl,by kernel_rfl⟩ rfl (z78.link _ _ _ _ _) z8.hdec
theorem z79.sound:Sn z79.pack 154:=by
 intro vs p h;unfold z79.pack at h;split at h<;>cases h
 exact Qi Qc Qd rfl rfl rfl rfl (Qa z20.sound (Qa z16.sound (Qa z78.sound Qg))) ⟨Tryz.func154,rfl,by kernel_rfl⟩ rfl (z79.link _ _ _ _ _ _ _ _) z8.hdec
theorem z80.l0_sound (hI:IK Tryz.prog z80.C 6):Qm z80.C 6 87 0 0 (Ql 0 (ifun Tryz.f87).body) z80.l0sh z80.l0pack:=by
 refine Qo λls p h=>?_
 unfold z80.l0pack at h;split at h<;>cases h
 rename_i a b c d e g j k
 exact Y3 hI z80.l0sh z80.l0sh z80.l0so1 (.exit 0) [4,5,6,7] [4,5,6,7] [0,1,2,3,4] (e,g,j,k) (z80.l0_link a b c d)
theorem Qtg:Qq (ifun Tryz.f87).body=true:=by kernel_rfl
theorem z80.hdec:Q7 z110.dec z80.enc:=by
 intro v r h
 unfold z110.dec at h;split at h<;>cases h
 exact ⟨rfl,rfl⟩
theorem z80.sound:Sn z80.pack 87:=by
 intro vs p h;unfold z80.pack at h;split at h<;>cases h
 exact Q3 (C:=z80.C) Qc Qd rfl rfl rfl (Qa z79.sound Qg) ⟨Tryz.func87,rfl,by kernel_rfl⟩ (λhI=>Qu rfl Qtg (lpY (z80.l0_sound hI) lpE) 0) rfl (z80.link _) z80.hdec
theorem z81.l0_sound (hI:IK Tryz.prog z81.C 6):Qm z81.C 6 144 0 0 (Ql 0 (ifun Tryz.f144).body) z81.l0sh z81.l0pack:=by
 refine Qo λls p h=>?_
 unfold z81.l0pack at h;split at h<;>cases h
 rename_i a b c d e
 exact Qv hI z81.l0sh z81.l0sh [0,3,4] [0,3,4] (a,d,e) (z81.l0_link b c)
theorem Qr7:Qq (ifun Tryz.f144).body=true:=by kernel_rfl
theorem z81.sound:Sn z81.pack 144:=by
 intro vs p h;unfold z81.pack at h;split at h<;>cases h
 exact Q3 (C:=z81.C) Qc Qd rfl rfl rfl Qx ⟨Tryz.func144,rfl,by kernel_rfl⟩ (λhI=>Qu rfl Qr7 (lpY (z81.l0_sound hI) lpE) 0) rfl (z81.link _ _) z5.hdec
theorem z82.l2_sound (hI:IK Tryz.prog z82.C 6):Qm z82.C 6 70 2 0 (Ql 2 (ifun Tryz.f70).body) z82.l2sh z82.l2pack:=by
 refine Qo λls p h=>?_
 unfold z82.l2pack at h;split at h<;>cases h
 rename_i a b c d e g j k
 exact Qv hI z82.l2sh z82.l2sh [1,4] [1,4] (b,e) (z82.l2_link a c d g j k)
theorem z82.l0_sound (hI:IK Tryz.prog z82.C 6):Qm z82.C 6 70 0 0 (Ql 0 (ifun Tryz.f70).body) z82.l0sh z82.l0pack:=by
 refine Qo λls p h=>?_
 unfold z82.l0pack at h;split at h<;>cases h
 rename_i a b c
 exact Qv hI z82.l0sh z82.l0sh [1,2] [1,2] (b,c) (z82.l0_link a)
theorem z82.l4_sound (hI:IK Tryz.prog z82.C 6):Qm z82.C 6 70 4 0 (Ql 4 (ifun Tryz.f70).body) z82.l4sh z82.l4pack:=by
 refine Qo λls p h=>?_
 unfold z82.l4pack at h;split at h<;>cases h
 rename_i a b c d
 exact Qv hI z82.l4sh z82.l4sh [1,3] [1,3] (b,d) (z82.l4_link a c)
theorem Qyo:Qq (ifun Tryz.f70).body=true:=by kernel_rfl
theorem Qxk:FunOK Tryz.prog 119 Tryz.f119 (ifun Tryz.f119).body:=⟨Tryz.func119,rfl,by kernel_rfl⟩
theorem Qxr:FunOK Tryz.prog 117 Tryz.f117 (ifun Tryz.f117).body:=⟨Tryz.func117,rfl,by kernel_rfl⟩
theorem Qxl:SoundP Tryz.prog 185 (Qb1 215):=Qxg
theorem z82.inlF:InlF Tryz.prog z82.C:=W9 (Qan Qxl Qa9) (inlC Qxk (λhI base=>Qc6 rfl rfl _ _ _) (inlC Qxr (λhI base=>Qc6 rfl rfl _ _ _) inlE))
theorem z82.sound:Sn z82.pack 70:=by
 intro vs p h;unfold z82.pack at h;split at h<;>cases h
 exact Jd (C:=z82.C) Qc Qd rfl (Qa z21.sound (Qa z25.sound (Qa z44.sound (Qa z35.sound (Qa z81.sound Qg))))) z82.inlF ⟨Tryz.func70,rfl,by kernel_rfl⟩ (λhI=>Qu rfl Qyo (lpY (z82.l2_sound hI) (lpY (z82.l0_sound hI) (lpY (z82.l4_sound hI) lpE))) 0) rfl (z82.link _) z5.hdec
theorem z83.sound:Sn z83.pack 13:=by
 intro vs p h;unfold z83.pack at h;split at h<;>cases h
 exact Qi Qc Qd rfl rfl rfl rfl (Qa z82.sound Qg) ⟨Tryz.func13,rfl,by kernel_rfl⟩ rfl (z83.link _ _) z5.hdec
theorem z84.sound:Sn z84.pack 200:=by
 intro vs p h;unfold z84.pack at h;split at h<;>cases h
 exact Qi Qc Qd rfl rfl rfl rfl (Qa z49.sound (Qa z51.sound (Qa z48.sound (Qa z46.sound Qg)))) ⟨Tryz.func200,rfl,by kernel_rfl⟩ rfl (z84.link _ _ _ _ _ _) z27.hdec
theorem z85.sound:Sn z85.pack 170:=by
 intro vs p h;unfold z85.pack at h;split at h<;>cases h
 exact Qi Qc Qd rfl rfl rfl rfl (Qa z73.sound (Qa z26.sound (Qa z47.sound (Qa z84.sound Qg)))) ⟨Tryz.func170,rfl,by kernel_rfl⟩ rfl (z85.link _ _) z47.hdec
theorem z86.sound:Sn z86.pack 233:=by
 intro vs p h;unfold z86.pack at h;split at h<;>cases h
 exact Qi Qc Qd rfl rfl rfl rfl (Qa z22.sound Qg) ⟨Tryz.func233,rfl,by kernel_rfl⟩ rfl (z86.link _ _ _) z8.hdec
theorem z87.sound:Sn z87.pack 236:=by
 intro vs p h;unfold z87.pack at h;split at h<;>cases h
 exact Qi Qc Qd rfl rfl rfl rfl Qx ⟨Tryz.func236,rfl,by kernel_rfl⟩ rfl (z87.link _ _ _) z23.hdec
theorem z88.sound:Sn z88.pack 305:=by
 intro vs p h;unfold z88.pack at h;split at h<;>cases h
 exact Qi Qc Qd rfl rfl rfl rfl (Qa z21.sound (Qa z36.sound Qg)) ⟨Tryz.func305,rfl,by kernel_rfl⟩ rfl (z88.link _) z8.hdec
theorem z89.sound:Sn z89.pack 238:=by
 intro vs p h;unfold z89.pack at h;split at h<;>cases h
 exact Qi Qc Qd rfl rfl rfl rfl (Qa z88.sound (Qa z66.sound Qg)) ⟨Tryz.func238,rfl,by kernel_rfl⟩ rfl (z89.link _ _) z41.hdec
theorem z90.sound:Sn z90.pack 240:=by
 intro vs p h;unfold z90.pack at h;split at h<;>cases h
 exact Qi Qc Qd rfl rfl rfl rfl (Qa z23.sound Qg) ⟨Tryz.func240,rfl,by kernel_rfl⟩ rfl (z90.link _) z23.hdec
theorem z91.sound:Sn z91.pack 171:=by
 intro vs p h;unfold z91.pack at h;split at h<;>cases h
 exact Qi Qc Qd rfl rfl rfl rfl (Qa z86.sound (Qa z26.sound (Qa z27.sound (Qa z53.sound (Qa z51.sound (Qa z87.sound (Qa z29.sound (Qa z50.sound (Qa z89.sound (Qa z34.sound (Qa z49.sound (Qa z90.sound (Qa z48.sound (Qa z47.sound Qg)))))))))))))) ⟨Tryz.func171,rfl,by kernel_rfl⟩ rfl (z91.link _ _ _ _ _ _ _) z47.hdec
theorem z92.sound:Sn z92.pack 241:=by
 intro vs p h;unfold z92.pack at h;split at h<;>cases h
 exact Qi Qc Qd rfl rfl rfl rfl Qx ⟨Tryz.func241,rfl,by kernel_rfl⟩ rfl (z92.link _) z7.hdec
theorem z93.sound:Sn z93.pack 242:=by
 intro vs p h;unfold z93.pack at h;split at h<;>cases h
 exact Qi Qc Qd rfl rfl rfl rfl (Qa z50.sound (Qa z33.sound (Qa z35.sound Qg))) ⟨Tryz.func242,rfl,by kernel_rfl⟩ rfl (z93.link _ _ _ _) z7.hdec
theorem z94.sound:Sn z94.pack 173:=by
 intro vs p h;unfold z94.pack at h;split at h<;>cases h
 exact Qi Qc Qd rfl rfl rfl rfl (Qa z92.sound (Qa z87.sound (Qa z29.sound (Qa z51.sound (Qa z44.sound (Qa z21.sound (Qa z93.sound (Qa z25.sound (Qa z50.sound (Qa z86.sound (Qa z23.sound Qg))))))))))) ⟨Tryz.func173,rfl,by kernel_rfl⟩ rfl (z94.link _ _ _ _) z74.hdec
theorem z95.sound:Sn z95.pack 105:=by
 intro vs p h;unfold z95.pack at h;split at h<;>cases h
 exact Qi Qc Qd rfl rfl rfl rfl (Qa z85.sound (Qa z22.sound (Qa z27.sound (Qa z91.sound (Qa z94.sound Qg))))) ⟨Tryz.func105,rfl,by kernel_rfl⟩ rfl (z95.link _ _ _ _ _ _) z74.hdec
theorem z96.sound:Sn z96.pack 106:=by
 intro vs p h;unfold z96.pack at h;split at h<;>cases h
 exact Qi Qc Qd rfl rfl rfl rfl (Qa z22.sound (Qa z26.sound (Qa z47.sound (Qa z94.sound Qg)))) ⟨Tryz.func106,rfl,by kernel_rfl⟩ rfl (z96.link _ _ _ _) z74.hdec
theorem z97.sound:Sn z97.pack 31:=by
 intro vs p h;unfold z97.pack at h;split at h<;>cases h
 exact Qi Qc Qd rfl rfl rfl rfl (Qa z95.sound (Qa z96.sound Qg)) ⟨Tryz.func31,rfl,by kernel_rfl⟩ rfl (z97.link _ _ _ _ _ _ _ _ _ _ _ _ _ _) z74.hdec
theorem Qvf:SoundP Tryz.prog 41 (J4 (.recs true 8 []) 107 80):=Qol (C:=tabC) Qc (f:=Tryz.f41) (t:=104) ⟨Tryz.func41,rfl,by kernel_rfl⟩ rfl (by decide) (by kernel_rfl) (by kernel_rfl) (by kernel_rfl) (by decide) (by kernel_rfl) rfl rfl (by kernel_rfl)
theorem z98.inlF:InlF Tryz.prog z98.C:=W9 (Qan Qvf Qa9) inlN
theorem z98.sound:Sn z98.pack 42:=by
 intro vs p h;unfold z98.pack at h;split at h<;>cases h
 exact Jd (C:=z98.C) Qc Qd rfl Qx z98.inlF ⟨Tryz.func42,rfl,by kernel_rfl⟩ (λhI=>Jq rfl _ _ _ _) rfl (z98.link _ _ _ _ _ _) (by intro v r h;unfold z98.dec at h;split at h<;>cases h;exact ⟨rfl,rfl⟩)
theorem z99.inlF:InlF Tryz.prog z99.C:=W9 Qci inlN
theorem z99.sound:SoundP Tryz.prog 157 (subP 178 81 0 z99.pk):=by
 refine Qhr Qc Qd rfl (Qa z76.sound (Qa z65.sound (Qa z64.sound (Qa z97.sound (Qa z83.sound (Qa z98.sound Qg)))))) z99.inlF ⟨Tryz.func157,rfl,by kernel_rfl⟩ rfl λcs ct rest p h=>?_
 unfold z99.pk at h;split at h<;>cases h
 exact ⟨_,_,_,z99.dec,rfl,rfl,rfl,z99.link _ _ _ _ _ _ _ _ _ _ _ _ _ _ _ _ _ _ _ _ _ _ _,λv cs' ct' r h=>by unfold z99.dec at h;split at h<;>cases h;exact ⟨rfl,rfl,rfl,rfl⟩⟩
theorem z100.inlF:InlF Tryz.prog z100.C:=W9 Qci inlN
theorem z100.sound:SoundP Tryz.prog 215 (subP 178 81 0 z100.pk):=by
 refine Qhr Qc Qd rfl (Qa z64.sound (Qa z65.sound (Qa z22.sound Qg))) z100.inlF ⟨Tryz.func215,rfl,by kernel_rfl⟩ rfl λcs ct rest p h=>?_
 unfold z100.pk at h;split at h<;>cases h
 exact ⟨_,_,_,z100.dec,rfl,rfl,rfl,z100.link _ _ _ _ _ _ _ _ _ _ _ _ _ _ _ _ _ _ _,λv cs' ct' r h=>by unfold z100.dec at h;split at h<;>cases h;exact ⟨rfl,rfl,rfl,rfl⟩⟩
theorem z101.l0_sound (hI:IK Tryz.prog z101.C 6):Qm z101.C 6 45 0 0 (Ql 0 (ifun Tryz.f45).body) z101.l0sh z101.l0pack:=by
 refine Qo λls p h=>?_
 unfold z101.l0pack at h;split at h<;>cases h
 rename_i a b c d e g j k m n o q r
 exact Y3 hI z101.l0sh z101.l0sh z101.l0so1 (.exit 0) [2,3,4,5,6,7,8,9,12] [2,3,4,5,6,7,8,9,12] [0] (c,d,e,g,j,k,m,n,r) (z101.l0_link a b o q)
theorem z101.l0a_sound (hI:IK Tryz.prog z101.C 6):Qm z101.C 6 45 0 0 (Ql 0 (ifun Tryz.f45).body) z101.l0ash z101.l0apack:=by
 refine Qo λls p h=>?_
 unfold z101.l0apack at h;split at h<;>cases h
 rename_i a b c d e g j k m n o q r
 exact Y3 hI z101.l0ash z101.l0ash z101.l0aso1 (.exit 0) [2,3,4,5,6,7,8,9,12] [2,3,4,5,6,7,8,9,12] [0] (c,d,e,g,j,k,m,n,r) (z101.l0a_link a b o q)
theorem Qxn:Qq (ifun Tryz.f45).body=true:=by kernel_rfl
theorem z101.inlF:InlF Tryz.prog z101.C:=W9 Qci (inlC ⟨Tryz.func116,rfl,by kernel_rfl⟩ (λhI base=>Qc6 rfl rfl _ _ _) inlE)
theorem z101.sound:Sn z101.pack 45:=by
 intro vs p h;unfold z101.pack at h;split at h<;>cases h
 exact Jd (C:=z101.C) Qc Qd rfl (Qa z20.sound (Qa z16.sound (Qa z76.sound (Qa z73.sound Qg)))) z101.inlF ⟨Tryz.func45,rfl,by kernel_rfl⟩ (λhI=>Qu rfl Qxn (lpY (z101.l0_sound hI) (lpY (z101.l0a_sound hI) lpE)) 0) rfl (z101.link _) z8.hdec
theorem z102.sound:Sn z102.pack 278:=by
 intro vs p h;unfold z102.pack at h;split at h<;>cases h
 exact Qi Qc Qd rfl rfl rfl rfl Qx ⟨Tryz.func278,rfl,by kernel_rfl⟩ rfl (z102.link _) z7.hdec
theorem z103.hdec:Q7 z103.dec z103.enc:=by
 intro v r h
 unfold z103.dec at h;split at h<;>cases h
 exact ⟨rfl,rfl⟩
theorem z103.sound:Sn z103.pack 334:=by
 intro vs p h;unfold z103.pack at h;split at h<;>cases h
 exact Qi Qc Qd rfl rfl rfl rfl Qx ⟨Tryz.func334,rfl,by kernel_rfl⟩ rfl z103.link z103.hdec
theorem z104.sound:Sn z104.pack 320:=by
 intro vs p h;unfold z104.pack at h;split at h<;>cases h
 exact Qi Qc Qd rfl rfl rfl rfl (Qa z102.sound (Qa z103.sound Qg)) ⟨Tryz.func320,rfl,by kernel_rfl⟩ rfl (z104.link _) z5.hdec
theorem z105.sound:Sn z105.pack 326:=by
 intro vs p h;unfold z105.pack at h;split at h<;>cases h
 exact Qi Qc Qd rfl rfl rfl rfl (Qa z104.sound Qg) ⟨Tryz.func326,rfl,by kernel_rfl⟩ rfl (z105.link _) z7.hdec
theorem z106.sound:Sn z106.pack 280:=by
 intro vs p h;unfold z106.pack at h;split at h<;>cases h
 exact Qi Qc Qd rfl rfl rfl rfl (Qa z26.sound (Qa z47.sound Qg)) ⟨Tryz.func280,rfl,by kernel_rfl⟩ rfl (z106.link _ _) z27.hdec
theorem z107.sound:Sn z107.pack 279:=by
 intro vs p h;unfold z107.pack at h;split at h<;>cases h
 exact Qi Qc Qd rfl rfl rfl rfl (Qa z106.sound Qg) ⟨Tryz.func279,rfl,by kernel_rfl⟩ rfl (z107.link _ _ _ _ _ _) z27.hdec
theorem z108.sound:Sn z108.pack 182:=by
 intro vs p h;unfold z108.pack at h;split at h<;>cases h
 exact Qi Qc Qd rfl rfl rfl rfl Qx ⟨Tryz.func182,rfl,by kernel_rfl⟩ rfl (z108.link _) z8.hdec
theorem z109.l0_sound (hI:IK Tryz.prog z109.C 6):Qm z109.C 6 114 0 0 (Ql 0 (ifun Tryz.f114).body) z109.l0sh z109.l0pack:=by
 refine Qo λls p h=>?_
 unfold z109.l0pack at h;split at h<;>cases h
 rename_i a b c d e g j
 exact Qv hI z109.l0sh z109.l0sh [2,3] [2,3] (c,d) (z109.l0_link a b e g j)
theorem Qrm:Qq (ifun Tryz.f114).body=true:=by kernel_rfl
theorem z109.sound:Sn z109.pack 114:=by
 intro vs p h;unfold z109.pack at h;split at h<;>cases h
 exact Q3 (C:=z109.C) Qc Qd rfl rfl rfl (Qa z20.sound (Qa z108.sound (Qa z19.sound Qg))) ⟨Tryz.func114,rfl,by kernel_rfl⟩ (λhI=>Qu rfl Qrm (lpY (z109.l0_sound hI) lpE) 0) rfl (z109.link _ _ _) z80.hdec
theorem z110.sound:Sn z110.pack 39:=by
 intro vs p h;unfold z110.pack at h;split at h<;>cases h
 exact Qi Qc Qd rfl rfl rfl rfl (Qa z109.sound Qg) ⟨Tryz.func39,rfl,by kernel_rfl⟩ rfl (z110.link _ _ _ _ _ _) z80.hdec
theorem z111.sound:Sn z111.pack 281:=by
 intro vs p h;unfold z111.pack at h;split at h<;>cases h
 exact Qi Qc Qd rfl rfl rfl rfl (Qa z110.sound Qg) ⟨Tryz.func281,rfl,by kernel_rfl⟩ rfl (z111.link _ _ _ _ _ _) z8.hdec
theorem z112.sound:Sn z112.pack 322:=by
 intro vs p h;unfold z112.pack at h;split at h<;>cases h
 exact Qi Qc Qd rfl rfl rfl rfl (Qa z18.sound Qg) ⟨Tryz.func322,rfl,by kernel_rfl⟩ rfl (z112.link _) z8.hdec
theorem z113.sound:Sn z113.pack 323:=by
 intro vs p h;unfold z113.pack at h;split at h<;>cases h
 exact Qi Qc Qd rfl rfl rfl rfl (Qa z52.sound (Qa z49.sound (Qa z63.sound (Qa z51.sound (Qa z48.sound (Qa z46.sound Qg)))))) ⟨Tryz.func323,rfl,by kernel_rfl⟩ rfl (z113.link _ _ _ _ _ _) z27.hdec
theorem z114.sound:Sn z114.pack 282:=by
 intro vs p h;unfold z114.pack at h;split at h<;>cases h
 exact Qi Qc Qd rfl rfl rfl rfl (Qa z111.sound (Qa z112.sound (Qa z106.sound (Qa z113.sound Qg)))) ⟨Tryz.func282,rfl,by kernel_rfl⟩ rfl (z114.link _ _ _ _ _ _) z27.hdec
theorem z115.sound:Sn z115.pack 199:=by
 intro vs p h;unfold z115.pack at h;split at h<;>cases h
 exact Qi Qc Qd rfl rfl rfl rfl (Qa z102.sound (Qa z20.sound (Qa z16.sound (Qa z107.sound (Qa z111.sound (Qa z106.sound (Qa z114.sound Qg))))))) ⟨Tryz.func199,rfl,by kernel_rfl⟩ rfl (z115.link _ _ _ _ _ _ _) z47.hdec
theorem z116.sound:Sn z116.pack 336:=by
 intro vs p h;unfold z116.pack at h;split at h<;>cases h
 exact Qi Qc Qd rfl rfl rfl rfl (Qa z16.sound Qg) ⟨Tryz.func336,rfl,by kernel_rfl⟩ rfl (z116.link _ _ _ _ _ _) z12.hdec
theorem z117.l0_sound (hI:IK Tryz.prog z117.C 6):Qm z117.C 6 327 0 0 (Ql 0 (ifun Tryz.f327).body) z117.l0sh z117.l0pack:=by
 refine Qo λls p h=>?_
 unfold z117.l0pack at h;split at h<;>cases h
 rename_i a b c d e g j k m n o q r
 exact Qv hI z117.l0sh z117.l0sh [3,10,11,12] [3,10,11,12] (d,o,q,r) (z117.l0_link a b c e g j k m n)
theorem Qqu:Qq (ifun Tryz.f327).body=true:=by kernel_rfl
theorem z117.sound:Sn z117.pack 327:=by
 intro vs p h;unfold z117.pack at h;split at h<;>cases h
 exact Q3 (C:=z117.C) Qc Qd rfl rfl rfl (Qa z16.sound (Qa z76.sound (Qa z73.sound (Qa z116.sound (Qa z115.sound (Qa z27.sound (Qa z84.sound (Qa z113.sound Qg)))))))) ⟨Tryz.func327,rfl,by kernel_rfl⟩ (λhI=>Qu rfl Qqu (lpY (z117.l0_sound hI) lpE) 0) rfl (z117.link _ _ _ _ _) z27.hdec
theorem z118.sound:Sn z118.pack 294:=by
 intro vs p h;unfold z118.pack at h;split at h<;>cases h
 exact Qi Qc Qd rfl rfl rfl rfl (Qa z101.sound (Qa z20.sound (Qa z105.sound (Qa z117.sound Qg)))) ⟨Tryz.func294,rfl,by kernel_rfl⟩ rfl (z118.link _ _ _ _ _) z47.hdec
theorem z119.sound:Sn z119.pack 214:=by
 intro vs p h;unfold z119.pack at h;split at h<;>cases h
 exact Qi Qc Qd rfl rfl rfl rfl (Qa z118.sound (Qa z94.sound Qg)) ⟨Tryz.func214,rfl,by kernel_rfl⟩ rfl (z119.link _ _ _ _ _ _) z74.hdec
theorem z120.inlF:InlF Tryz.prog z120.C:=W9 (Qan z100.sound Qa9) inlN
theorem z120.sound:SoundP Tryz.prog 158 (subP 178 81 1 z120.pk):=by
 refine Qhr Qc Qd rfl (Qa z119.sound (Qa z64.sound (Qa z83.sound (Qa z63.sound Qg)))) z120.inlF ⟨Tryz.func158,rfl,by kernel_rfl⟩ rfl λcs ct rest p h=>?_
 unfold z120.pk at h;split at h<;>cases h
 exact ⟨_,_,_,z120.dec,rfl,rfl,rfl,z120.link _ _ _ _ _ _ _ _ _ _ _ _ _ _ _ _ _ _ _ _ _ _ _ _,λv cs' ct' r h=>by unfold z120.dec at h;split at h<;>cases h;exact ⟨rfl,rfl,rfl,rfl⟩⟩
theorem z121.sound:Sn z121.pack 333:=by
 intro vs p h;unfold z121.pack at h;split at h<;>cases h
 exact Qi Qc Qd rfl rfl rfl rfl Qx ⟨Tryz.func333,rfl,by kernel_rfl⟩ rfl z121.link z103.hdec
theorem z122.sound:Sn z122.pack 319:=by
 intro vs p h;unfold z122.pack at h;split at h<;>cases h
 exact Qi Qc Qd rfl rfl rfl rfl (Qa z121.sound Qg) ⟨Tryz.func319,rfl,by kernel_rfl⟩ rfl (z122.link _) z5.hdec
theorem z123.sound:Sn z123.pack 335:=by
 intro vs p h;unfold z123.pack at h;split at h<;>cases h
 exact Qi Qc Qd rfl rfl rfl rfl Qx ⟨Tryz.func335,rfl,by kernel_rfl⟩ rfl z123.link z103.hdec
theorem z124.sound:Sn z124.pack 321:=by
 intro vs p h;unfold z124.pack at h;split at h<;>cases h
 exact Qi Qc Qd rfl rfl rfl rfl (Qa z92.sound (Qa z123.sound Qg)) ⟨Tryz.func321,rfl,by kernel_rfl⟩ rfl (z124.link _) z5.hdec
theorem z125.sound:Sn z125.pack 276:=by
 intro vs p h;unfold z125.pack at h;split at h<;>cases h
 exact Qi Qc Qd rfl rfl rfl rfl (Qa z122.sound (Qa z104.sound (Qa z124.sound Qg))) ⟨Tryz.func276,rfl,by kernel_rfl⟩ rfl (z125.link _ _ _ _ _ _ _ _ _ _) z7.hdec
theorem z126.sound:Sn z126.pack 277:=by
 intro vs p h;unfold z126.pack at h;split at h<;>cases h
 exact Qi Qc Qd rfl rfl rfl rfl (Qa z20.sound (Qa z19.sound Qg)) ⟨Tryz.func277,rfl,by kernel_rfl⟩ rfl (z126.link _ _ _ _) (by intro v r h;unfold z126.dec at h;split at h<;>cases h;exact ⟨rfl,rfl⟩)
theorem z127.sound:Sn z127.pack 198:=by
 intro vs p h;unfold z127.pack at h;split at h<;>cases h
 exact Qi Qc Qd rfl rfl rfl rfl (Qa z76.sound (Qa z22.sound (Qa z73.sound (Qa z125.sound (Qa z126.sound Qg))))) ⟨Tryz.func198,rfl,by kernel_rfl⟩ rfl (z127.link _ _ _ _ _ _ _ _ _ _) z8.hdec
theorem z128.l0_sound (hI:IK Tryz.prog z128.C 6):Qm z128.C 6 211 0 0 (Ql 0 (ifun Tryz.f211).body) z128.l0sh z128.l0pack:=by
 refine Qo λls p h=>?_
 unfold z128.l0pack at h;split at h<;>cases h
 rename_i a b c d e g j k m
 exact Y3 hI z128.l0sh z128.l0sh z128.l0so1 (.exit 0) [3,8] [3,8] [0,1,6] (d,m) (z128.l0_link a b c e g j k)
theorem Qse:Qq (ifun Tryz.f211).body=true:=by kernel_rfl
theorem z128.hdec:Q7 z129.dec z128.enc:=by
 intro v r h
 unfold z129.dec at h;split at h<;>cases h
 exact ⟨rfl,rfl⟩
theorem z128.sound:Sn z128.pack 211:=by
 intro vs p h;unfold z128.pack at h;split at h<;>cases h
 exact Q3 (C:=z128.C) Qc Qd rfl rfl rfl (Qa z20.sound (Qa z126.sound Qg)) ⟨Tryz.func211,rfl,by kernel_rfl⟩ (λhI=>Qu rfl Qse (lpY (z128.l0_sound hI) lpE) 0) rfl (z128.link _ _ _ _ _) z128.hdec
theorem z129.sound:Sn z129.pack 153:=by
 intro vs p h;unfold z129.pack at h;split at h<;>cases h
 exact Qi Qc Qd rfl rfl rfl rfl (Qa z127.sound (Qa z128.sound Qg)) ⟨Tryz.func153,rfl,by kernel_rfl⟩ rfl (z129.link _ _ _ _ _ _ _ _ _ _) z128.hdec
theorem z130.l0_sound (hI:IK Tryz.prog z130.C 6):Qm z130.C 6 86 0 0 (Ql 0 (ifun Tryz.f86).body) z130.l0sh z130.l0pack:=by
 refine Qo λls p h=>?_
 unfold z130.l0pack at h;split at h<;>cases h
 rename_i a b c d e g j k m
 exact Qv hI z130.l0sh z130.l0sh [3,5,6,7,8] [3,5,6,7,8] (d,g,j,k,m) (z130.l0_link a b c e)
theorem Qxa:Qq (ifun Tryz.f86).body=true:=by kernel_rfl
theorem z130.sound:Sn z130.pack 86:=by
 intro vs p h;unfold z130.pack at h;split at h<;>cases h
 exact Q3 (C:=z130.C) Qc Qd rfl rfl rfl (Qa z129.sound Qg) ⟨Tryz.func86,rfl,by kernel_rfl⟩ (λhI=>Qu rfl Qxa (lpY (z130.l0_sound hI) lpE) 0) rfl (z130.link _ _ _ _ _ _ _ _ _ _) (by intro v r h;unfold z130.dec at h;split at h<;>cases h;exact ⟨rfl,rfl⟩)
theorem z131.l0_sound (hI:IK Tryz.prog z131.C 6):Qm z131.C 6 88 0 0 (Ql 0 (ifun Tryz.f88).body) z131.l0sh z131.l0pack:=by
 refine Qo λls p h=>?_
 unfold z131.l0pack at h;split at h<;>cases h
 rename_i a b c d e g j k m n o q r s t u v w
 exact Y3 hI z131.l0sh z131.l0sh z131.l0so1 (.exit 0) [4] [4] [0,1] e (z131.l0_link a b c d g j k m n o q r s t u v w)
theorem Qur:Qq (ifun Tryz.f88).body=true:=by kernel_rfl
theorem z131.sound:Sn z131.pack 88:=by
 intro vs p h;unfold z131.pack at h;split at h<;>cases h
 exact Q3 (C:=z131.C) Qc Qd rfl rfl rfl (Qa z16.sound Qg) ⟨Tryz.func88,rfl,by kernel_rfl⟩ (λhI=>Qu rfl Qur (lpY (z131.l0_sound hI) lpE) 0) rfl (z131.link _ _ _ _ _ _ _ _ _ _ _ _ _ _) z80.hdec
set_option maxHeartbeats 2000000 in
theorem z132.l0a_sound (hI:IK Tryz.prog z132.C 1):Qm z132.C 1 90 0 6 (Ql 0 (ifun Tryz.f90).body) z132.l0ash z132.l0apack:=by
 refine Qo λls p h=>?_
 unfold z132.l0apack at h;split at h<;>cases h
 rename_i a b c d e g j k m n o q r s t u v w x y z A B D E G H I J K L M N O P Q S
 exact Y3 hI z132.l0ash z132.l0ash z132.l0aso1 (.exit 0) [3,4,7,9,10,11,12,13,14,15,16,17,18,19,20,21,22,23,24] [3,4,7,9,10,11,12,13,14,15,16,17,18,19,20,21,22,23,24] [0,1,3,4,5,6,7,8,9,10,11,12,13,14,15,16,17,18] (d,e,k,n,o,q,r,s,t,u,v,w,x,y,z,A,B,D,E) (z132.l0a_link a b c g j m G H I J K L M N O P Q S)
theorem z132.l0_sound (hI:IK Tryz.prog z132.C 6):Qm z132.C 6 25 0 0 (Ql 0 (ifun Tryz.f25).body) z132.l0sh z132.l0pack:=by
 refine Qo λls p h=>?_
 unfold z132.l0pack at h;split at h<;>cases h
 rename_i a b c d e g j k m n o q r s t u v w x y z A B D E
 exact Y3 hI z132.l0sh z132.l0sh z132.l0so1 (.exit 0) [4,7,9,10,11,12,13,14,15,16,17,18,19,20,21,22,23,24] [4,7,9,10,11,12,13,14,15,16,17,18,19,20,21,22,23,24] [0,1,2,4,5,6,7,8,9,10,11,12,13,14,15,16,17,18,19] (e,k,n,o,q,r,s,t,u,v,w,x,y,z,A,B,D,E) (z132.l0_link a b c d g j m)
theorem Qvs:Qq (ifun Tryz.f25).body=true:=by kernel_rfl
theorem Qq8:Qq (ifun Tryz.f90).body=true:=by kernel_rfl
theorem z132.inlF:InlF Tryz.prog z132.C:=W9 (Qan z99.sound (Qan z120.sound Qa9)) (inlC ⟨Tryz.func90,rfl,by kernel_rfl⟩ (λhI base=>Qu rfl Qq8 (lpY (z132.l0a_sound hI) (lpN lpE)) base) inlE)
theorem z132.sound:Sn z132.pack 25:=by
 intro vs p h;unfold z132.pack at h;split at h<;>cases h
 exact Jd (C:=z132.C) Qc Qd rfl (Qa z130.sound (Qa z80.sound (Qa z131.sound (Qa z76.sound (Qa z97.sound (Qa z83.sound (Qa z16.sound Qg))))))) z132.inlF ⟨Tryz.func25,rfl,by kernel_rfl⟩ (λhI=>Qu rfl Qvs (lpN (lpY (z132.l0_sound hI) lpE)) 0) rfl (z132.link _ _ _ _ _ _ _ _ _ _ _) (by intro v r h;unfold z132.dec at h;split at h<;>cases h;exact ⟨rfl,rfl⟩)
theorem z133.hdec:Q7 z140.dec z133.enc:=by
 intro v r h
 unfold z140.dec at h;split at h<;>cases h
 exact ⟨rfl,rfl⟩
theorem z133.sound:Sn z133.pack 91:=by
 intro vs p h;unfold z133.pack at h;split at h<;>cases h
 exact Qi Qc Qd rfl rfl rfl rfl Qx ⟨Tryz.func91,rfl,by kernel_rfl⟩ rfl z133.link z133.hdec
theorem z134.sound:Sn z134.pack 26:=by
 intro vs p h;unfold z134.pack at h;split at h<;>cases h
 exact Qi Qc Qd rfl rfl rfl rfl (Qa z133.sound (Qa z132.sound (Qa z26.sound (Qa z97.sound (Qa z83.sound Qg))))) ⟨Tryz.func26,rfl,by kernel_rfl⟩ rfl z134.link z7.hdec
theorem z135.sound:Sn z135.pack 179:=by
 intro vs p h;unfold z135.pack at h;split at h<;>cases h
 exact Qi Qc Qd rfl rfl rfl rfl Qx ⟨Tryz.func179,rfl,by kernel_rfl⟩ rfl (z135.link _ _) z8.hdec
theorem z136.l0_sound (hI:IK Tryz.prog z136.C 6):Qm z136.C 6 180 0 0 (Ql 0 (ifun Tryz.f180).body) z136.l0sh z136.l0pack:=by
 refine Qo λls p h=>?_
 unfold z136.l0pack at h;split at h<;>cases h
 rename_i a b c
 exact Qv hI z136.l0sh z136.l0sh [1] [1] b (z136.l0_link a c)
theorem Qtf:Qq (ifun Tryz.f180).body=true:=by kernel_rfl
theorem z136.sound:Sn z136.pack 180:=by
 intro vs p h;unfold z136.pack at h;split at h<;>cases h
 exact Q3 (C:=z136.C) Qc Qd rfl rfl rfl Qx ⟨Tryz.func180,rfl,by kernel_rfl⟩ (λhI=>Qu rfl Qtf (lpY (z136.l0_sound hI) lpE) 0) rfl (z136.link _) z10.hdec
theorem z137.l2_sound (hI:IK Tryz.prog z137.C 6):Qm z137.C 6 112 2 0 (Ql 2 (ifun Tryz.f112).body) z137.l2sh z137.l2pack:=by
 refine Qo λls p h=>?_
 unfold z137.l2pack at h;split at h<;>cases h
 rename_i a b c d e g j
 exact Qv hI z137.l2sh z137.l2sh [3,4,6] [3,4,6] (d,e,j) (z137.l2_link a b c g)
theorem z137.l0_sound (hI:IK Tryz.prog z137.C 6):Qm z137.C 6 112 0 0 (Ql 0 (ifun Tryz.f112).body) z137.l0sh z137.l0pack:=by
 refine Qo λls p h=>?_
 unfold z137.l0pack at h;split at h<;>cases h
 rename_i a b c d e
 exact Qv hI z137.l0sh z137.l0sh [2,4] [2,4] (c,e) (z137.l0_link a b d)
theorem Qs2:Qq (ifun Tryz.f112).body=true:=by kernel_rfl
theorem z137.sound:Sn z137.pack 112:=by
 intro vs p h;unfold z137.pack at h;split at h<;>cases h
 exact Q3 (C:=z137.C) Qc Qd rfl rfl rfl (Qa z135.sound (Qa z136.sound Qg)) ⟨Tryz.func112,rfl,by kernel_rfl⟩ (λhI=>Qu rfl Qs2 (lpY (z137.l2_sound hI) (lpY (z137.l0_sound hI) lpE)) 0) rfl (z137.link _ _) z10.hdec
theorem z138.sound:Sn z138.pack 103:=by
 intro vs p h;unfold z138.pack at h;split at h<;>cases h
 exact Qi Qc Qd rfl rfl rfl rfl (Qa z137.sound (Qa z9.sound Qg)) ⟨Tryz.func103,rfl,by kernel_rfl⟩ rfl (z138.link _ _ _ _) z9.hdec
theorem z139.l0_sound (hI:IK Tryz.prog z139.C 6):Qm z139.C 6 104 0 0 (Ql 0 (ifun Tryz.f104).body) z139.l0sh z139.l0pack:=by
 refine Qo λls p h=>?_
 unfold z139.l0pack at h;split at h<;>cases h
 rename_i a b c d e
 exact Qv hI z139.l0sh z139.l0sh [1] [1] b (z139.l0_link a c d e)
theorem Qtb:Qq (ifun Tryz.f104).body=true:=by kernel_rfl
theorem z139.sound:Sn z139.pack 104:=by
 intro vs p h;unfold z139.pack at h;split at h<;>cases h
 exact Q3 (C:=z139.C) Qc Qd rfl rfl rfl (Qa z5.sound Qg) ⟨Tryz.func104,rfl,by kernel_rfl⟩ (λhI=>Qu rfl Qtb (lpY (z139.l0_sound hI) lpE) 0) rfl (z139.link _ _ _) z5.hdec
theorem z140.sound:Sn z140.pack 30:=by
 intro vs p h;unfold z140.pack at h;split at h<;>cases h
 exact Qi Qc Qd rfl rfl rfl rfl (Qa z12.sound (Qa z11.sound (Qa z138.sound (Qa z6.sound (Qa z139.sound Qg))))) ⟨Tryz.func30,rfl,by kernel_rfl⟩ rfl (z140.link _ _ _ _ _ _ _ _ _ _ _ _ _) z133.hdec
theorem z141.l0_sound (hI:IK Tryz.prog z141.C 6):Qm z141.C 6 29 0 0 (Ql 0 (ifun Tryz.f29).body) z141.l0sh z141.l0pack:=by
 refine Qo λls p h=>?_
 unfold z141.l0pack at h;split at h<;>cases h
 rename_i a b c d e
 exact Y3 hI z141.l0sh z141.l0sh z141.l0so1 (.exit 0) [4] [4] [0] e (z141.l0_link a b c d)
theorem Qsh:Qq (ifun Tryz.f29).body=true:=by kernel_rfl
theorem z141.sound:Sn z141.pack 29:=by
 intro vs p h;unfold z141.pack at h;split at h<;>cases h
 exact Q3 (C:=z141.C) Qc Qd rfl rfl rfl Qx ⟨Tryz.func29,rfl,by kernel_rfl⟩ (λhI=>Qu rfl Qsh (lpY (z141.l0_sound hI) lpE) 0) rfl (z141.link _ _) z7.hdec
theorem z142.sound:Sn z142.pack 129:=by
 intro vs p h;unfold z142.pack at h;split at h<;>cases h
 exact Qi Qc Qd rfl rfl rfl rfl (Qa z76.sound (Qa z95.sound (Qa z96.sound Qg))) ⟨Tryz.func129,rfl,by kernel_rfl⟩ rfl (z142.link _ _ _ _ _ _ _ _ _ _) z74.hdec
theorem z143.sound:Sn z143.pack 130:=by
 intro vs p h;unfold z143.pack at h;split at h<;>cases h
 exact Qi Qc Qd rfl rfl rfl rfl (Qa z127.sound (Qa z115.sound (Qa z73.sound (Qa z27.sound (Qa z84.sound (Qa z94.sound Qg)))))) ⟨Tryz.func130,rfl,by kernel_rfl⟩ rfl (z143.link _ _ _ _ _ _ _ _ _ _ _ _ _ _ _ _ _ _) z74.hdec
theorem meth39_Cmp:MethOK Tryz.prog 39 "Cmp" 155:=λrecv w=>by kernel_rfl
theorem z144.meths (t:Nat) (m:String) (g:Nat) (h:z144.C.meth t m=some g):MethOK Tryz.prog t m g:=by
 unfold z144.C at h;simp only at h
 split at h
 ·rename_i e;obtain ⟨rfl,rfl⟩:=e;cases h;exact meth39_Cmp
 ·simp at h
theorem z144.sound:Sn z144.pack 201:=by
 intro vs p h;unfold z144.pack at h;split at h<;>cases h
 exact Qxe Qc Qd rfl rfl rfl rfl (Qa z65.sound Qg) z144.meths ⟨Tryz.func201,rfl,by kernel_rfl⟩ rfl (z144.link _ _ _ _) z23.hdec
theorem z145.sound:Sn z145.pack 131:=by
 intro vs p h;unfold z145.pack at h;split at h<;>cases h
 exact Qi Qc Qd rfl rfl rfl rfl (Qa z64.sound (Qa z22.sound (Qa z144.sound Qg))) ⟨Tryz.func131,rfl,by kernel_rfl⟩ rfl (z145.link _ _ _ _ _ _ _) z23.hdec
theorem z146.l0_sound (hI:IK Tryz.prog z146.C 6):Qm z146.C 6 61 0 0 (Ql 0 (ifun Tryz.f61).body) z146.l0sh z146.l0pack:=by
 refine Qo λls p h=>?_
 unfold z146.l0pack at h;split at h<;>cases h
 rename_i a b c d e g j k m n o q r s t u v w x y z
 exact Y3 hI z146.l0sh z146.l0sh z146.l0so1 (.exit 0) [4,18,19,20] [4,18,19,20] [0,1,15,16,17] (e,x,y,z) (z146.l0_link a b c d g j k m n o q r s t u v w)
theorem Qy3:Qq (ifun Tryz.f61).body=true:=by kernel_rfl
theorem z146.sound:Sn z146.pack 61:=by
 intro vs p h;unfold z146.pack at h;split at h<;>cases h
 exact Q3 (C:=z146.C) Qc Qd rfl rfl rfl (Qa z130.sound (Qa z142.sound (Qa z76.sound (Qa z143.sound (Qa z145.sound (Qa z64.sound (Qa z83.sound (Qa z63.sound Qg)))))))) ⟨Tryz.func61,rfl,by kernel_rfl⟩ (λhI=>Qu rfl Qy3 (lpY (z146.l0_sound hI) lpE) 0) rfl (z146.link _ _ _ _ _ _ _ _ _ _) (by intro v r h;unfold z146.dec at h;split at h<;>cases h;exact ⟨rfl,rfl⟩)
theorem fun9:FunOK Tryz.prog 9 Tryz.f9 (ifun Tryz.f9).body:=⟨Tryz.func9,rfl,by kernel_rfl⟩
theorem z147.sound:Sn z147.pack 9:=by
 intro vs p h;unfold z147.pack at h;split at h<;>cases h
 exact Qi Qc Qd rfl rfl rfl rfl (Qa z140.sound (Qa z132.sound (Qa z146.sound (Qa z134.sound (Qa z141.sound Qg))))) fun9 rfl (z147.link _ _ _ _ _ _ _ _ _ _ _ _) z7.hdec
set_option maxHeartbeats 2000000 in
set_option maxHeartbeats 2000000 in
end
end Go.Proofs.YtihfdjkjpncjfaaGreatDoor.A
end
section
namespace Go.Proofs.YtihfdjkjpncjfaaGreatDoor.A
open Go Go.RowKit Go.ChangeShapes Go.WideShapes
noncomputable section
inductive SC where
 |b
 |i (k:IntKind)
 |s
inductive CT where
 |sc (c:SC)
 |sl (cs:List SC)
def scOf:CT->Option SC
 |.sc c=>some c
 |_=>none
def Jv:List CT->Option (List SC)
 |[]=>some []
 |c::l=>(scOf c).bind λx=>(Jv l).map (x :: ·)
def okS:SC->V->Prop
 |.b,v=>∃x,v=.bool x
 |.i k,v=>∃n,v=.int k n/\(Lit.int k n).wf=true
 |.s,v=>∃l,v=.str l/\l.length<=maxLen
def okSL:List SC->List V->Prop
 |[],vs=>vs=[]
 |c::cs,vs=>∃v l,vs=v::l/\okS c v/\okSL cs l
def okC:CT->V->Prop
 |.sc c,v=>okS c v
 |.sl [.i k],v=>∃l,v=.ints false k l/\(∀n∈l,(Lit.int k n).wf=true)/\l.length<=maxLen
 |.sl [.s],v=>∃l,v=.strs false l/\(∀s∈l,s.length<=maxLen)/\l.length<=maxLen
 |.sl cs,v=>∃l,v=.recs false cs.length l/\(∀r∈l,okSL cs r)/\l.length<=maxLen
def okCL:List CT->List V->Prop
 |[],vs=>vs=[]
 |c::cs,vs=>∃v l,vs=v::l/\okC c v/\okCL cs l
def ctsF (P:Program) (rec:TypeId->Option (List CT)):Nat->List Field->Option (List CT)
 |_,[]=>some []
 |off,f::fs=>if f.offset=off then (rec f.type).bind λl=>if P.cellsOf f.type=l.length then (ctsF P rec (off+l.length) fs).map (l ++ ·) else none else none
def ctsA (l:List CT):Nat->List CT
 |0=>[]
 |n+1=>l++ctsA l n
def cts (P:Program):Nat->TypeId->Option (List CT)
 |0,_=>none
 |
  n+1,t=>
  match P.underlying t with
  |some .bool=>some [.sc .b]
  |some (.int k)=>some [.sc (.i k)]
  |some .string=>some [.sc .s]
  |some (.struct fs)=>(ctsF P (cts P n) 0 fs.toList).bind λl=>if P.cellsOf t=l.length then some l else none
  |some (.array m e)=>(cts P n e).bind λl=>if P.cellsOf e=l.length/\P.cellsOf t=m*l.length then some (ctsA l m) else none
  |some (.slice e)=>(cts P n e).bind λl=>(Jv l).bind λcs=>if P.cellsOf e=cs.length/\0<cs.length then some [.sl cs] else none
  |_=>none
abbrev noO:Nat->Prop:=λ_=>False
def Qk9 (W:World) (c:CT) (cv:Value) (v:V):Prop:=okC c v/\Rep0 noO W cv v/\cv.oneCell'=true
def Jk (W:World) (l:List CT) (cs:List Value) (vs:List V):Prop:=
 cs.length=l.length/\vs.length=l.length/\∀(j:Nat) (c:CT) (cv:Value) (v:V),l[j]? = some c->cs[j]? = some cv->vs[j]? = some v->Qk9 W c cv v
theorem cellsR_nil (W:World):Jk W [] [] []:=⟨rfl,rfl,λ(j:Nat) c cv v h=>by simp at h⟩
theorem Qc0 {W:World} {c:CT} {cv:Value} {v:V} (h:Qk9 W c cv v):Jk W [c] [cv] [v]:=by
 refine ⟨rfl,rfl,λj c' cv' v' h1 h2 h3=>?_⟩
 cases j with
 |zero=>simp at h1 h2 h3;subst h1 h2 h3;exact h
 |succ j=>simp at h1
theorem Qp1 {W:World} {l l':List CT} {cs cs':List Value} {vs vs':List V} (h:Jk W l cs vs) (h':Jk W l' cs' vs'):Jk W (l++l') (cs++cs') (vs++vs'):=by
 obtain ⟨a1,a2,a3⟩:=h;obtain ⟨b1,b2,b3⟩:=h'
 refine ⟨by simp [a1,b1],by simp [a2,b2],λj c cv v h1 h2 h3=>?_⟩
 by_cases hj:j<l.length
 ·rw [Z47 hj] at h1
  rw [Z47 (by omega)] at h2 h3
  exact a3 j c cv v h1 h2 h3
 ·rw [Z61 (by omega)] at h1 h2 h3
  rw [a1] at h2;rw [a2] at h3
  exact b3 _ c cv v h1 h2 h3
theorem Qje {W:World}:∀{l:List CT} {cs:List Value} {vs:List V},Jk W l cs vs->okCL l vs
 |[],cs,vs,h=>List.length_eq_zero_iff.1 h.2.1
 |
  c::l,cs,vs,h=>by
  obtain ⟨h1,h2,h3⟩:=h
  match cs,vs,h1,h2 with
  |
   cv::cs,v::vs,h1,h2=>
   exact ⟨v,vs,rfl,(h3 0 c cv v rfl rfl rfl).1,Qje (cs:=cs) ⟨by simpa using h1,by simpa using h2,λj c' cv' v' a b d=>h3 (j+1) c' cv' v' (by simpa using a) (by simpa using b) (by simpa using d)⟩⟩
theorem Qm5:∀{l:List CT} {ss:List SC} {vs:List V},Jv l=some ss->okCL l vs->okSL ss vs
 |[],ss,vs,h,hv=>by simp [Jv] at h;subst h;exact hv
 |
  c::l,ss,vs,h,hv=>by
  simp only [Jv,Z5,Z22] at h
  obtain ⟨x,hx,y,hy,rfl⟩:=h
  obtain ⟨v,r,rfl,h1,h2⟩:=hv
  refine ⟨v,r,rfl,?_,Qm5 hy h2⟩
  cases c with
  |sc c=>simp [scOf] at hx;subst hx;exact h1
  |sl _=>simp [scOf] at hx
theorem Qos:∀{l:List CT} {ss:List SC},Jv l=some ss->ss.length=l.length
 |[],ss,h=>by simp [Jv] at h;subst h;rfl
 |
  c::l,ss,h=>by
  simp only [Jv,Z5,Z22] at h
  obtain ⟨x,hx,y,hy,rfl⟩:=h
  simp [Qos hy]
theorem Qg4 {α:Type} {Q:Nat->α->Prop}:∀{n:Nat},(∀i,i<n->∃x,Q i x)->∃l:List α,l.length=n/\∀(i:Nat) (x:α),l[i]? = some x->Q i x
 |0,_=>⟨[],rfl,λi x h=>by simp at h⟩
 |
  n+1,h=>by
  obtain ⟨l,h1,h2⟩:=Qg4 (n:=n) λi hi=>h i (by omega)
  obtain ⟨x,hx⟩:=h n (by omega)
  refine ⟨l++[x],by simp [h1],λi y hy=>?_⟩
  by_cases hi:i<l.length
  ·rw [Z47 hi] at hy;exact h2 i y hy
  ·rw [Z61 (by omega)] at hy
   have:i-l.length=0:=by
    rcases Z44 (i-l.length) 1 with h0|h0
    ·omega
    ·rw [Z15 (by simp;omega)] at hy;simp at hy
   rw [this] at hy;simp at hy;subst hy
   have:i=n:=by omega
   subst this;exact hx
theorem Qnf {α:Type} (z:Nat) (hz:0<z):∀(l:List (List α)) (j:Nat),(∀e∈l,e.length=z)->l.flatten[j]? = (l[j/z]?).bind (·[j%z]?)
 |[],j,_=>by simp
 |
  e::l,j,h=>by
  have he:=h e (by simp)
  rw [Z57]
  by_cases hj:j<z
  ·rw [Z47 (by omega),Nat.div_eq_of_lt hj,Z106 hj];rfl
  ·rw [Z61 (by omega),Qnf z hz l _ (λx hx=>h x (by simp [hx])),he]
   have h1:j/z=(j-z)/z+1:=by rw [<-Nat.add_div_right (j-z) hz,Nat.sub_add_cancel (by omega)]
   have h2:j%z=(j-z)%z:=by rw [<-Nat.add_mod_right (j-z) z,Nat.sub_add_cancel (by omega)]
   rw [h1,h2];rfl
theorem ones {α:Type} {c:SC} {f:α->V} {Q:α->Prop} (hc:∀v,okS c v->∃n,v=f n/\Q n):∀vss:J2,(∀r∈vss,okSL [c] r) ->
  ∃zs:List α,vss.flatten=zs.map f/\zs.length=vss.length/\∀n∈zs,Q n
 |[],_=>⟨[],rfl,rfl,by simp⟩
 |
  r::vss,h=>by
  obtain ⟨zs,e1,e2,e3⟩:=ones hc vss λx hx=>h x (by simp [hx])
  obtain ⟨v,l,rfl,hv,hl⟩:=h r (by simp)
  have hl:l=[]:=hl
  subst hl
  obtain ⟨n,rfl,hq⟩:=hc v hv
  exact ⟨n::zs,by simp [e1],by simp [e2],by simpa using ⟨hq,e3⟩⟩
theorem Qqe {W:World} {t e n m:Nat} {ss:List SC} {l:List CT} {a:Addr} {len cap:Nat} (hs:Jv l=some ss) (hz:0<ss.length) (hl:len<=cap) (hm:cap<=maxLen)
  (h:∀i,i<len->∃cs vs,W.cells? 0 (a.add (i*ss.length)) ss.length=some cs/\Jk W l cs vs):∃v,okC (.sl ss) v/\Rep0 noO W (.slice (some a) len cap) v:=by
 obtain ⟨rows,h1,h2⟩:=Qg4 h
 have hsl:=Qos hs
 have hrow:∀(i:Nat) (r:List Value),rows[i]? = some r->∃vs:List V,r.length=ss.length/\okSL ss vs/\vs.length=ss.length/\∀(j:Nat) (cv:Value) (v:V),r[j]? = some cv->vs[j]? = some v->W.cell? (a.add (i*ss.length+j))=some cv/\Rep0 noO W cv v/\cv.oneCell'=true:=by
  intro i r hr
  obtain ⟨vs,hc,hv⟩:=h2 i r hr
  obtain ⟨_,hlen,hcell⟩:=World.cells?_some hc
  refine ⟨vs,hlen,Qm5 hs (Qje hv),hv.2.1.trans hsl.symm,λj cv v hj hjv=>?_⟩
  have hjl:j<l.length:=by have:=(List.getElem?_eq_some_iff.1 hj).1;omega
  have:=hv.2.2 j l[j] cv v (by simp) hj hjv
  refine ⟨?_,this.2⟩
  rw [<-Go.Deep.add_add,hcell j (by omega),hj]
 have hall:∀i,i<rows.length->∃vs:List V,okSL ss vs/\vs.length=ss.length/\∀(j:Nat) (v:V),vs[j]? = some v->∃cv,W.cell? (a.add (i*ss.length+j))=some cv/\Rep0 noO W cv v/\cv.oneCell'=true:=by
  intro i hi
  obtain ⟨vs,q1,q2,q3,q4⟩:=hrow i rows[i] (by simp [hi])
  refine ⟨vs,q2,q3,λj v hv=>?_⟩
  have:j<ss.length:=by have:=(List.getElem?_eq_some_iff.1 hv).1;omega
  exact ⟨_,q4 j (rows[i][j]'(by omega)) v (by simp) hv⟩
 obtain ⟨vss,g1,g2⟩:=Qg4 hall
 have hvlen:∀e∈vss,e.length=ss.length:=λe he=>by obtain ⟨i,hi,rfl⟩:=Z76 he;exact (g2 i _ (by simp [hi])).2.1
 have gen:∀v:V,flatV v=some (len,vss.flatten)->isExact v=false->Rep0 noO W (.slice (some a) len cap) v:=by
  intro v hf hx
  have hcell:∀(j:Nat) (v:V),vss.flatten[j]? = some v->∃cv,W.cell? (a.add j)=some cv/\Rep0 noO W cv v/\cv.oneCell'=true:=by
   intro j v hv
   rw [Qnf ss.length hz vss j hvlen] at hv
   obtain ⟨r,hr,hv⟩:=Z5.1 hv
   obtain ⟨cv,k1,k2⟩:=(g2 _ r hr).2.2 _ v hv
   refine ⟨cv,?_,k2⟩
   rw [show j=j/ss.length*ss.length+j%ss.length by rw [Z25];exact (Z63 j ss.length).symm]
   exact k1
  refine .slice (some a) len cap v vss.flatten (λj=>(W.cell? (a.add j)).getD Go.undef) hf (by simp [hx]) hl (by simp) (λj hj=>?_) (λj hj=>?_) (λj hj=>?_)
  ·obtain ⟨cv,k1,k2,k3⟩:=hcell j _ (Z1 hj)
   exact ⟨a,rfl,λh=>h.elim,by rw [k1];rfl⟩
  ·obtain ⟨cv,k1,k2,k3⟩:=hcell j _ (Z1 hj)
   rw [k1];exact k3
  ·obtain ⟨cv,k1,k2,k3⟩:=hcell j _ (Z1 hj)
   rw [k1];exact k2
 have hlen':vss.length=len:=by omega
 have recs:∃v,(∃l,v=V.recs false ss.length l/\(∀r∈l,okSL ss r)/\l.length<=maxLen)/\Rep0 noO W (.slice (some a) len cap) v:=by
  refine ⟨.recs false ss.length vss,⟨vss,rfl,λr hr=>?_,by omega⟩,gen _ ?_ rfl⟩
  ·obtain ⟨i,hi,rfl⟩:=Z76 hr;exact (g2 i _ (by simp [hi])).1
  ·simp only [flatV];rw [if_pos ⟨hz,hvlen⟩,hlen']
 match ss,hs,hz,recs,g2,gen,hvlen with
 |[],_,hz,_,_,_,_=>simp at hz
 |[.b],_,_,recs,_,_,_=>exact recs
 |x::y::_,_,_,recs,_,_,_=>exact by cases x<;>exact recs
 |
  [.i k],_,_,recs,g2,gen,hvlen=>
  obtain ⟨zs,e1,e2,e3⟩:=ones (c:=.i k) (f:=V.int k) (λv h=>h) vss λr hr=>by
   obtain ⟨i,hi,rfl⟩:=Z76 hr;exact (g2 i _ (by simp [hi])).1
  refine ⟨.ints false k zs,⟨zs,rfl,e3,by omega⟩,gen _ ?_ rfl⟩
  simp only [flatV];rw [e1,e2,hlen']
 |
  [.s],_,_,recs,g2,gen,hvlen=>
  obtain ⟨zs,e1,e2,e3⟩:=ones (c:=.s) (f:=V.str) (λv h=>h) vss λr hr=>by
   obtain ⟨i,hi,rfl⟩:=Z76 hr;exact (g2 i _ (by simp [hi])).1
  refine ⟨.strs false zs,⟨zs,rfl,e3,by omega⟩,gen _ ?_ rfl⟩
  simp only [flatV];rw [e1,e2,hlen']
theorem Qw2 {W:World} {ss:List SC} (hz:0<ss.length):∃v,okC (.sl ss) v/\Rep0 noO W (.slice none 0 0) v:=by
 have gen:∀v:V,flatV v=some (0,[])->isExact v=false->Rep0 noO W (.slice none 0 0) v:=λv hf hx=>
  .slice none 0 0 v [] (λ_=>Go.undef) hf (by simp [hx]) (Z4 _) (λ_=>rfl) (λj hj=>by simp at hj) (λj hj=>by simp at hj) (λj hj=>by simp at hj)
 match ss,hz with
 |[.i k],_=>exact ⟨.ints false k [],⟨[],rfl,by simp,by simp⟩,gen _ rfl rfl⟩
 |[.s],_=>exact ⟨.strs false [],⟨[],rfl,by simp,by simp⟩,gen _ rfl rfl⟩
 |[.b],_=>exact ⟨.recs false 1 [],⟨[],rfl,by simp,by simp⟩,gen _ (by simp [flatV]) rfl⟩
 |a::a'::ss,_=>exact ⟨.recs false (a::a'::ss).length [],by cases a<;>exact ⟨[],rfl,by simp,by simp⟩,gen _ (by simp [flatV]) rfl⟩
section
variable {H:Type} {enc:TypeId×Value->H} {P:Program} {W:World}
theorem Qfw:∀(n:Nat) (t:TypeId) (l:List CT),cts P n t=some l->∀(fuel:Nat) (cs:List Value) (x:DataW H×List MemPlace),DataW.trod enc P W 0 (λ_=>true) true fuel t cs=some x ->
  ∃vs,Jk W l cs vs
 |0,t,l,h,_,_,_,_=>by simp [cts] at h
 |
  n+1,t,l,h,fuel,cs,x,hx=>by
  unfold cts at h
  split at h
  ·rename_i ht
   simp at h;subst h
   obtain ⟨bb,rfl,_⟩:=DataW.trod_bool ht hx
   exact ⟨[.bool bb],Qc0 ⟨⟨bb,rfl⟩,.bool bb,rfl⟩⟩
  ·rename_i k ht
   simp at h;subst h
   obtain ⟨b,rfl,_,hw⟩:=DataW.trod_int ht hx
   exact ⟨[.int k b],Qc0 ⟨⟨b,rfl,hw⟩,.int k b,rfl⟩⟩
  ·rename_i ht
   simp at h;subst h
   obtain ⟨b,rfl,_,hw⟩:=DataW.trod_string ht hx
   exact ⟨[.str b.data.toList],Qc0 ⟨⟨_,rfl,by simpa using hw⟩,.str _ _ rfl,rfl⟩⟩
  ·rename_i fs ht
   obtain ⟨l',h1,h2⟩:=Z5.1 h
   split at h2
   case isFalse=>simp at h2
   rename_i hsz
   simp at h2;subst h2
   obtain ⟨xs,m,_,_,hlen,hxl,hf⟩:=DataW.trod_struct ht hx
   have key:∀(gs:List Field) (off:Nat) (l':List CT),ctsF P (cts P n) off gs=some l'->(∀f∈gs,∃y,DataW.trod enc P W 0 (λ_=>true) true m f.type ((cs.drop f.offset).take (P.cellsOf f.type))=some y) ->
     ∃vs,Jk W l' ((cs.drop off).take l'.length) vs:=by
    intro gs
    induction gs with
    |nil=>intro off l' h _;simp [ctsF] at h;subst h;exact ⟨[],by simpa using cellsR_nil W⟩
    |
     cons f gs ih=>
     intro off l' h hg
     unfold ctsF at h
     split at h
     case isFalse=>simp at h
     rename_i hoff
     obtain ⟨lf,h1,h2⟩:=Z5.1 h
     split at h2
     case isFalse=>simp at h2
     rename_i hsz
     obtain ⟨l2,h3,rfl⟩:=Z22.1 h2
     obtain ⟨y,hy⟩:=hg f (by simp)
     obtain ⟨vs1,c1⟩:=Qfw n f.type lf h1 m _ y hy
     obtain ⟨vs2,c2⟩:=ih _ _ h3 λf' hf'=>hg f' (by simp [hf'])
     refine ⟨vs1++vs2,?_⟩
     have hc:=Qp1 c1 c2
     rw [hoff,hsz] at hc
     have hl1:lf.length<=(cs.drop off).length:=by
      have:=c1.1;rw [hoff,hsz,Z8] at this;omega
     rw [Z9,List.take_add,Z100]
     exact hc
   have hall:∀f∈fs.toList,∃y,DataW.trod enc P W 0 (λ_=>true) true m f.type ((cs.drop f.offset).take (P.cellsOf f.type))=some y:=by
    intro f hf'
    obtain ⟨i,hi,rfl⟩:=Z76 hf'
    have hi':i<fs.size:=by simpa using hi
    have:=hf i (fs.toList[i]) (by simp [hi'])
    rw [Z1 (by omega)] at this
    exact ⟨_,this⟩
   obtain ⟨vs,hv⟩:=key fs.toList 0 _ h1 hall
   refine ⟨vs,?_⟩
   rwa [Z36,Z28 (by omega)] at hv
  ·rename_i m e ht
   obtain ⟨l',h1,h2⟩:=Z5.1 h
   split at h2
   case isFalse=>simp at h2
   rename_i hsz
   simp at h2;subst h2
   obtain ⟨xs,q,_,_,hlen,hxl,hf⟩:=DataW.trod_array ht hx
   have key:∀(k:Nat),k<=m->∃vs,Jk W (ctsA l' k) ((cs.drop ((m-k)*l'.length)).take (k*l'.length)) vs:=by
    intro k
    induction k with
    |zero=>intro _;exact ⟨[],by simpa [ctsA] using cellsR_nil W⟩
    |
     succ k ih=>
     intro hk
     obtain ⟨vs2,c2⟩:=ih (by omega)
     have h3:=hf (m-(k+1)) (by omega)
     rw [Z1 (by omega)] at h3
     obtain ⟨vs1,c1⟩:=Qfw n e l' h1 q _ _ h3
     refine ⟨vs1++vs2,?_⟩
     have hc:=Qp1 c1 c2
     rw [hsz.1] at hc
     have e1:(m-k)*l'.length=(m-(k+1))*l'.length+l'.length:=by
      rw [<-Nat.succ_mul];congr 1;omega
     have e2:(k+1)*l'.length=l'.length+k*l'.length:=by rw [Nat.succ_mul,Nat.add_comm]
     rw [e1,<-Z100] at hc
     rw [e2,List.take_add]
     exact hc
   obtain ⟨vs,hv⟩:=key m (Z4 _)
   refine ⟨vs,?_⟩
   rwa [Nat.sub_self,Nat.zero_mul,Z36,Z28 (by omega)] at hv
  ·rename_i e ht
   obtain ⟨l',h1,h2⟩:=Z5.1 h
   obtain ⟨ss,h3,h4⟩:=Z5.1 h2
   split at h4
   case isFalse=>simp at h4
   rename_i hsz
   simp at h4;subst h4
   rcases Go.Deep.open_slice ht hx with ⟨rfl,_⟩|⟨a,len,cap,m,q,D,Pl,rfl,_,hl,hm,hmm,_,hi⟩
   ·obtain ⟨v,k1,k2⟩:=Qw2 (W:=W) hsz.2
    exact ⟨[v],Qc0 ⟨k1,k2,rfl⟩⟩
   ·simp only [if_true] at hmm
    subst hmm
    rw [hsz.1] at hi
    obtain ⟨v,k1,k2⟩:=Qqe (t:=0) (e:=0) (n:=0) (m:=0) h3 hsz.2 hl hm λi hi'=>by
     obtain ⟨cs',c1,c2⟩:=hi i (by omega)
     obtain ⟨vs,c3⟩:=Qfw n e l' h1 q _ _ c2
     exact ⟨cs',vs,c1,c3⟩
    exact ⟨[v],Qc0 ⟨k1,k2,rfl⟩⟩
  ·simp at h
inductive AT where
 |one (c:CT)
 |agg (l:List CT)
def okA:AT->V->Prop
 |.one c,v=>okC c v
 |.agg l,v=>∃vs,v=.agg vs/\okCL l vs
def okAL:List AT->List V->Prop
 |[],vs=>vs=[]
 |c::cs,vs=>∃v l,vs=v::l/\okA c v/\okAL cs l
def atOf (P:Program) (n:Nat) (t:TypeId):Option AT:=
 (cts P n t).bind λl=>match P.underlying t with
  |some (.struct _)|some (.array _ _)=>some (.agg l)
  |
   _=>match l with
   |[c]=>some (.one c)
   |_=>none
def Qbv (P:Program) (n:Nat):List TypeId->Option (List AT)
 |[]=>some []
 |t::ts=>(atOf P n t).bind λx=>(Qbv P n ts).map (x :: ·)
theorem Qyu {n:Nat} {t:TypeId} {q:AT} (hq:atOf P n t=some q) {base:Nat} {v:Value} {d:DataW H} {ps:List MemPlace} (hval:Value.okWide P W .any base t v) (h:DataW.Trod enc P W 0 (λ_=>true) true t v d ps) :
  ∃x,okA q x/\Rep0 noO W v x:=by
 obtain ⟨l,h1,h2⟩:=Z5.1 hq
 obtain ⟨fuel,hf⟩:=h
 obtain ⟨vs,hv⟩:=Qfw n t l h1 fuel _ _ hf
 have aggCase:(∃cs,v=.agg cs)->∃x,okA (.agg l) x/\Rep0 noO W v x:=by
  rintro ⟨cs,rfl⟩
  have hc:(Value.agg cs).cells.toList=cs.toList:=rfl
  rw [hc] at hv
  refine ⟨.agg vs,⟨vs,rfl,Qje hv⟩,.agg cs vs (by have:=hv.1;have:=hv.2.1;simp at *;omega) (λj hj=>?_) (λj hj=>?_)⟩ <;>
  ·have hj1:j<cs.size:=by have:=hv.1;have:=hv.2.1;simp at *;omega
   have:=hv.2.2 j (l[j]'(by have:=hv.2.1;omega)) cs[j] vs[j] (by simp) (by simp [hj1]) (by simp)
   have e:cs.getD j Go.undef=cs[j]:=by simp [Array.getD,hj1]
   rw [e]
   first|exact this.2.2|exact this.2.1
 split at h2
 ·rename_i fs ht
  simp at h2;subst h2
  obtain ⟨cs,rfl,_⟩:=okWide_struct ht hval
  exact aggCase ⟨cs,rfl⟩
 ·rename_i m e ht
  simp at h2;subst h2
  unfold Value.okWide at hval
  rw [ht] at hval
  obtain ⟨cs,rfl,_⟩:=hval
  exact aggCase ⟨cs,rfl⟩
 ·rename_i hns hna
  split at h2
  case h_2=>simp at h2
  rename_i c
  simp at h2;subst h2
  obtain ⟨a1,a2,a3⟩:=hv
  match vs,a2 with
  |
   [x],_=>
   have hcells:v.cells = #[v]:=by
    cases v with
    |
     agg cs=>
     exfalso
     unfold Value.okWide at hval
     cases n with
     |zero=>simp [cts] at h1
     |
      succ n=>
      unfold cts at h1
      split at h1<;>rename_i ht
      ·rw [ht] at hval;simp [Cell.okWide,Cell.ok,ht] at hval
      ·rw [ht] at hval;simp [Cell.okWide,Cell.ok,ht] at hval
      ·rw [ht] at hval;simp [Cell.okWide,Cell.ok,ht] at hval
      ·exact hns _ ht
      ·exact hna _ _ ht
      ·rw [ht] at hval;simp [Cell.okWide,Cell.ok,ht] at hval
      ·simp at h1
    |_=>rfl
   rw [hcells] at a3
   have:=a3 0 c v x rfl rfl rfl
   exact ⟨x,this.1,this.2.1⟩
theorem Qmy {n:Nat}:∀{ts:List TypeId} {qs:List AT} {args:List Value} {ds:List (DataW H)} {ps:List MemPlace} {base:Nat},Qbv P n ts=some qs->DataW.TrodAll enc P W 0 (λ_=>true) true ts args ds ps ->
  (∀(j:Nat) t v,ts[j]? = some t->args[j]? = some v->Value.okWide P W .any base t v) ->
  ∃vs,args.length=vs.length/\okAL qs vs/\∀j (h:j<vs.length),Rep0 noO W (args.getD j Go.undef) vs[j]
 |
  [],qs,args,ds,ps,base,hq,h,_=>by
  simp [Qbv] at hq;subst hq
  obtain ⟨rfl,rfl,rfl⟩:=trodAll_nil h
  exact ⟨[],rfl,rfl,λj h=>by simp at h⟩
 |
  t::ts,qs,args,ds,ps,base,hq,h,hval=>by
  simp only [Qbv,Z5,Z22] at hq
  obtain ⟨q,hq1,qs',hq2,rfl⟩:=hq
  obtain ⟨v,vs,d,ds',p,p',rfl,rfl,rfl,h1,h2⟩:=trodAll_cons h
  obtain ⟨x,k1,k2⟩:=Qyu hq1 (hval 0 t v rfl rfl) h1
  obtain ⟨xs,l1,l2,l3⟩:=Qmy hq2 h2 λj t v a b=>hval (j+1) t v (by simpa using a) (by simpa using b)
  refine ⟨x::xs,by simp [l1],⟨x,xs,rfl,k1,l2⟩,λj hj=>?_⟩
  cases j with
  |zero=>exact k2
  |succ j=>simpa using l3 j (by simpa using hj)
theorem Qy1 {ts:List TypeId} (hl:laidOutB P=true) (hr:ts.all (λt=>P.readableRec t&&decide (t<P.types.size))=true) {W':World} (hb:Below W.heap.size W W') {sp:Nat->Bool} :
  ∀
   {vs:List Value} {ds:List (DataW H)} {ps:List MemPlace},DataW.TrodAll enc P W 0 (λ_=>true) true ts vs ds ps->(∀x∈ps,x.block<W.heap.size)->(∀x∈ps,sp x.block=true) ->
   DataW.TrodAll enc P W' 0 sp true ts vs ds ps:=by
 induction ts with
 |
  nil=>
  intro vs ds ps h _ _
  obtain ⟨rfl,rfl,rfl⟩:=trodAll_nil h
  exact trodAll_mk0
 |
  cons t ts ih=>
  intro vs ds ps h hlt hsp
  obtain ⟨v,vs',d,ds',p,p',rfl,rfl,rfl,h1,h2⟩:=trodAll_cons h
  simp only [List.all_cons,Z7,decide_eq_true_eq] at hr
  exact trodAll_cons_mk (WideElems.Trod_stays hl hr.1.1 hr.1.2 h1 (λx hx=>hb.same (hlt x (by simp [hx]))) (λx hx=>hsp x (by simp [hx])))
   (ih hr.2 h2 (λx hx=>hlt x (by simp [hx])) (λx hx=>hsp x (by simp [hx])))
theorem Qtt {f:Func} {s:ChangeSpec} {apart fresh handsOn again:Bool} {W W':World} {args:Array Value} {v:Value} {ds gs:List (DataW H)} {before pa pv:List MemPlace}
  (hW:DataW.Whole enc P f.params.toList s.vars apart W args.toList ds gs before)
  (hres:∀(b:Nat) (sp:Nat->Bool) (hd:Bool),DataW.TrodAll enc P W' b sp hd f.resultTypes.toList (v.resultList f.resultTypes.size) (s.fn H (ds++gs)).results [])
  (hargs:∀sp:Nat->Bool,(∀p∈before,sp p.block=true)->DataW.TrodAll enc P W' 0 sp true f.params.toList args.toList (s.fn H (ds++gs)).args pa)
  (hvars:∀sp:Nat->Bool,(∀p∈before,sp p.block=true)->DataW.TrodVars enc P W' sp s.vars (s.fn H (ds++gs)).vars pv)
  (hps:before=pa++pv) (hb:Below W.heap.size W W')
  (hok:∀(j:Nat) (t:TypeId) (r:Value),f.resultTypes[j]? = some t->(v.resultList f.resultTypes.size)[j]? = some r->Value.okWide P W' .any 0 t r) :
  s.post enc P f apart fresh handsOn again W args v W':=by
 have hlt:∀p∈before,p.block<W.heap.size:=λp hp=>hW.lt p hp
 have hold:∀p∈before,(λb=>decide (b<W.heap.size)) p.block=true:=λp hp=>by simpa using hlt p hp
 refine ⟨ds,gs,before,[],pa,pv,hW,hres _ _ _,hargs _ hold,hvars _ hold,World.keptBut_mono (λp hp=>⟨hp,?_⟩) (hb.frame (·∈before)),λ_=>?_⟩
 ·rw [hps,Z52] at hp
  exact Or.inr hp
 ·obtain ⟨_,_,_,_,_,hz,hn⟩:=hW
  refine ⟨hok,_,_,([]++pa)++pv,⟨[]++pa,pv,trodAll_append (hargs _ (λ_ _=>rfl)) (hres _ _ _),hvars _ (λ_ _=>rfl),rfl,?_,?_⟩,?_⟩
  ·intro b off hp
   have hin:MemPlace.cell b off∈before:=by rw [hps];simpa using hp
   rw [hb.frozen (hlt _ hin)]
   exact hz b off hin
  ·intro ha
   have:=hn ha
   rw [hps] at this
   simpa using this
  ·intro p hp _
   rw [hps]
   simpa using hp
theorem Qxf {g:Nat} {f:Func} {c:Code} (hf:FunOK P g f c) {s:ChangeSpec} {n:Nat} {qs:List AT} {tb:TypeId} (hl:laidOutB P=true) (hr:f.params.toList.all (λt=>P.readableRec t&&decide (t<P.types.size))=true)
  (hq:Qbv P n f.params.toList=some qs) (hres:f.resultTypes = #[tb]) (htb:P.underlying tb=some .bool) (hv:s.vars=[])
  (hs:∀ds:List (DataW H),ds.length=f.params.toList.length->s.fn H ds={results:=[.lit (.bool true)],args:=ds})
  (plain:∀vs,okAL qs vs->∃p r,SoundC P g vs p/\p.m=some r/\p.enc r=.bool true)
  (W:World) (base:Nat) (args:Array Value) (ds gs:List (DataW H)) (before:List MemPlace)
  (hval:∀(j:Nat) t v,f.params[j]? = some t->args[j]? = some v->Value.okWide P W .any base t v)
  (hW:DataW.Whole enc P f.params.toList s.vars false W args.toList ds gs before) :
  Calls P g args W λe W'=>∃v,e=.returned v/\s.post enc P f false true false false W args v W':=by
 have hW':=hW
 have hlt:∀p∈before,p.block<W.heap.size:=λp hp=>hW.lt p hp
 obtain ⟨p,q,hA,hV,rfl,hfz,hnd⟩:=hW
 have hA:DataW.TrodAll enc P W 0 (λ_=>true) true f.params.toList args.toList ds p:=hA
 rw [hv] at hV
 obtain ⟨rfl,rfl⟩:=trodVars_none hV
 obtain ⟨vs,h1,h2,h3⟩:=Qmy hq hA λj t v a b=>hval j t v (by simpa using a) (by simpa using b)
 obtain ⟨pk,r,hsound,hm,he⟩:=plain vs h2
 have hcall:=hsound noO W args r hm (by simpa using h1) (λj hj=>by
  have h4:=h3 j hj
  have:args.getD j Go.undef=args.toList.getD j Go.undef:=by
   have hj':j<args.size:=by rw [<-Z30,h1];exact hj
   simp [Array.getD,List.getD,hj']
  rwa [this]) (λb h=>h.elim)
 unfold CallR at hcall
 rw [hf.enters] at hcall
 have hlen:∀{ts:List TypeId} {vs:List Value} {ds:List (DataW H)} {ps:List MemPlace},DataW.TrodAll enc P W 0 (λ_=>true) true ts vs ds ps->ds.length=ts.length:=by
  intro ts
  induction ts with
  |nil=>intro vs ds ps h;obtain ⟨_,rfl,_⟩:=trodAll_nil h;rfl
  |cons t ts ih=>intro vs ds ps h;obtain ⟨_,_,_,_,_,_,_,rfl,_,_,h2⟩:=trodAll_cons h;simp [ih h2]
 refine hcall.mono λe W' h=>?_
 cases e with
 |
  returned cv=>
  obtain ⟨hg,hrep⟩:=h
  rw [he] at hrep
  obtain rfl:cv=.bool true:=by
   cases hrep
   ·rfl
   ·rename_i hf _;cases hf
  have hb:Below W.heap.size W W':=⟨hg.os,hg.tape,hg.output,hg.size,λk hk=>hg.block k hk (by simp)⟩
  have hfn:=hs ds (hlen hA)
  refine ⟨_,rfl,Qtt (pa:=p) (pv:=[]) hW' ?_ ?_ ?_ rfl hb ?_⟩
  ·intro b sp hd
   rw [Z39,hfn,hres]
   exact trodAll_cons_mk (shut_bool htb _) trodAll_mk0
  ·intro sp hsp
   rw [Z39,hfn]
   exact Qy1 hl hr hb hA (λx hx=>hlt x (by simp [hx])) (λx hx=>hsp x (by simp [hx]))
  ·intro sp hsp
   rw [Z39,hfn,hv]
   rfl
  ·exact ok_one hres rfl (okWide_bool_mk htb _)
 |_=>exact h.elim
end
end
end Go.Proofs.YtihfdjkjpncjfaaGreatDoor.A
end
section
namespace Go.Proofs.YtihfdjkjpncjfaaGreatDoor.A
open Go
theorem own:ownKnob Tryz.prog.godebug=none:=by kernel_rfl
theorem laidOut:laidOutB Tryz.prog=true:=by kernel_rfl
theorem rowed:mapsRowed Tryz.prog=true:=by kernel_rfl
theorem Qql:(Tryz.prog.stops == [])=true:=by kernel_rfl
theorem Qx9:(Tryz.prog.stopKnobs == [])=true:=by kernel_rfl
theorem Qr8:Tryz.prog.stopsHeard=true:=by kernel_rfl
theorem Qqh:Tryz.prog.mayEnter=true:=by kernel_rfl
theorem Qs1:false=Tryz.prog.looks []:=by kernel_rfl
theorem main:Tryz.pinned.checked.prog.mainIs=some (true,("865417fab56b13a282402552e48e6d2f50d2bb4136acd6c04ea7e0746bf992cd":String).toList):=by kernel_rfl
noncomputable def relay (l:J0):Obj->Obj
 |.cells _ t fz=>.cells (l.map λn=>Value.int .u8 n).toArray t fz
 |o=>o
noncomputable def accept:J0:=[128,191,160,191,128,159,144,191,128,143,0,0,0,0,0,0,0,0,0,0,0,0,0,0,0,0,0,0,0,0,0,0]
noncomputable def Qjr (os:Os):World:=
 let w:=World.holding Tryz.prog os ⟨#[],#[],[]⟩
 {w with heap:=(w.heap.modify 3 (relay (Go.Pinned.utf8FirstZ.map Int.ofNat))).modify 4 (relay accept)}
def Runs {σ R:Type} (F:(σ->Option R)->σ->Option R) (x:σ) (r:R):Prop:=
 (∃n,Wb F n x=some r)/\∀n,Wb F n x=none\/Wb F n x=some r
theorem Runs.done {σ R:Type} {F:(σ->Option R)->σ->Option R} {x:σ} {r:R} (h:∀rec,F rec x=some r):Runs F x r:=by
 refine ⟨⟨1,h _⟩,λn=>?_⟩
 cases n with
 |zero=>exact .inl rfl
 |succ n=>exact .inr (h _)
theorem Runs.step {σ R:Type} {F:(σ->Option R)->σ->Option R} {x y:σ} {r:R} (h:∀rec,F rec x=rec y) (hy:Runs F y r):Runs F x r:=by
 obtain ⟨⟨m,hm⟩,ha⟩:=hy
 refine ⟨⟨m+1,by rw [<-hm];exact h _⟩,λn=>?_⟩
 cases n with
 |zero=>exact .inl rfl
 |succ n=>have:=ha n;rw [<-h (Wb F n)] at this;exact this
theorem Runs.lfp {σ R:Type} {F:(σ->Option R)->σ->Option R} {x:σ} {r:R} (h:Runs F x r):A.lfp F x=some r:=by
 obtain ⟨⟨m,hm⟩,ha⟩:=h
 unfold A.lfp
 have hex:∃n,(Wb F n x).isSome:=⟨m,by rw [hm];rfl⟩
 rw [dif_pos hex]
 rcases ha (Classical.choose hex) with h0|h0
 ·have:=Classical.choose_spec hex
  rw [h0] at this;simp at this
 ·exact h0
theorem Qe {n:Int} (h1:-9223372036854775808<=n) (h2:n<9223372036854775808):wr .i64 n=n:=by
 simp only [wr,IntKind.wrap,IntKind.signed,IntKind.bits]
 simp;omega
theorem Qn {n:Int} (h1:0<=n) (h2:n<18446744073709551616):wr .u64 n=n:=by
 simp only [wr,IntKind.wrap,IntKind.signed,IntKind.bits]
 simp;omega
theorem Wv (n:Int):wr .u64 n=n%18446744073709551616:=by
 simp [wr,IntKind.wrap,IntKind.signed,IntKind.bits]
theorem Qiq {n:Int} (h1:0<=n) (h2:n<256):wr .u8 n=n:=by
 simp only [wr,IntKind.wrap,IntKind.signed,IntKind.bits]
 simp;omega
theorem Qx5 {n:Int} (h:(Lit.int .u64 n).wf=true):0<=n/\n<18446744073709551616:=by
 simp [Lit.wf,IntKind.min,IntKind.max,IntKind.signed,IntKind.bits] at h;omega
theorem Qst {n:Int} (h:(Lit.int .u32 n).wf=true):0<=n/\n<4294967296:=by
 simp [Lit.wf,IntKind.min,IntKind.max,IntKind.signed,IntKind.bits] at h;omega
theorem Qwl {n:Int} (h:(Lit.int .u16 n).wf=true):0<=n/\n<65536:=by
 simp [Lit.wf,IntKind.min,IntKind.max,IntKind.signed,IntKind.bits] at h;omega
theorem Qcy {n:Int} (h:(Lit.int .u8 n).wf=true):0<=n/\n<256:=by
 simp [Lit.wf,IntKind.min,IntKind.max,IntKind.signed,IntKind.bits] at h;omega
theorem Y6 {a b:Int} (h:0<=a):Int.tdiv a b=a/b:=Int.tdiv_eq_ediv_of_nonneg h
theorem Jh {a b:Int} (h:0<=a):Int.tmod a b=a%b:=Int.tmod_eq_emod_of_nonneg h
def toB (B n:Nat):J0:=if h:2<=B/\0<n then ((n%B:Nat):Int)::toB B (n/B) else []
termination_by n
decreasing_by exact Z110 h.2 h.1
def valB (B:Nat):J0->Int
 |[]=>0
 |x::l=>x+B*valB B l
theorem toB_zero (B:Nat):toB B 0=[]:=by unfold toB;rw [dif_neg];omega
theorem W7 {B n:Nat} (hB:2<=B) (hn:0<n):toB B n=((n%B:Nat):Int)::toB B (n/B):=by
 rw [toB];rw [dif_pos ⟨hB,hn⟩]
def inB (B:Nat) (l:J0):Prop:=∀x∈l,0<=x/\x<B
theorem Ww {B:Nat} {x:Int} {l:J0}:inB B (x::l)↔(0<=x/\x<B)/\inB B l:=by simp [inB]
theorem inB_nil (B:Nat):inB B []:=by simp [inB]
theorem Qta {B:Nat} {l l':J0}:inB B (l++l')↔inB B l/\inB B l':=by
 simp only [inB,Z52]
 exact ⟨λh=>⟨λx hx=>h x (.inl hx),λx hx=>h x (.inr hx)⟩,λh x hx=>hx.elim (h.1 x) (h.2 x)⟩
theorem Q4 {B:Nat} (hB:2<=B) (n:Nat):inB B (toB B n):=by
 induction n using Nat.strongRecOn with
 |
  _ n ih=>
  rcases Z12 n with rfl|hn
  ·rw [toB_zero];exact inB_nil B
  ·rw [W7 hB hn,Ww]
   refine ⟨⟨by omega,?_⟩,ih _ (Z110 hn hB)⟩
   exact_mod_cast Z74 n (by omega)
theorem Wn {B:Nat} (hB:2<=B) (n:Nat):valB B (toB B n)=n:=by
 induction n using Nat.strongRecOn with
 |
  _ n ih=>
  rcases Z12 n with rfl|hn
  ·rw [toB_zero];rfl
  ·rw [W7 hB hn,valB,ih _ (Z110 hn hB)]
   exact_mod_cast Nat.mod_add_div n B
theorem Wc {B:Nat}:∀{l:J0},inB B l->0<=valB B l
 |[],_=>Z109 0
 |
  x::l,h=>by
  rw [Ww] at h
  have:=Wc h.2
  have:=Z43 (Z55 B) this
  unfold valB;omega
theorem W2 {B:Nat} (hB:2<=B):∀{l:J0},inB B l->valB B l<(B^l.length:Nat)
 |[],_=>by simp [valB]
 |
  x::l,h=>by
  rw [Ww] at h
  have h1:=W2 hB h.2
  have h2:(B:Int)*(valB B l+1)<=B*(B^l.length:Nat):=Int.mul_le_mul_of_nonneg_left (by omega) (by omega)
  have h3:(B:Int)*(valB B l+1)=B*valB B l+B:=by rw [Int.mul_add,Int.mul_one]
  have h4:((B^(x::l).length:Nat):Int)=B*(B^l.length:Nat):=by
   rw [Z10,Z45,Z25];exact_mod_cast rfl
  rw [h4];unfold valB;omega
theorem Qej (B:Nat):∀(l l':J0),valB B (l++l')=valB B l+(B^l.length:Nat)*valB B l'
 |[],l'=>by simp [valB]
 |
  x::l,l'=>by
  rw [List.cons_append,valB,valB,Qej B l l',Z10,Z45,Z25 (B^l.length) B,Z13,Int.mul_add,Int.mul_assoc,Int.add_assoc]
theorem Qgu {B:Nat} (hB:2<=B):∀{l:J0},inB B l->(∀h:l≠[],l.getLast h≠0)->l=toB B (valB B l).toNat
 |[],_,_=>by simp [valB,toB_zero]
 |
  x::l,h,hl=>by
  rw [Ww] at h
  have hn:=Wc h.2
  have ih:=Qgu hB h.2 λhne=>by have:=hl (by simp);rwa [List.getLast_cons hne] at this
  have hpos:0<(valB B (x::l)).toNat:=by
   have hm:=Z43 (Z55 B) hn
   unfold valB
   by_cases hx:x=0
   ·have hne:l≠[]:=λe=>by subst e;exact hl (by simp) (by simpa using hx)
    have:0<valB B l:=by
     rcases Int.lt_or_eq_of_le hn with h0|h0
     ·exact h0
     ·rw [<-h0] at ih;simp [toB_zero] at ih;exact absurd ih hne
    have:=Int.mul_pos (show (0:Int)<B by omega) this
    omega
   ·omega
  have e1:(valB B (x::l)).toNat=x.toNat+B*(valB B l).toNat:=by
   have hv:valB B (x::l)=x+B*valB B l:=rfl
   rw [hv]
   have hm:=Z43 (Z55 B) hn
   have:((B*(valB B l).toNat:Nat):Int)=B*valB B l:=by rw [Z13,Int.toNat_of_nonneg hn]
   omega
  have hx:x.toNat<B:=by omega
  rw [W7 hB hpos,e1,Z93,Z106 hx,Nat.add_mul_div_left _ _ (by omega),Nat.div_eq_of_lt hx,Z17,<-ih,Int.toNat_of_nonneg h.1.1]
theorem Qhn {B:Nat} (hB:2<=B) (n:Nat):∀h:toB B n≠[],(toB B n).getLast h≠0:=by
 induction n using Nat.strongRecOn with
 |
  _ n ih=>
  intro h
  rcases Z12 n with rfl|hn
  ·exact absurd (toB_zero B) h
  ·have e:=W7 hB hn
   simp only [e]
   by_cases hq:toB B (n/B)=[]
   ·simp only [hq,List.getLast_singleton]
    have h0:n/B=0:=by
     rcases Z12 (n/B) with h0|h0
     ·exact h0
     ·rw [W7 hB h0] at hq;simp at hq
    have:n<B:=by
     rcases Z44 n B with h1|h1
     ·exact h1
     ·have:=Nat.div_pos h1 (by omega);omega
    rw [Z106 this];omega
   ·rw [List.getLast_cons hq]
    exact ih _ (Z110 hn hB) hq
theorem toB_nil {B n:Nat} (hB:2<=B):toB B n=[]↔n=0:=by
 constructor
 ·intro h
  rcases Z12 n with h0|h0
  ·exact h0
  ·rw [W7 hB h0] at h;simp at h
 ·rintro rfl;exact toB_zero B
theorem Qqy {B:Nat} (hB:2<=B) (i:Nat):∀n,(toB B n).getD i 0=((n/B^i%B:Nat):Int):=by
 induction i with
 |
  zero=>
  intro n
  rcases Z12 n with rfl|hn
  ·simp [toB_zero]
  ·rw [W7 hB hn];simp
 |
  succ i ih=>
  intro n
  rcases Z12 n with rfl|hn
  ·simp [toB_zero]
  ·rw [W7 hB hn,List.getD_cons_succ,ih,Nat.div_div_eq_div_mul,Z45,Z25 B]
theorem Qa4 {B n:Nat} (hB:2<=B):n<B^(toB B n).length:=by
 have:=W2 hB (Q4 hB n)
 rw [Wn hB] at this
 exact_mod_cast this
theorem Yh {B:Nat} (hB:2<=B):∀{k n:Nat},n<B^k->(toB B n).length<=k
 |0,n,h=>by
         have:n=0:=by simpa using h
         subst this;simp [toB_zero]
 |
  k+1,n,h=>by
  rcases Z12 n with rfl|hn
  ·simp [toB_zero]
  ·rw [W7 hB hn,Z10]
   have:n/B<B^k:=Z56 (by rw [Z45,Z25] at h;exact h)
   have:=Yh hB this
   omega
theorem Qw5 {B n:Nat} (hB:2<=B) (hn:0<n):B^((toB B n).length-1)<=n:=by
 rcases Z44 n (B^((toB B n).length-1)) with h|h
 ·have h1:=Yh hB h
  have h2:toB B n≠[]:=λe=>by rw [toB_nil hB] at e;omega
  have:=List.length_pos_iff.2 h2
  omega
 ·exact h
theorem bif_t {α:Type} {p:Prop} [Decidable p] {a b:α} (h:p):(bif decide p then a else b)=a:=by simp [h]
theorem Qb {α:Type} {p:Prop} [Decidable p] {a b:α} (h:¬p):(bif decide p then a else b)=b:=by simp [h]
abbrev Qaa {α:Type} (l:List α):Prop:=l.length<=1000000000
abbrev dg (n:Nat):J0:=toB 10000 n
theorem b4:2<=10000:=by decide
theorem J5 {B:Nat} {l:J0} {n:Nat} (h:n<l.length):valB B (l.take (n+1))=valB B (l.take n)+(B^n:Nat)*l[n]:=by
 rw [List.take_succ_eq_append_getElem h,Qej,Z8,Z53 (by omega)]
 simp [valB]
theorem W1 {l:J0} {n:Nat} (h:n<l.length):l.getD n 0=l[n]:=by simp [List.getD,h]
theorem Qpk {B:Nat} (hB:2<=B) {l:J0} (hl:inB B l) (hs:Qaa l):z136.F l=some (toB B (valB B l).toNat):=by
 have key:∀n:Nat,n<=l.length->∃m:Nat,m<=n/\Runs (λrec x=>z136.l0P l rec some x) (n:Int) (m:Int)/\valB B (l.take m)=valB B (l.take n)/\(m=0\/l.getD (m-1) 0≠0):=by
  intro n
  induction n with
  |zero=>exact λ_=>⟨0,Z4 0,.done λrec=>by simp [z136.l0P],rfl,.inl rfl⟩
  |
   succ n ih=>
   intro hn
   have hs':l.length<=1000000000:=hs
   have e:wr .i64 (((n+1:Nat):Int)-1)=(n:Int):=by rw [Qe]<;>omega
   have e0:((n+1:Nat):Int)>0:=by omega
   have e1:(0:Int)<=(n:Int)/\(n:Int)<(l.length:Int):=by omega
   by_cases hz:l.getD n 0=0
   ·obtain ⟨m,h1,h2,h3,h4⟩:=ih (by omega)
    refine ⟨m,by omega,.step (λrec=>?_) h2,?_,h4⟩
    ·unfold z136.l0P
     rw [bif_t e0,e,if_pos e1,Zi,bif_t hz]
    ·rw [h3,J5 (show n<l.length by omega),<-W1,hz];simp
   ·refine ⟨n+1,Z4 _,.done λrec=>?_,rfl,.inr (by simpa using hz)⟩
    unfold z136.l0P
    rw [bif_t e0,e,if_pos e1,Zi,Qb hz]
 obtain ⟨m,h1,h2,h3,h4⟩:=key l.length (Z4 _)
 unfold z136.F z136.l0
 rw [h2.lfp]
 simp only [Zb]
 rw [if_pos (by omega),Zi]
 rw [Z96] at h3
 rw [<-h3]
 congr 1
 apply Qgu hB (λx hx=>hl x (Z65 hx))
 intro hne
 rcases h4 with rfl|h4
 ·simp at hne
 ·rw [List.getLast_eq_getElem]
  have hm:0<m:=by
   rcases Z12 m with h0|h0
   ·subst h0;simp at hne
   ·exact h0
  rw [W1 (by omega)] at h4
  simp only [Z8,List.getElem_take]
  have:min m l.length-1=m-1:=by omega
  simp only [this]
  exact h4
theorem Qy4 {l:J0} (hl:inB 10000 l) (hs:Qaa l):z136.F l=some (dg (valB 10000 l).toNat):=Qpk b4 hl hs
theorem Qr1 {l:J0} {i:Nat}:z135.F l (i:Int)=some (l.getD i 0):=by
 unfold z135.F
 by_cases h:(i:Int)>=(l.length:Int)
 ·rw [bif_t h]
  have:l.getD i 0=0:=by simp [List.getD,Z15 (show l.length<=i by omega)]
  rw [this]
 ·rw [Qb h,if_pos (by omega),Zi]
theorem Qpn {n:Nat} (hn:n<9223372036854775808):z10.F (n:Int)=some (dg n):=by
 have key:∀(n:Nat),n<9223372036854775808->∀s:J0,Qaa s->(s.length+(dg n).length<=1000000000)->Runs (λrec x=>z10.l0P rec some x) ((n:Int),s) ((0:Int),s++dg n):=by
  intro n
  induction n using Nat.strongRecOn with
  |
   _ n ih=>
   intro hn s hs hl
   rcases Z12 n with rfl|h0
   ·refine .done λrec=>?_
    simp [z10.l0P,toB_zero]
   ·have e:dg n=((n%10000:Nat):Int)::dg (n/10000):=W7 b4 h0
    have hd:n/10000<n:=Z110 h0 (by decide)
    rw [e] at hl ⊢
    have h2:=ih (n/10000) hd (by omega) (s++[((n%10000:Nat):Int)]) (by simp at *;omega) (by simp at *;omega)
    rw [Z90,List.singleton_append] at h2
    refine .step (λrec=>?_) h2
    unfold z10.l0P
    simp only
    have e1:Int.tmod (n:Int) 10000=((n%10000:Nat):Int):=by rw [Jh (by omega)];rfl
    have e2:wr .i64 (Int.tdiv (n:Int) 10000)=((n/10000:Nat):Int):=by rw [Y6 (by omega),Qe (by omega) (by omega)];rfl
    rw [bif_t (by omega),if_pos (by simp at *;omega),e1,e2]
 unfold z10.F z10.l0
 have hl:(dg n).length<=5:=Yh b4 (by omega)
 rw [(key n hn [] (by simp) (by simp;omega)).lfp]
 simp
def ch (d:Int):UInt8:=UInt8.ofNat (48+d.toNat)
def txt (n:Nat):J1:=if n=0 then [48] else (toB 10 n).reverse.map ch
theorem b10:2<=10:=by decide
theorem Qeg {d:Int} (h0:0<=d) (h:d<10):(ch d).toNat=48+d.toNat:=by
 unfold ch;rw [UInt8.toNat_ofNat'];omega
def dig4 (d:Int):J0:=[d%10,d/10%10,d/100%10,d/1000%10]
theorem Qvk {d:Int} (h0:0<=d):inB 10 (dig4 d):=by
 intro x hx;simp [dig4] at hx;rcases hx with rfl|rfl|rfl|rfl<;>omega
theorem Qsu {d:Int} (h0:0<=d) (h:d<10000):valB 10 (dig4 d)=d:=by simp [dig4,valB];omega
theorem Qm1:∀{l:J0},inB 10000 l->inB 10 (l.flatMap dig4)
 |[],_=>inB_nil 10
 |x::l,h=>by rw [Ww] at h;rw [Z88,Qta];exact ⟨Qvk h.1.1,Qm1 h.2⟩
theorem Qmg:∀{l:J0},inB 10000 l->valB 10 (l.flatMap dig4)=valB 10000 l
 |[],_=>rfl
 |
  x::l,h=>by
  rw [Ww] at h
  rw [Z88,Qej,Qsu h.1.1 h.1.2,Qmg h.2]
  simp [dig4,valB]
theorem Qi5:∀(l:J0),(l.flatMap dig4).length=4*l.length
 |[]=>rfl
 |x::l=>by rw [Z88,Z9,Qi5 l];simp [dig4];omega
theorem Qvo (s:J1) (hs:Qaa s) (d:Int) (h0:0<=d) (hd:d<10000):∃d',z5.l2 (s,d,(0:Int))=some (((dig4 d).reverse.map ch)++s,d',4):=by
 have hs':s.length<=1000000000:=hs
 have one:∀(s:J1) (d:Int) (k:Nat),s.length<=1000000004->0<=d->d<10000->k<4->∀rec,z5.l2P rec some (s,d,(k:Int))=rec (ch (d%10)::s,d/10,((k+1:Nat):Int)):=by
  intro s d k hs h0 hd hk rec
  unfold z5.l2P
  simp only
  rw [bif_t (by omega),if_pos (by simp;omega),Jh h0,Y6 h0,Qe (n:=48+d%10) (by omega) (by omega),Qiq (by omega) (by omega),Qe (n:=d/10) (by omega) (by omega),Qe (by omega) (by omega)]
  have:(48+d%10).toNat=48+(d%10).toNat:=by omega
  simp [ch,this]
 refine ⟨d/10/10/10/10,?_⟩
 unfold z5.l2
 refine Runs.lfp (.step (one s d 0 (by omega) h0 hd (by decide)) (.step (one _ (d/10) 1 (by simp;omega) (by omega) (by omega) (by decide)) (.step (one _ (d/10/10) 2 (by simp;omega) (by omega) (by omega) (by decide)) (.step (one _ (d/10/10/10) 3 (by simp;omega) (by omega) (by omega) (by decide)) (.done λrec=>?_)))))
 unfold z5.l2P
 simp only
 rw [Qb (by omega)]
 have e1:d/10/10=d/100:=by omega
 have e2:d/10/10/10=d/1000:=by omega
 simp [dig4,e1,show d/100/10=d/1000 by omega]
theorem Qwg {l:J0} (hl:inB 10000 l) (hs:4*l.length<=1000000000):z5.l0 l ([],(0:Int))=some ((l.flatMap dig4).reverse.map ch,(l.length:Int)):=by
 have key:∀(k:Nat),k<=l.length->Runs (λrec x=>z5.l0P l rec some x) (((l.take (l.length-k)).flatMap dig4).reverse.map ch,((l.length-k:Nat):Int)) ((l.flatMap dig4).reverse.map ch,(l.length:Int)):=by
  intro k
  induction k with
  |
   zero=>
   intro _
   refine .done λrec=>?_
   unfold z5.l0P
   simp
  |
   succ k ih=>
   intro hk
   have hi:l.length-(k+1)<l.length:=by omega
   have hm:=hl l[l.length-(k+1)] (Z16 hi)
   obtain ⟨d',h2⟩:=Qvo (((l.take (l.length-(k+1))).flatMap dig4).reverse.map ch) (by
    show List.length _<=_;rw [Z18,List.length_reverse,Qi5,Z8];omega) _ hm.1 hm.2
   refine .step (λrec=>?_) (ih (by omega))
   unfold z5.l0P
   simp only
   rw [bif_t (by omega),if_pos (by omega),Zi,W1 hi,h2]
   simp only [Zb]
   rw [Qe (by omega) (by omega)]
   have e:l.take (l.length-k)=l.take (l.length-(k+1))++[l[l.length-(k+1)]]:=by
    rw [<-List.take_succ_eq_append_getElem hi];congr 1;omega
   have e2:((l.length-(k+1):Nat):Int)+1=((l.length-k:Nat):Int):=by omega
   rw [e,e2,List.flatMap_append]
   simp only [Z88,List.flatMap_nil,Z39,List.reverse_append,Z68]
 have:=key l.length (Z4 _)
 simp only [Nat.sub_self,List.take_zero,List.flatMap_nil,List.reverse_nil,List.map_nil] at this
 exact this.lfp
theorem Qkw {d:Int} (h0:0<=d) (h:d<10):((ch d).toNat:Int)=48↔d=0:=by rw [Qeg h0 h];omega
theorem Qmd {n:Nat} (hs:4*(dg n).length<=1000000000):z5.F (dg n)=some (txt n):=by
 unfold z5.F txt
 by_cases hn:n=0
 ·subst hn;simp [dg,toB_zero]
 ·have hne:dg n≠[]:=λe=>hn ((toB_nil b4).1 e)
  have hlen:=List.length_pos_iff.2 hne
  rw [Qb (by omega),if_neg hn,Qwg (Q4 b4 n) hs]
  simp only [Zb]
  generalize hfl:(dg n).flatMap dig4=fl
  have hin:inB 10 fl:=by rw [<-hfl];exact Qm1 (Q4 b4 n)
  have hv:valB 10 fl=n:=by rw [<-hfl,Qmg (Q4 b4 n),Wn b4]
  have hl:fl.length<=1000000000:=by rw [<-hfl,Qi5];exact hs
  have key:∀k:Nat,k<=fl.length->valB 10 (fl.take k)=n->∃m:Nat,m<=k/\Runs (λrec x=>z5.l4P (fl.reverse.map ch) rec some x) ((fl.length-k:Nat):Int) ((fl.length-m:Nat):Int)/\valB 10 (fl.take m)=n/\(m=0\/fl.getD (m-1) 0≠0):=by
   intro k
   induction k with
   |zero=>intro _ h;simp [valB] at h;omega
   |
    succ k ih=>
    intro hk h
    have hi:fl.length-(k+1)<(fl.reverse.map ch).length:=by simp;omega
    have hk':k<fl.length:=by omega
    have hm:=hin fl[k] (Z16 hk')
    have eg:(fl.reverse.map ch).getD (fl.length-(k+1)) 0=ch fl[k]:=by
     have e0:fl.length-1-(fl.length-(k+1))=k:=by omega
     simp only [List.getD,Z1 hi,Z51,Z20,List.getElem_reverse,e0]
    by_cases hz:fl[k]=0
    ·obtain ⟨m,h1,h2,h3,h4⟩:=ih (by omega) (by rw [J5 hk',hz] at h;simpa using h)
     refine ⟨m,by omega,.step (λrec=>?_) h2,h3,h4⟩
     unfold z5.l4P
     rw [if_pos (by simp;omega),Zi,eg,bif_t ((Qkw hm.1 hm.2).2 hz),Qe (by omega) (by omega)]
     congr 1;omega
    ·refine ⟨k+1,Z4 _,.done λrec=>?_,h,.inr (by rw [Nat.add_sub_cancel,W1 hk'];exact hz)⟩
     unfold z5.l4P
     rw [if_pos (by simp;omega),Zi,eg,Qb (λe=>hz ((Qkw hm.1 hm.2).1 e))]
  obtain ⟨m,h1,h2,h3,h4⟩:=key fl.length (Z4 _) (by rw [Z96];exact hv)
  rw [Nat.sub_self] at h2
  unfold z5.l4
  rw [show (0:Int)=((0:Nat):Int) from rfl,h2.lfp]
  simp only [Zb]
  rw [if_pos (by rw [Z18,List.length_reverse];omega),Zi]
  have hm:m≠0:=by rintro rfl;simp [valB] at h3;omega
  have e:fl.take m=toB 10 n:=by
   have:=Qgu b10 (l:=fl.take m) (λx hx=>hin x (Z65 hx)) λhne=>by
    rcases h4 with h4|h4
    ·exact absurd h4 hm
    ·rw [List.getLast_eq_getElem]
     rw [W1 (by omega)] at h4
     simp only [Z8,List.getElem_take]
     have:min m fl.length-1=m-1:=by omega
     simp only [this];exact h4
   rwa [h3,Zi] at this
  rw [<-e,<-List.map_drop,List.reverse_take]
theorem Ym {B:Nat}:∀{l:J0} {j:Nat} {x:Int},j<l.length->valB B (l.set j x)=valB B l+(x-l.getD j 0)*(B^j:Nat)
 |y::l,0,x,_=>by simp [valB];omega
 |
  y::l,j+1,x,h=>by
  have:=Ym (B:=B) (l:=l) (j:=j) (x:=x) (by simpa using h)
  rw [List.set_cons_succ,valB,valB,this,List.getD_cons_succ,Z45,Z25 (B^j) B,Z13,Int.mul_add,Int.add_assoc]
  congr 2
  rw [Int.mul_left_comm]
theorem Ya {B:Nat} {l:J0} {j:Nat} {x:Int} (h:inB B l) (hx:0<=x/\x<B):inB B (l.set j x):=λy hy=>by
 rcases List.mem_or_eq_of_mem_set hy with h1|rfl
 ·exact h y h1
 ·exact hx
theorem Wf {B:Nat}:∀(l:J0) (k:Nat),valB B (l.drop k)=l.getD k 0+B*valB B (l.drop (k+1))
 |[],k=>by simp [valB]
 |x::l,0=>by simp [valB]
 |x::l,k+1=>by rw [List.drop_succ_cons,List.drop_succ_cons,List.getD_cons_succ];exact Wf l k
theorem Q5 {B:Nat} (hB:0<B) {l:J0} (h:inB B l) (k:Nat):0<=l.getD k 0/\l.getD k 0<B:=by
 by_cases hk:k<l.length
 ·rw [W1 hk];exact h _ (Z16 hk)
 ·simp [List.getD,Z15 (show l.length<=k by omega)];omega
theorem Y7 {B:Nat} {l:J0} (h:inB B l) (k:Nat):inB B (l.drop k):=λx hx=>h x (Z98 hx)
theorem Wh {B:Nat} {l:J0} (h:inB B l) (k:Nat):inB B (l.take k):=λx hx=>h x (Z65 hx)
theorem Qts {a b s:J0} {i k:Nat} {c:Int} (ha:inB 10000 a) (hb:inB 10000 b) (hs:inB 10000 s) (hi:i<a.length) (hk:i+k<s.length) (hsl:s.length<=4000000000) (hc:0<=c/\c<10000) (hgo:k<b.length\/0<c)
  (rec:Int×Int×J0->Option (Int×Int×J0)) :
  z137.l2P a b (i:Int) rec some (c,(k:Int),s) =
   rec ((s.getD (i+k) 0+a.getD i 0*b.getD k 0+c)/10000,((k+1:Nat):Int),s.set (i+k) ((s.getD (i+k) 0+a.getD i 0*b.getD k 0+c)%10000)):=by
 have h1:=Q5 (by decide) ha i
 have h2:=Q5 (by decide) hb k
 have h3:=Q5 (by decide) hs (i+k)
 have h4:0<=a.getD i 0*b.getD k 0:=Z43 h1.1 h2.1
 have h5:a.getD i 0*b.getD k 0<=9999*9999:=Z101 (by omega) (by omega) h2.1 (by decide)
 have e1:wr .i64 ((i:Int)+k)=((i+k:Nat):Int):=by rw [Qe (by omega) (by omega)];omega
 have e2:wr .i64 (a.getD i 0*b.getD k 0)=a.getD i 0*b.getD k 0:=Qe (by omega) (by omega)
 have e3:wr .i64 (s.getD (i+k) 0+a.getD i 0*b.getD k 0)=s.getD (i+k) 0+a.getD i 0*b.getD k 0:=Qe (by omega) (by omega)
 have e4:wr .i64 (s.getD (i+k) 0+a.getD i 0*b.getD k 0+c)=s.getD (i+k) 0+a.getD i 0*b.getD k 0+c:=Qe (by omega) (by omega)
 have e5:wr .i64 ((k:Int)+1)=((k+1:Nat):Int):=by rw [Qe (by omega) (by omega)];omega
 unfold z137.l2P
 simp only [Qr1,Zb,e1,Zi,e2,e3,e4,e5]
 rw [Y6 (by omega),Jh (by omega),Qe (n:=(_:Int)/10000) (by omega) (by omega)]
 have c1:(0:Int)<=((i+k:Nat):Int)/\((i+k:Nat):Int)<(s.length:Int):=by omega
 have c2:(0:Int)<=(i:Int)/\(i:Int)<(a.length:Int):=by omega
 simp only [if_pos c1,if_pos hk,if_pos c2]
 by_cases hkb:(k:Int)<(b.length:Int)
 ·rw [bif_t hkb]
 ·rw [Qb hkb,bif_t (show c>0 by omega)]
theorem Qm0 {a b:J0} {i:Nat} {T:Int} (ha:inB 10000 a) (hb:inB 10000 b) (hi:i<a.length) (hT:T<(10000^(i+1+b.length):Nat)) :
  ∀
   (f k:Nat) (c:Int) (s:J0),inB 10000 s->i+1+b.length<s.length->s.length<=4000000000->0<=c/\c<10000->b.length+2<=k+f ->
   valB 10000 s+(c+a.getD i 0*valB 10000 (b.drop k))*(10000^(i+k):Nat)=T ->
   ∃k' s',Runs (λrec x=>z137.l2P a b (i:Int) rec some x) (c,(k:Int),s) ((0:Int),k',s')/\inB 10000 s'/\s'.length=s.length/\valB 10000 s'=T
 |
  f,k,c,s,hs,hl,hl',hc,hf,hv=>by
  have hbd:=Wc (Y7 hb k)
  have h1:=Q5 (B:=10000) (by decide) ha i
  have hsv:=Wc hs
  have hab:=Z43 h1.1 hbd
  by_cases hgo:k<b.length\/0<c
  ·have hk:k<=b.length:=by
    rcases hgo with h|h
    ·omega
    ·rcases Z44 b.length k with hlt|hge
     ·exfalso
      have h2:(10000^(i+1+b.length):Nat)<=10000^(i+k):=Z33 (by decide) (by omega)
      have h3:(1:Int)*(10000^(i+k):Nat)<=(c+a.getD i 0*valB 10000 (b.drop k))*(10000^(i+k):Nat):=Z60 (by omega) (Z55 _)
      have h4:((10000^(i+1+b.length):Nat):Int)<=(10000^(i+k):Nat):=by exact_mod_cast h2
      omega
     ·exact hge
   match f,hf with
   |0,hf=>omega
   |
    f+1,hf=>
    have h2:=Q5 (B:=10000) (by decide) hb k
    have h3:=Q5 (B:=10000) (by decide) hs (i+k)
    have h4:0<=a.getD i 0*b.getD k 0:=Z43 h1.1 h2.1
    have h5:a.getD i 0*b.getD k 0<=9999*9999:=Z101 (by omega) (by omega) h2.1 (by decide)
    obtain ⟨k',s',r1,r2,r3,r4⟩:=Qm0 ha hb hi hT f (k+1) ((s.getD (i+k) 0+a.getD i 0*b.getD k 0+c)/10000) (s.set (i+k) ((s.getD (i+k) 0+a.getD i 0*b.getD k 0+c)%10000))
     (Ya hs (by omega)) (by rw [Z26];exact hl) (by rw [Z26];exact hl') (by omega) (by omega) (by
      rw [Ym (by omega),<-hv,Wf b k]
      generalize hx:s.getD (i+k) 0+a.getD i 0*b.getD k 0+c=x
      have e1:(10000^(i+(k+1)):Nat)=10000*10000^(i+k):=by rw [<-Z32,Z45,Z25]
      rw [e1,Z13]
      have e2:x=10000*(x/10000)+x%10000:=(Z78 x 10000).symm
      generalize x/10000=q at *
      generalize x%10000=m at *
      subst e2
      generalize ((10000^(i+k):Nat):Int)=p
      generalize valB 10000 (b.drop (k+1))=w
      generalize a.getD i 0=u at *
      generalize b.getD k 0=v at *
      generalize s.getD (i+k) 0=z at *
      have hc':c=10000*q+m-z-u*v:=by omega
      subst hc'
      grind)
    refine ⟨k',s',.step (λrec=>Qts ha hb hs hi (by omega) hl' hc hgo rec) r1,r2,by rw [r3,Z26],r4⟩
  ·have hc0:c=0:=by omega
   have hkb:b.length<=k:=by omega
   subst hc0
   refine ⟨k,s,.done λrec=>?_,hs,rfl,?_⟩
   ·unfold z137.l2P
    simp only
    rw [Qb (by omega),Qb (by omega)]
   ·rw [Z21 hkb] at hv
    simpa [valB] using hv
theorem Qo2 {a b:J0} (ha:inB 10000 a) (hb:inB 10000 b) (hal:a.length+b.length<=3000000000) :
  ∀
   (f i:Nat) (s:J0),i+f=a.length->inB 10000 s->s.length=a.length+b.length+1->valB 10000 s=valB 10000 (a.take i)*valB 10000 b ->
   ∃s',Runs (λrec x=>z137.l0P a b rec some x) ((i:Int),s) ((a.length:Int),s')/\inB 10000 s'/\s'.length=s.length/\valB 10000 s'=valB 10000 a*valB 10000 b
 |
  0,i,s,hf,hs,hl,hv=>by
  have:i=a.length:=by omega
  subst this
  refine ⟨s,.done λrec=>?_,hs,rfl,by rwa [Z96] at hv⟩
  unfold z137.l0P
  simp
 |
  f+1,i,s,hf,hs,hl,hv=>by
  have hi:i<a.length:=by omega
  have hT:valB 10000 (a.take (i+1))*valB 10000 b<(10000^(i+1+b.length):Nat):=by
   have h1:=W2 b4 (Wh ha (i+1))
   have h2:=W2 b4 hb
   have h3:=Wc (Wh ha (i+1))
   have h4:=Wc hb
   rw [Z8,Z53 (by omega)] at h1
   rw [Z97,Z13]
   rcases Int.lt_or_eq_of_le h4 with h0|h0
   ·exact Int.mul_lt_mul h1 (Int.le_of_lt h2) h0 (by omega)
   ·rw [<-h0,Int.mul_zero];exact Int.mul_pos (by omega) (by omega)
  obtain ⟨k',s',r1,r2,r3,r4⟩:=Qm0 ha hb hi hT (b.length+2) 0 0 s hs (by omega) (by omega) (by omega) (by omega) (by
   rw [hv,J5 hi,Z36,Int.zero_add,Z72,W1 hi];grind)
  obtain ⟨s2,q1,q2,q3,q4⟩:=Qo2 ha hb hal f (i+1) s' (by omega) r2 (by omega) r4
  refine ⟨s2,.step (λrec=>?_) q1,q2,by omega,q4⟩
  have e:z137.l2 a b (i:Int) ((0:Int),(0:Int),s)=some ((0:Int),k',s'):=r1.lfp
  unfold z137.l0P
  simp only
  rw [bif_t (by omega),e]
  simp only [Zb]
  rw [Qe (by omega) (by omega)]
  rfl
theorem Qb5 (B:Nat):∀n:Nat,valB B (List.replicate n (0:Int))=0
 |0=>rfl
 |n+1=>by rw [List.replicate_succ,valB,Qb5 B n];simp
theorem Qa8 {B:Nat} (hB:0<B) (n:Nat):inB B (List.replicate n (0:Int)):=λx hx=>by
 rw [List.mem_replicate] at hx;rw [hx.2];omega
theorem Qtj {a b:J0} (ha:inB 10000 a) (hb:inB 10000 b) (hal:a.length+b.length<=900000000):z137.F a b=some (dg (valB 10000 a*valB 10000 b).toNat):=by
 unfold z137.F z137.l0
 have e:wr .i64 (wr .i64 ((a.length:Int)+(b.length:Int))+1)=((a.length+b.length+1:Nat):Int):=by
  rw [Qe (n:=(a.length:Int)+b.length) (by omega) (by omega),Qe (by omega) (by omega)];omega
 rw [e,if_pos (by omega),Zi]
 obtain ⟨s',r1,r2,r3,r4⟩:=Qo2 ha hb (by omega) a.length 0 (List.replicate (a.length+b.length+1) 0) (by omega) (Qa8 (by decide) _) (by simp) (by rw [Qb5];simp [valB])
 rw [show ((0:Int),List.replicate (a.length+b.length+1) (0:Int))=(((0:Nat):Int),List.replicate (a.length+b.length+1) (0:Int)) from rfl,r1.lfp]
 simp only [Zb]
 rw [Qy4 r2 (by show List.length _<=_;rw [r3];simp;omega),r4]
 rfl
theorem Qwc {m n:Nat} (hl:(dg m).length+(dg n).length<=900000000):z137.F (dg m) (dg n)=some (dg (m*n)):=by
 rw [Qtj (Q4 b4 m) (Q4 b4 n) hl,Wn b4,Wn b4]
 congr 2
def cmpI (m n:Int):Int:=if m<n then -1 else if m=n then 0 else 1
theorem Qxo {B:Nat} (hB:2<=B) {l:J0} (h:inB B l) {k:Nat} (hk:k<=l.length):valB B (l.take k)<(B^k:Nat):=by
 have:=W2 hB (Wh h k)
 rwa [Z8,Z53 hk] at this
theorem Qlf {B:Nat} (hB:2<=B) {a b:J0} (ha:inB B a) (hb:inB B b) {k:Nat} (hka:k<a.length) (hkb:k<b.length) :
  (a[k]<b[k]->valB B (a.take (k+1))<valB B (b.take (k+1)))/\(a[k]=b[k]->(valB B (a.take (k+1))-valB B (b.take (k+1))=valB B (a.take k)-valB B (b.take k))):=by
 rw [J5 hka,J5 hkb]
 have h1:=Qxo hB ha (k:=k) (by omega)
 have h2:=Wc (Wh hb k)
 refine ⟨λh=>?_,λh=>by rw [h];omega⟩
 have h3:((B^k:Nat):Int)*(a[k]+1)<=(B^k:Nat)*b[k]:=Int.mul_le_mul_of_nonneg_left (by omega) (by omega)
 rw [Int.mul_add,Int.mul_one] at h3
 omega
theorem Qe8 {B m n:Nat} (hB:2<=B) (h:(toB B m).length<(toB B n).length):m<n:=by
 have h1:=Qa4 (n:=m) hB
 have hn:0<n:=by
  rcases Z12 n with rfl|h0
  ·rw [toB_zero] at h;simp at h
  ·exact h0
 have h2:=Qw5 hB hn
 have h3:B^(toB B m).length<=B^((toB B n).length-1):=Z33 (by omega) (by omega)
 omega
def tv:Int->J1->Int
 |acc,[]=>acc
 |acc,b::s=>tv (10*acc+(b.toNat:Int)-48) s
def digit (b:UInt8):Prop:=48<=b.toNat/\b.toNat<=57
def Q1 (s:J1):Prop:=∀b∈s,digit b
theorem Qht:∀(s t:J1) (a:Int),tv a (s++t)=tv (tv a s) t
 |[],_,_=>rfl
 |b::s,t,a=>Qht s t _
theorem Qgf:∀(s:J1) (a:Int),tv a s=a*(10^s.length:Nat)+tv 0 s
 |[],a=>by simp [tv]
 |
  b::s,a=>by
  have h1:=Qgf s (10*a+(b.toNat:Int)-48)
  have h2:=Qgf s (10*0+(b.toNat:Int)-48)
  show tv (10*a+(b.toNat:Int)-48) s=a*_+tv (10*0+(b.toNat:Int)-48) s
  rw [h1,h2,Z10,Z45,Z13]
  generalize ((10^s.length:Nat):Int)=p
  grind
theorem Qa0:∀{s:J1},Q1 s->0<=tv 0 s/\tv 0 s<(10^s.length:Nat)
 |[],_=>by simp [tv]
 |
  b::s,h=>by
  have hb:=h b (by simp)
  have ih:=Qa0 (s:=s) λx hx=>h x (by simp [hx])
  have e:tv 0 (b::s)=((b.toNat:Int)-48)*(10^s.length:Nat)+tv 0 s:=by
   show tv (10*0+(b.toNat:Int)-48) s=_
   rw [Qgf];simp
  have hp:(0:Int)<=(10^s.length:Nat):=Z55 _
  unfold digit at hb
  have h1:0<=((b.toNat:Int)-48)*(10^s.length:Nat):=Z43 (by omega) hp
  have h2:((b.toNat:Int)-48)*(10^s.length:Nat)<=9*(10^s.length:Nat):=Z60 (by omega) hp
  rw [e,Z10,Z45,Z13]
  omega
theorem Qp4:∀{l:J0},inB 10 l->tv 0 (l.reverse.map ch)=valB 10 l
 |[],_=>rfl
 |
  x::l,h=>by
  rw [Ww] at h
  rw [List.reverse_cons,Z68,Qht,Qp4 h.2]
  show 10*valB 10 l+((ch x).toNat:Int)-48=x+10*valB 10 l
  rw [Qeg h.1.1 h.1.2];omega
theorem Qif (n:Nat):Q1 (txt n):=by
 unfold txt
 split
 ·intro b hb;simp at hb;subst hb;unfold digit;decide
 ·intro b hb
  rw [List.mem_map] at hb
  obtain ⟨d,hd,rfl⟩:=hb
  have:=Q4 b10 n d (List.mem_reverse.1 hd)
  unfold digit
  rw [Qeg this.1 this.2];omega
theorem Qpb (n:Nat):tv 0 (txt n)=n:=by
 unfold txt
 split
 ·rename_i h;subst h;decide
 ·rw [Qp4 (Q4 b10 n),Wn b10]
theorem Qrb (n:Nat):txt n≠[]:=by
 unfold txt
 split
 ·simp
 ·rename_i h
  simp only [ne_eq,List.map_eq_nil_iff,List.reverse_eq_nil_iff]
  exact λe=>h ((toB_nil b10).1 e)
theorem Qls {n:Nat} (hn:n≠0):∃b s,txt n=b::s/\b.toNat≠48:=by
 have h:=Qhn b10 n (λe=>hn ((toB_nil b10).1 e))
 have hne:toB 10 n≠[]:=λe=>hn ((toB_nil b10).1 e)
 have hin:=Q4 b10 n _ (List.getLast_mem hne)
 refine ⟨ch ((toB 10 n).getLast hne),((toB 10 n).dropLast.reverse.map ch),?_,?_⟩
 ·unfold txt
  rw [if_neg hn]
  conv=>lhs;rw [<-List.dropLast_concat_getLast hne]
  rw [List.reverse_append];rfl
 ·rw [Qeg hin.1 hin.2];omega
theorem Qcd {n k:Nat} (h:n<10^k) (hk:0<k):(txt n).length<=k:=by
 unfold txt
 split
 ·show 1<=k;omega
 ·rw [Z18,List.length_reverse];exact Yh b10 h
abbrev neg (z:Int):Bool:=decide (z<0)
theorem Qwk (n:Nat):(((dg n).length:Nat):Int)=0↔n=0:=by
 constructor
 ·intro h;exact (toB_nil b4).1 (List.length_eq_zero_iff.1 (Int.ofNat_eq_zero.1 h))
 ·rintro rfl;simp [dg,toB_zero]
theorem Qs3 (n:Nat):(((dg n).length:Nat):Int)>0↔0<n:=by
 have:=Qwk n;omega
theorem Qpf (n:Nat) (b:Bool):z9.F (dg n) b=some (dg n,b&&decide (0<n)):=by
 unfold z9.F
 cases b
 ·rfl
 ·simp only [Zd,Z75]
  congr 2
  exact decide_eq_decide.2 (Qs3 n)
theorem Qm2 {z:Int} {b:Bool} (h:(b=true/\z<=0)\/(b=false/\0<=z)):z9.F (dg z.natAbs) b=some (dg z.natAbs,neg z):=by
 rw [Qpf]
 congr 2
 rcases h with ⟨rfl,h⟩|⟨rfl,h⟩
 ·rw [Z75];exact decide_eq_decide.2 (by omega)
 ·rw [Z71];symm;exact Zf (by omega)
theorem Qe9 {z:Int} (h:-9223372036854775808<z/\z<9223372036854775808):z11.F z=some (dg z.natAbs,neg z):=by
 unfold z11.F
 by_cases hz:z<0
 ·have e:wr .i64 (0-z)=((z.natAbs:Nat):Int):=by rw [Qe (by omega) (by omega)];omega
  rw [bif_t hz,e,Qpn (by omega)]
  simp only [Zb]
  rw [Qm2 (z:=z) (.inl ⟨rfl,by omega⟩)];rfl
 ·have e:z=((z.natAbs:Nat):Int):=by omega
  rw [Qb hz]
  conv=>lhs;rw [e]
  rw [Qpn (by omega)]
  simp only [Zb]
  rw [Qm2 (z:=z) (.inr ⟨rfl,by omega⟩)];rfl
theorem Qvv {x y:Int} (hl:(dg x.natAbs).length+(dg y.natAbs).length<=900000000):z138.F (dg x.natAbs) (neg x) (dg y.natAbs) (neg y)=some (dg (x*y).natAbs,neg (x*y)):=by
 unfold z138.F
 rw [Qwc hl,<-Z102]
 simp only [Zb]
 rw [Qpf]
 simp only [Zb]
 congr 2
 have h0:0<(x*y).natAbs↔x≠0/\y≠0:=by
  rw [Z102]
  constructor
  ·intro h;exact ⟨by rintro rfl;simp at h,by rintro rfl;simp at h⟩
  ·rintro ⟨h1,h2⟩;exact Z48 (by omega) (by omega)
 rw [Bool.eq_iff_iff]
 simp only [Z7,Z77,decide_eq_true_eq,decide_eq_false_iff_not,h0]
 rcases Z91 x 0 with hx|hx|hx<;>rcases Z91 y 0 with hy|hy|hy
 ·have:=Int.mul_pos_of_neg_of_neg hx hy;simp [hx,hy];omega
 ·subst hy;simp
 ·have:=Int.mul_neg_of_neg_of_pos hx hy;simp [hx];omega
 ·subst hx;simp
 ·subst hx;simp
 ·subst hx;simp
 ·have:=Int.mul_neg_of_pos_of_neg hx hy;simp [hy];omega
 ·subst hy;simp
 ·have:=Int.mul_pos hx hy;simp;omega
theorem Qo7 {z:Int} (hs:4*(dg z.natAbs).length<=1000000000) (hl:(txt z.natAbs).length<=1000000000):z6.F (dg z.natAbs) (neg z)=some (if z<0 then 45::txt z.natAbs else txt z.natAbs):=by
 unfold z6.F
 rw [Qmd hs]
 simp only [Zb]
 by_cases h:z<0
 ·rw [bif_t h,if_pos (by simp;omega),if_pos h];rfl
 ·rw [Qb h,if_neg h]
theorem Qcx {m n:Int}:cmpI m n>=0↔n<=m:=by unfold cmpI;split<;>(try split)<;>omega
theorem Qqb (x y:Int):cmpI (x-y) 0=cmpI x y:=by
 unfold cmpI;split<;>split<;>(try split)<;>(try split)<;>first|rfl|omega
abbrev LB:Nat:=18446744073709551616
abbrev lb (n:Nat):J0:=toB LB n
theorem bL:2<=LB:=by decide
theorem Qh9 (n:Nat):(((lb n).length:Nat):Int)=0↔n=0:=by
 constructor
 ·intro h;exact (toB_nil bL).1 (List.length_eq_zero_iff.1 (Int.ofNat_eq_zero.1 h))
 ·rintro rfl;simp [lb,toB_zero]
theorem Wy (n:Nat):z21.F (lb n)=some (decide (n=0)):=by
 unfold z21.F;congr 1;exact decide_eq_decide.2 (Qh9 n)
theorem Qn9 {l:J0} {i:Nat}:z30.F l (i:Int)=some (l.getD i 0):=by
 unfold z30.F
 by_cases h:(i:Int)>=(l.length:Int)
 ·rw [bif_t h]
  have:l.getD i 0=0:=by simp [List.getD,Z15 (show l.length<=i by omega)]
  rw [this]
 ·rw [Qb h,if_pos (by omega),Zi]
theorem Qfr {l:J0} (hl:inB LB l) (hs:Qaa l):z24.F l=some (lb (valB LB l).toNat):=by
 have h:=Qpk bL hl hs
 unfold z136.F at h
 unfold z24.F
 have e:z24.l0 l=z136.l0 l:=rfl
 rw [e]
 revert h
 cases z136.l0 l ((l.length:Nat):Int) with
 |none=>exact id
 |
  some o=>
  simp only [Zb]
  intro h
  split at h
  ·rename_i hc
   rw [if_pos ⟨hc.1,Z109 _,hc.2⟩];exact h
  ·simp at h
theorem Qdo (x y:Int):z14.F x y=some (cmpI x y):=by
 unfold z14.F z13.F cmpI
 simp only [Zb,decide_true,Zn,Zc]
 by_cases h:x<y
 ·rw [bif_t h,if_pos h]
 ·rw [Qb h,if_neg h]
  by_cases h':x>y
  ·rw [bif_t h',if_neg (by omega)]
  ·rw [Qb h',if_pos (by omega)]
theorem Qpw (x y:Int):z32.F x y=some (cmpI x y):=Qdo x y
theorem Qkn {a b:J0} (ha:inB LB a) (hb:inB LB b) (hl:a.length=b.length) (hal:a.length<=900000000):∀k:Nat,k<=a.length ->
  ∃o:Int⊕Int,Runs (λrec x=>z33.l0P a b rec some x) ((k:Int)-1) o/\(match o with | .inl _=>(0:Int) | .inr q=>q)=cmpI (valB LB (a.take k)) (valB LB (b.take k))
 |0,_=>⟨.inl (-1),.done λrec=>by unfold z33.l0P;rw [Qb (by omega)];rfl,by simp [cmpI,valB]⟩
 |
  k+1,hk=>by
  have hka:k<a.length:=by omega
  have hkb:k<b.length:=by omega
  have e0:((k+1:Nat):Int)-1=(k:Int):=by omega
  obtain ⟨p1,p2⟩:=Qlf bL ha hb hka hkb
  obtain ⟨p3,_⟩:=Qlf bL hb ha hkb hka
  have c1:(0:Int)<=(k:Int)/\(k:Int)<(a.length:Int):=by omega
  have c2:(0:Int)<=(k:Int)/\(k:Int)<(b.length:Int):=by omega
  rw [e0]
  by_cases h:a[k]=b[k]
  ·obtain ⟨o,r1,r2⟩:=Qkn ha hb hl hal k (by omega)
   refine ⟨o,.step (λrec=>?_) r1,?_⟩
   ·unfold z33.l0P
    rw [bif_t (by omega),Zi,W1 hka,W1 hkb,if_pos c1,if_pos c2,Qpw]
    simp only [Zb]
    have:cmpI a[k] b[k]=0:=by unfold cmpI;rw [if_neg (by omega),if_pos h]
    rw [this,Qe (by omega) (by omega)]
    rfl
   ·rw [r2]
    have:=p2 h
    unfold cmpI
    split<;>split<;>(try split)<;>(try split)<;>first|rfl|omega
  ·refine ⟨.inr (cmpI a[k] b[k]),.done λrec=>?_,?_⟩
   ·unfold z33.l0P
    rw [bif_t (by omega),Zi,W1 hka,W1 hkb,if_pos c1,if_pos c2,Qpw]
    simp only [Zb]
    have:¬cmpI a[k] b[k]=0:=by unfold cmpI;split<;>(try split)<;>omega
    rw [Zf this]
    rfl
   ·rcases Int.lt_or_gt_of_ne h with h'|h'
    ·have:=p1 h'
     unfold cmpI;rw [if_pos h',if_pos this]
    ·have:=p3 h'
     unfold cmpI;rw [if_neg (by omega),if_neg (by omega),if_neg (by omega),if_neg (by omega)]
theorem Qcm {m n:Nat} (hl:(lb m).length<=900000000):z33.F (lb m) (lb n)=some (cmpI m n):=by
 unfold z33.F
 rw [Qdo]
 simp only [Zb]
 by_cases he:(lb m).length=(lb n).length
 ·have e1:cmpI ((lb m).length:Int) ((lb n).length:Int)=0:=by unfold cmpI;rw [if_neg (by omega),if_pos (by omega)]
  rw [e1]
  simp only [decide_true,Zn,Zc]
  obtain ⟨o,r1,r2⟩:=Qkn (a:=lb m) (b:=lb n) (Q4 bL m) (Q4 bL n) he hl (lb m).length (Z4 _)
  rw [Qe (by omega) (by omega)]
  unfold z33.l0
  rw [r1.lfp]
  simp only [Zb]
  rw [Z96,he,Z96,Wn bL,Wn bL] at r2
  rw [<-r2]
  cases o<;>rfl
 ·rcases Nat.lt_or_gt_of_ne he with h|h
  ·have:=Qe8 bL h
   have e1:cmpI ((lb m).length:Int) ((lb n).length:Int) = -1:=by unfold cmpI;rw [if_pos (by omega)]
   have e2:cmpI (m:Int) n = -1:=by unfold cmpI;rw [if_pos (by omega)]
   rw [e1,e2];rfl
  ·have:=Qe8 bL h
   have e1:cmpI ((lb m).length:Int) ((lb n).length:Int)=1:=by unfold cmpI;rw [if_neg (by omega),if_neg (by omega)]
   have e2:cmpI (m:Int) n=1:=by unfold cmpI;rw [if_neg (by omega),if_neg (by omega)]
   rw [e1,e2];rfl
theorem Qg5 (a:Int) (h0:0<=a):wr .u64 ((BitVec.ofInt (IntKind.bits .u64) a &&& BitVec.ofInt (IntKind.bits .u64) (4294967295:Int)).toNat:Int)=a%4294967296:=by
 have e:(BitVec.ofInt (IntKind.bits .u64) a &&& BitVec.ofInt (IntKind.bits .u64) (4294967295:Int)).toNat=(a%4294967296).toNat:=by
  rw [BitVec.toNat_and]
  have e1:(BitVec.ofInt (IntKind.bits .u64) (4294967295:Int)).toNat=2^32-1:=rfl
  have e2:(BitVec.ofInt (IntKind.bits .u64) a).toNat=(a%18446744073709551616).toNat:=by
   rw [BitVec.toNat_ofInt];rfl
  rw [e1,Nat.and_two_pow_sub_one_eq_mod,e2]
  omega
 rw [e,Qn (by omega) (by omega)];omega
theorem Qvb (a:Int):Int.fdiv a (2^(min 32 (64:Nat)))=a/4294967296:=by
 rw [Z84 _ (by decide)];rfl
theorem Qg2 {a b:Int} (ha:0<=a/\a<18446744073709551616) (hb:0<=b/\b<18446744073709551616):z42.F a b=some (a*b/18446744073709551616,a*b%18446744073709551616):=by
 unfold z42.F
 simp only [Qvb]
 rw [Qg5 a ha.1,Qg5 b hb.1]
 generalize hx1:a/4294967296=x1
 generalize hx0:a%4294967296=x0
 generalize hy1:b/4294967296=y1
 generalize hy0:b%4294967296=y0
 have ea:a=4294967296*x1+x0:=by omega
 have eb:b=4294967296*y1+y0:=by omega
 have bx1:0<=x1/\x1<=4294967295:=by omega
 have bx0:0<=x0/\x0<=4294967295:=by omega
 have by1:0<=y1/\y1<=4294967295:=by omega
 have by0:0<=y0/\y0<=4294967295:=by omega
 have m00:0<=x0*y0/\x0*y0<=4294967295*4294967295:=⟨Z43 bx0.1 by0.1,Z101 bx0.2 by0.2 by0.1 (by decide)⟩
 have m10:0<=x1*y0/\x1*y0<=4294967295*4294967295:=⟨Z43 bx1.1 by0.1,Z101 bx1.2 by0.2 by0.1 (by decide)⟩
 have m01:0<=x0*y1/\x0*y1<=4294967295*4294967295:=⟨Z43 bx0.1 by1.1,Z101 bx0.2 by1.2 by1.1 (by decide)⟩
 have m11:0<=x1*y1/\x1*y1<=4294967295*4294967295:=⟨Z43 bx1.1 by1.1,Z101 bx1.2 by1.2 by1.1 (by decide)⟩
 have eab:a*b=18446744073709551616*(x1*y1)+4294967296*(x1*y0)+4294967296*(x0*y1)+x0*y0:=by rw [ea,eb];grind
 rw [eab]
 generalize x0*y0=p00 at *
 generalize x1*y0=p10 at *
 generalize x0*y1=p01 at *
 generalize x1*y1=p11 at *
 rw [Qn (n:=p00) (by omega) (by omega),Qn (n:=p10) (by omega) (by omega),Qn (n:=p01) (by omega) (by omega),Qn (n:=p11) (by omega) (by omega)]
 rw [Qn (n:=p10+p00/4294967296) (by omega) (by omega)]
 rw [Qg5 _ (by omega)]
 rw [Qn (n:=p11+(p10+p00/4294967296)/4294967296) (by omega) (by omega)]
 rw [Qn (n:=(p10+p00/4294967296)%4294967296+p01) (by omega) (by omega)]
 rw [Qn (n:=p11+(p10+p00/4294967296)/4294967296+((p10+p00/4294967296)%4294967296+p01)/4294967296) (by omega) (by omega)]
 rw [Wv]
 congr 2;omega
theorem Qb4 {x y c:Int} (hx:0<=x) (hy:0<=y) (hc:0<=c/\c<=1):z0.F x y c=some ((x+y+c)%18446744073709551616,(x+y+c)/18446744073709551616):=by
 unfold z0.F;rw [if_pos (by omega)]
theorem Qa3 {s:J0} {i j:Nat} {x:Int} (h:i≠j):(s.set i x).getD j 0=s.getD j 0:=by
 simp [List.getD,Z99 h]
theorem Qc3 (n j:Nat):(List.replicate n (0:Int)).getD j 0=0:=by
 simp only [List.getD,List.getElem?_replicate];split<;>rfl
theorem Ql1 {a b:J0} {n:Nat} (ha:inB LB a) (hb:inB LB b) (hn:n<=900000000) (han:a.length<n) (hbn:b.length<n) :
  ∀
   (f i:Nat) (c:Int) (s:J0),i+f=n->s.length=n->inB LB s->(∀j,i<=j->s.getD j 0=0)->0<=c/\c<=1 ->
   valB LB s+(c+valB LB (a.drop i)+valB LB (b.drop i))*(LB^i:Nat)=valB LB a+valB LB b ->
   ∃c' s',Runs (λrec x=>z50.l0P (n:Int) a b rec some x) (c,(i:Int),s) (c',(n:Int),s')/\inB LB s'/\s'.length=n/\(0<=c'/\c'<=1)/\valB LB s'+c'*(LB^n:Nat)=valB LB a+valB LB b
 |
  0,i,c,s,hf,hl,hs,hz,hc,hv=>by
  have:i=n:=by omega
  subst this
  refine ⟨c,s,.done λrec=>?_,hs,hl,hc,?_⟩
  ·unfold z50.l0P
   simp only
   rw [Qb (by omega)]
  ·rw [Z21 (by omega),Z21 (by omega)] at hv
   simpa [valB] using hv
 |
  f+1,i,c,s,hf,hl,hs,hz,hc,hv=>by
  have hLB:((LB:Nat):Int)=18446744073709551616:=rfl
  have h1:=Q5 (B:=LB) (by decide) ha i
  have h2:=Q5 (B:=LB) (by decide) hb i
  have hi:i<s.length:=by omega
  obtain ⟨c',s',r1,r2,r3,r4,r5⟩:=Ql1 ha hb hn han hbn f (i+1) ((a.getD i 0+b.getD i 0+c)/18446744073709551616) (s.set i ((a.getD i 0+b.getD i 0+c)%18446744073709551616)) (by omega) (by simp [hl]) (Ya hs (by omega))
   (λj hj=>by rw [Qa3 (by omega)];exact hz j (by omega)) (by omega) (by
    rw [Ym hi,hz i (Z4 _),<-hv,Wf a i,Wf b i,Z45,Z25 (LB^i) LB,Z13]
    generalize hx:a.getD i 0+b.getD i 0+c=x
    have e2:x=18446744073709551616*(x/18446744073709551616)+x%18446744073709551616:=(Z78 x _).symm
    have e3:((LB:Nat):Int)=18446744073709551616:=rfl
    rw [e3]
    generalize x/18446744073709551616=q at *
    generalize x%18446744073709551616=m at *
    subst e2
    generalize ((LB^i:Nat):Int)=p
    generalize valB LB (a.drop (i+1))=w
    generalize valB LB (b.drop (i+1))=w'
    generalize a.getD i 0=u at *
    generalize b.getD i 0=v at *
    have hc':c=18446744073709551616*q+m-u-v:=by omega
    subst hc'
    grind)
  refine ⟨c',s',.step (λrec=>?_) r1,r2,r3,r4,r5⟩
  unfold z50.l0P
  simp only [Qn9,Zb]
  rw [bif_t (by omega),Qb4 h1.1 h2.1 hc]
  simp only [Zb]
  rw [if_pos (by omega),Zi,if_pos hi,Qe (by omega) (by omega)]
  rfl
theorem Qof {n k:Nat} (h:(lb n).length<=k):n<LB^k:=Z14 (Qa4 bL) (Z33 (by decide) h)
theorem Qbs {m n:Nat} (hl:(lb m).length+(lb n).length<=800000000):z50.F (lb m) (lb n)=some (lb (m+n)):=by
 unfold z50.F
 generalize hk:max (lb m).length (lb n).length=k
 have e0:(if (((lb n).length:Nat):Int)>(((lb m).length:Nat):Int) then (((lb n).length:Nat):Int) else (((lb m).length:Nat):Int))=(k:Int):=by split<;>omega
 have e1:wr .i64 ((k:Int)+1)=((k+1:Nat):Int):=by rw [Qe (by omega) (by omega)];omega
 rw [e0,e1,if_pos (by omega),Zi,Z79]
 obtain ⟨c',s',r1,r2,r3,r4,r5⟩:=Ql1 (a:=lb m) (b:=lb n) (n:=k+1) (Q4 bL m) (Q4 bL n) (by omega) (by omega) (by omega) (k+1) 0 0 (List.replicate (k+1) 0) (by omega) (by simp) (Qa8 (by decide) _)
  (λj _=>Qc3 _ j) (by omega) (by rw [Qb5];simp)
 have e:z50.l0 ((k+1:Nat):Int) (lb m) (lb n) ((0:Int),(0:Int),List.replicate (k+1) 0)=some (c',((k+1:Nat):Int),s'):=r1.lfp
 rw [e]
 simp only [Zb]
 rw [Wn bL,Wn bL] at r5
 have hm:m<LB^k:=Qof (by omega)
 have hn:n<LB^k:=Qof (by omega)
 have hc:c'=0:=by
  rcases (show c'=0\/c'=1 by omega) with h|h
  ·exact h
  ·exfalso
   subst h
   have:=Wc r2
   have e3:((LB^(k+1):Nat):Int)=(LB^k:Nat)*18446744073709551616:=by rw [Z45,Z13];rfl
   rw [e3] at r5
   omega
 subst hc
 rw [Qfr r2 (by show List.length _<=_;omega)]
 simp only [Zb]
 congr 2;omega
theorem Qkp {a b:J0} (ha:inB LB a) (hb:inB LB b) (hal:a.length<=900000000) :
  ∀
   (f i:Nat) (c:Int) (s:J0),i+f=a.length->s.length=a.length->inB LB s->(∀j,i<=j->s.getD j 0=0)->0<=c/\c<=1 ->
   valB LB s-c*(LB^i:Nat)=valB LB (a.take i)-valB LB (b.take i) ->
   ∃c' s',Runs (λrec x=>z34.l0P (a.length:Int) a b rec some x) (c,(i:Int),s) (c',(a.length:Int),s')/\inB LB s'/\s'.length=a.length/\(0<=c'/\c'<=1)/\valB LB s'-c'*(LB^a.length:Nat)=valB LB a-valB LB (b.take a.length)
 |
  0,i,c,s,hf,hl,hs,hz,hc,hv=>by
  have:i=a.length:=by omega
  subst this
  refine ⟨c,s,.done λrec=>?_,hs,hl,hc,by rwa [Z96] at hv⟩
  unfold z34.l0P
  simp only
  rw [Qb (by omega)]
 |
  f+1,i,c,s,hf,hl,hs,hz,hc,hv=>by
  have hi:i<a.length:=by omega
  have his:i<s.length:=by omega
  have hLB:((LB:Nat):Int)=18446744073709551616:=rfl
  have h1:=Q5 (B:=LB) (by decide) ha i
  have h2:=Q5 (B:=LB) (by decide) hb i
  have eb:valB LB (b.take (i+1))=valB LB (b.take i)+(LB^i:Nat)*b.getD i 0:=by
   by_cases hb':i<b.length
   ·rw [J5 hb',W1 hb']
   ·rw [Z28 (by omega),Z28 (by omega)]
    simp [List.getD,Z15 (show b.length<=i by omega)]
  have hsub:z1.F (a.getD i 0) (b.getD i 0) c=some ((a.getD i 0-b.getD i 0-c)%18446744073709551616,if a.getD i 0<b.getD i 0+c then 1 else 0):=by
   unfold z1.F;rw [if_pos (by omega)]
  obtain ⟨c',s',r1,r2,r3,r4,r5⟩:=Qkp ha hb hal f (i+1) (if a.getD i 0<b.getD i 0+c then 1 else 0) (s.set i ((a.getD i 0-b.getD i 0-c)%18446744073709551616)) (by omega) (by simp [hl]) (Ya hs (by omega))
   (λj hj=>by rw [Qa3 (by omega)];exact hz j (by omega)) (by split<;>omega) (by
    rw [Ym his,hz i (Z4 _),J5 hi,eb,Z45,Z25 (LB^i) LB,Z13,<-W1 hi]
    have e3:((LB:Nat):Int)=18446744073709551616:=rfl
    rw [e3]
    have e4:(a.getD i 0-b.getD i 0-c)%18446744073709551616=a.getD i 0-b.getD i 0-c+(if a.getD i 0<b.getD i 0+c then 1 else 0)*18446744073709551616:=by split<;>omega
    rw [e4]
    generalize (if a.getD i 0<b.getD i 0+c then (1:Int) else 0)=q
    generalize ((LB^i:Nat):Int)=p at *
    grind)
  refine ⟨c',s',.step (λrec=>?_) r1,r2,r3,r4,r5⟩
  unfold z34.l0P
  simp only [Qn9,Zb]
  rw [bif_t (by omega),if_pos (by omega),Zi,hsub]
  simp only [Zb]
  rw [if_pos (by omega),if_pos his,Qe (by omega) (by omega)]
  rfl
theorem Qfd {m n:Nat} (hl:(lb m).length<=800000000):z34.F (lb m) (lb n)=some (if n<=m then (lb (m-n),true) else ([],false)):=by
 unfold z34.F
 rw [Qcm (by omega)]
 simp only [Zb]
 by_cases h:n<=m
 ·have h0:¬cmpI (m:Int) n<0:=by unfold cmpI;split<;>(try split)<;>omega
  rw [Qb h0,if_pos h,if_pos (by omega),Zi,Z79]
  obtain ⟨c',s',r1,r2,r3,r4,r5⟩:=Qkp (a:=lb m) (b:=lb n) (Q4 bL m) (Q4 bL n) (by omega) (lb m).length 0 0 (List.replicate (lb m).length 0) (by omega) (by simp) (Qa8 (by decide) _)
   (λj _=>Qc3 _ j) (by omega) (by rw [Qb5];simp [valB])
  have hlen:(lb n).length<=(lb m).length:=by
   rcases Z44 (lb m).length (lb n).length with h'|h'
   ·have:=Qe8 bL h';omega
   ·exact h'
  rw [Z28 hlen,Wn bL,Wn bL] at r5
  have h1:=W2 bL r2
  rw [r3] at h1
  have hc:c'=0:=by
   rcases (show c'=0\/c'=1 by omega) with h|h
   ·exact h
   ·subst h;omega
  subst hc
  have e:z34.l0 ((lb m).length:Int) (lb m) (lb n) ((0:Int),(0:Int),List.replicate (lb m).length 0)=some ((0:Int),((lb m).length:Int),s'):=r1.lfp
  rw [e]
  simp only [Zb]
  rw [Qfr r2 (by show List.length _<=_;omega)]
  simp only [Zb]
  congr 3;omega
 ·have h0:cmpI (m:Int) n<0:=by unfold cmpI;rw [if_pos (by omega)];decide
  rw [bif_t h0,if_neg h]
theorem Qcj {l:J0} (hl:inB LB l) (hs:Qaa l):z25.F l=some (lb (valB LB l).toNat):=by
 have hs':l.length<=1000000000:=hs
 unfold z25.F
 rw [if_pos (by omega),Qfr hl hs];rfl
theorem Yg {x:Int} (h:0<=x/\x<18446744073709551616):z25.F [x]=some (lb x.toNat):=by
 rw [Qcj (Ww.2 ⟨h,inB_nil _⟩) (by show [x].length<=_;simp)]
 simp [valB]
theorem Qw3 {n:Nat} (hs:Qaa (lb n)):z25.F (lb n)=some (lb n):=by
 rw [Qcj (Q4 bL n) hs,Wn bL];rfl
theorem J3 {l:J0} (hs:Qaa l):z35.F l=some l:=by
 have hs':l.length<=1000000000:=hs
 unfold z35.F
 rw [if_pos (by omega)]
theorem Qnb {x:Int} {a:J0} {off tot:Nat} (hx:0<=x/\x<18446744073709551616) (ha:inB LB a) (ht:tot<=1800000000) (hot:off+a.length<tot) :
  ∀
   (f i:Nat) (c:Int) (s:J0),i+f=a.length->s.length=tot->inB LB s->0<=c/\c<18446744073709551616 ->
   ∃
    c' s',Runs (λrec y=>z48.l0aP x off (tot-off) a (a.length:Int) rec some y) (c,(i:Int),s) (c',(a.length:Int),s')/\inB LB s'/\s'.length=tot/\(0<=c'/\c'<18446744073709551616) /\
    (∀j,off+a.length<=j->s'.getD j 0=s.getD j 0)/\valB LB s'+c'*(LB^(off+a.length):Nat)=valB LB s+(c+x*valB LB (a.drop i))*(LB^(off+i):Nat)
 |
  0,i,c,s,hf,hl,hs,hc=>by
  have:i=a.length:=by omega
  subst this
  refine ⟨c,s,.done λrec=>?_,hs,hl,hc,λj _=>rfl,?_⟩
  ·unfold z48.l0aP
   simp only
   rw [Qb (by omega)]
  ·rw [Z21 (Z4 _)];simp [valB]
 |
  f+1,i,c,s,hf,hl,hs,hc=>by
  have hi:i<a.length:=by omega
  have his:off+i<s.length:=by omega
  have h1:=Q5 (B:=LB) (by decide) ha i
  have h2:=Q5 (B:=LB) (by decide) hs (off+i)
  have h1':0<=a.getD i 0/\a.getD i 0<18446744073709551616:=h1
  have h2':0<=s.getD (off+i) 0/\s.getD (off+i) 0<18446744073709551616:=h2
  have hp:0<=x*a.getD i 0/\x*a.getD i 0<=18446744073709551615*18446744073709551615:=⟨Z43 hx.1 h1'.1,Z101 (by omega) (by omega) h1'.1 (by decide)⟩
  obtain ⟨c',s',r1,r2,r3,r4,r5,r6⟩:=Qnb hx ha ht hot f (i+1) ((x*a.getD i 0+c+s.getD (off+i) 0)/18446744073709551616) (s.set (off+i) ((x*a.getD i 0+c+s.getD (off+i) 0)%18446744073709551616))
   (by omega) (by simp [hl]) (Ya hs (by show 0<=_/\_<(18446744073709551616:Int);omega)) (by omega)
  refine ⟨c',s',.step (λrec=>?_) r1,r2,r3,r4,λj hj=>?_,?_⟩
  ·unfold z48.l0aP
   simp only
   rw [bif_t (by omega),if_pos (by omega),Zi,Qg2 hx h1']
   simp only [Zb]
   rw [Qb4 (by omega) hc.1 (by omega)]
   simp only [Zb]
   rw [if_pos (by omega),if_pos his,Qb4 h2'.1 (by omega) (by omega)]
   simp only [Zb]
   rw [if_pos (by omega),if_pos his]
   generalize x*a.getD i 0=p at hp ⊢
   generalize s.getD (off+i) 0=u at h2' ⊢
   rw [Qn (n:=p/18446744073709551616+_) (by omega) (by omega),Qn (by omega) (by omega),Qe (by omega) (by omega)]
   congr 2
   ·omega
   ·congr 2;omega
  ·rw [r5 j hj,Qa3 (by omega)]
  ·rw [r6,Ym his,Wf a i]
   have e1:((LB^(off+(i+1)):Nat):Int)=18446744073709551616*(LB^(off+i):Nat):=by
    rw [<-Z32,Z45,Z25,Z13];rfl
   rw [e1]
   have e3:((LB:Nat):Int)=18446744073709551616:=rfl
   rw [e3]
   generalize hy:x*a.getD i 0+c+s.getD (off+i) 0=y
   have e2:y=18446744073709551616*(y/18446744073709551616)+y%18446744073709551616:=(Z78 y _).symm
   generalize y/18446744073709551616=q at *
   generalize y%18446744073709551616=m at *
   generalize ((LB^(off+i):Nat):Int)=p
   generalize valB LB (a.drop (i+1))=w
   generalize valB LB s=z
   generalize s.getD (off+i) 0=u at *
   generalize a.getD i 0=v at *
   have hc':c=18446744073709551616*q+m-u-x*v:=by omega
   subst hc'
   grind
theorem Qka {a b:J0} {tot:Nat} (ha:inB LB a) (hb:inB LB b) (ht:tot<=1800000000) (hab:tot=a.length+b.length+1) :
  ∀
   (f i:Nat) (s:J0),i+f=b.length->s.length=tot->inB LB s->(∀j,i+a.length<=j->s.getD j 0=0)->valB LB s=valB LB a*valB LB (b.take i) ->
   ∃s',Runs (λrec y=>z48.l0P b (b.length:Int) a rec some y) ((i:Int),s) ((b.length:Int),s')/\inB LB s'/\s'.length=tot/\valB LB s'=valB LB a*valB LB b
 |
  0,i,s,hf,hl,hs,hz,hv=>by
  have:i=b.length:=by omega
  subst this
  refine ⟨s,.done λrec=>?_,hs,hl,by rwa [Z96] at hv⟩
  unfold z48.l0P
  simp only
  rw [Qb (by omega)]
 |
  f+1,i,s,hf,hl,hs,hz,hv=>by
  have hi:i<b.length:=by omega
  have hx:=Q5 (B:=LB) (by decide) hb i
  have hx':0<=b.getD i 0/\b.getD i 0<18446744073709551616:=hx
  obtain ⟨c,s1,r1,r2,r3,r4,r5,r6⟩:=Qnb (x:=b.getD i 0) (a:=a) (off:=i) (tot:=tot) hx' ha ht (by omega) a.length 0 0 s (by omega) hl hs (by omega)
  have e0:z48.l0a (b.getD i 0) i (tot-i) a (a.length:Int) ((0:Int),(0:Int),s)=some (c,(a.length:Int),s1):=r1.lfp
  have hz1:s1.getD (i+a.length) 0=0:=by rw [r5 _ (Z4 _)];exact hz _ (Z4 _)
  have hi1:i+a.length<s1.length:=by omega
  obtain ⟨s',q1,q2,q3,q4⟩:=Qka ha hb ht hab f (i+1) (s1.set (i+a.length) c) (by omega) (by simp [r3]) (Ya r2 r4)
   (λj hj=>by rw [Qa3 (by omega),r5 j (by omega)];exact hz j (by omega)) (by
    rw [Ym hi1,hz1,J5 hi,Int.mul_add,<-hv,<-W1 hi]
    simp only [Z36,Z72,Int.zero_add] at r6
    generalize ((LB^(i+a.length):Nat):Int)=p at *
    generalize ((LB^i:Nat):Int)=p2 at *
    grind)
  refine ⟨s',.step (λrec=>?_) q1,q2,q3,q4⟩
  unfold z48.l0P
  simp only
  rw [bif_t (by omega),if_pos (by omega),if_pos (by omega),Zi,hl,e0]
  simp only [Zb,Zi]
  rw [if_pos (by omega),if_pos hi1,if_pos (by omega),if_pos hi1,hz1,Qe (by omega) (by omega),Qn (by omega) (by omega),Int.zero_add]
  rfl
theorem Qul {a b:J0} (ha:inB LB a) (hb:inB LB b) (hl:a.length+b.length<=800000000):z48.F a b=some (lb (valB LB a*valB LB b).toNat):=by
 obtain ⟨s',r1,r2,r3,r4⟩:=Qka (tot:=a.length+b.length+1) ha hb (by omega) rfl b.length 0 (List.replicate (a.length+b.length+1) 0) (by omega) (by simp) (Qa8 (by decide) _)
  (λj _=>Qc3 _ j) (by rw [Qb5];simp [valB])
 have e0:z48.l0 b (b.length:Int) a ((0:Int),List.replicate (a.length+b.length+1) 0)=some ((b.length:Int),s'):=r1.lfp
 have e1:wr .i64 (wr .i64 ((a.length:Int)+(b.length:Int))+1)=((a.length+b.length+1:Nat):Int):=by
  rw [Qe (n:=(a.length:Int)+(b.length:Int)) (by omega) (by omega),Qe (by omega) (by omega)];omega
 unfold z48.F
 rw [e1,if_pos (by omega),Zi,e0]
 simp only [Zb]
 rw [Qfr r2 (by show List.length _<=_;omega),r4]
 rfl
theorem Jg {m n:Nat} (hl:(lb m).length+(lb n).length<=800000000):z48.F (lb m) (lb n)=some (lb (m*n)):=by
 rw [Qul (Q4 bL m) (Q4 bL n) hl,Wn bL,Wn bL]
 congr 2
theorem whole_Of (n:Nat) (b:Bool):z23.F (lb n) b=some (lb n,b&&decide (0<n)):=by
 unfold z23.F
 cases b
 ·rfl
 ·rw [Wy]
  simp only [Zd,Z75,Zb]
  congr 2
  by_cases h:n=0
  ·subst h;rfl
  ·rw [Zf h,Zt (by omega:0<n)];rfl
theorem whole_Of' {z:Int} {b:Bool} (h:(b=true/\z<=0)\/(b=false/\0<=z)):z23.F (lb z.natAbs) b=some (lb z.natAbs,neg z):=by
 rw [whole_Of]
 congr 2
 rcases h with ⟨rfl,h⟩|⟨rfl,h⟩
 ·rw [Z75];exact decide_eq_decide.2 (by omega)
 ·rw [Z71];symm;exact Zf (by omega)
theorem Yn {z:Int} {n:Nat} {b:Bool} (hn:n=z.natAbs) (h:(b=true/\z<=0)\/(b=false/\0<=z)):z23.F (lb n) b=some (lb z.natAbs,neg z):=by
 subst hn;exact whole_Of' h
theorem whole_From {z:Int} (h:-9223372036854775808<=z/\z<9223372036854775808):z26.F z=some (lb z.natAbs,neg z):=by
 unfold z26.F
 by_cases hz:z<0
 ·have e:wr .u64 (0-wr .u64 z)=((z.natAbs:Nat):Int):=by rw [Wv z,Wv];omega
  rw [bif_t hz,e,Yg (by omega)]
  simp only [Zb,Zi]
  rw [whole_Of' (z:=z) (.inl ⟨rfl,by omega⟩)];rfl
 ·have e:wr .u64 z=((z.natAbs:Nat):Int):=by rw [Qn (by omega) (by omega)];omega
  rw [Qb hz,e,Yg (by omega)]
  simp only [Zb,Zi]
  rw [whole_Of' (z:=z) (.inr ⟨rfl,by omega⟩)];rfl
theorem Ql6 (z:Int):z28.F (lb z.natAbs) (neg z)=some (lb (-z).natAbs,neg (-z)):=by
 unfold z28.F
 rw [Yn (z:=-z) (by omega) (by by_cases h:z<0;exact .inr ⟨by simp [neg,h],by omega⟩;exact .inl ⟨by simp [neg,h],by omega⟩)]
 rfl
theorem Yc (z:Int):z22.F (lb z.natAbs) (neg z)=some (cmpI z 0):=by
 unfold z22.F cmpI
 rw [Wy]
 simp only [Zb]
 by_cases h0:z=0
 ·subst h0;rfl
 ·rw [Qb (by omega)]
  by_cases h:z<0
  ·rw [bif_t h,if_pos h]
  ·rw [Qb h,if_neg h,if_neg h0]
theorem Qe5 {x y:Int} (hl:(lb x.natAbs).length+(lb y.natAbs).length<=800000000):z63.F (lb x.natAbs) (neg x) (lb y.natAbs) (neg y)=some (lb (x+y).natAbs,neg (x+y)):=by
 unfold z63.F
 by_cases hs:neg x=neg y
 ·have hs':(x<0↔y<0):=by simpa [neg] using hs
  rw [bif_t hs,Qbs hl]
  simp only [Zb]
  rw [Yn (z:=x+y) (by omega) (by by_cases hx:x<0;exact .inl ⟨Zt hx,by omega⟩;exact .inr ⟨Zf hx,by omega⟩)]
  rfl
 ·have hs':¬(x<0↔y<0):=by simpa [neg] using hs
  rw [Qb hs,Qfd (by omega)]
  simp only [Zb]
  by_cases hc:y.natAbs<=x.natAbs
  ·rw [if_pos hc]
   simp only [Zd]
   rw [Yn (z:=x+y) (by omega) (by by_cases hx:x<0;exact .inl ⟨Zt hx,by omega⟩;exact .inr ⟨Zf hx,by omega⟩)]
   rfl
  ·rw [if_neg hc]
   simp only [Zc]
   rw [Qfd (by omega),if_pos (by omega)]
   simp only [Zb]
   rw [Yn (z:=x+y) (by omega) (by by_cases hy:y<0;exact .inl ⟨Zt hy,by omega⟩;exact .inr ⟨Zf hy,by omega⟩)]
   rfl
theorem Qb6 {x y:Int} (hl:(lb x.natAbs).length+(lb y.natAbs).length<=800000000):z64.F (lb x.natAbs) (neg x) (lb y.natAbs) (neg y)=some (lb (x-y).natAbs,neg (x-y)):=by
 unfold z64.F
 rw [Ql6]
 simp only [Zb]
 rw [Qe5 (by rw [Int.natAbs_neg];exact hl)]
 rfl
theorem Qbt {x y:Int} (hl:(lb x.natAbs).length+(lb y.natAbs).length<=800000000):z65.F (lb x.natAbs) (neg x) (lb y.natAbs) (neg y)=some (cmpI x y):=by
 unfold z65.F
 rw [Qb6 hl]
 simp only [Zb]
 rw [Yc,Qqb]
 rfl
theorem neg_mul (x y:Int):((!decide (neg x=neg y))&&decide (0<x.natAbs*y.natAbs))=neg (x*y):=by
 have h0:0<x.natAbs*y.natAbs↔x≠0/\y≠0:=by
  constructor
  ·intro h;exact ⟨by rintro rfl;simp at h,by rintro rfl;simp at h⟩
  ·rintro ⟨h1,h2⟩;exact Z48 (by omega) (by omega)
 rw [Bool.eq_iff_iff]
 simp only [Z7,Z77,decide_eq_true_eq,decide_eq_false_iff_not,h0]
 rcases Z91 x 0 with hx|hx|hx<;>rcases Z91 y 0 with hy|hy|hy
 ·have:=Int.mul_pos_of_neg_of_neg hx hy;simp [hx,hy];omega
 ·subst hy;simp
 ·have:=Int.mul_neg_of_neg_of_pos hx hy;simp [hx];omega
 ·subst hx;simp
 ·subst hx;simp
 ·subst hx;simp
 ·have:=Int.mul_neg_of_pos_of_neg hx hy;simp [hy];omega
 ·subst hy;simp
 ·have:=Int.mul_pos hx hy;simp;omega
theorem J8 {x y:Int} (hl:(lb x.natAbs).length+(lb y.natAbs).length<=800000000):z49.F (lb x.natAbs) (neg x) (lb y.natAbs) (neg y)=some (lb (x*y).natAbs,neg (x*y)):=by
 unfold z49.F
 rw [Jg hl]
 simp only [Zb]
 rw [whole_Of,neg_mul,Z102]
 rfl
def sz (n:Nat):Nat:=(toB 10 n).length
theorem J9 (n:Nat):n<10^sz n:=Qa4 b10
theorem sz_le {n k:Nat} (h:n<10^k):sz n<=k:=Yh b10 h
theorem Q8 {m n:Nat} (h:m<=n):sz m<=sz n:=sz_le (Nat.lt_of_le_of_lt h (J9 n))
theorem Qk (n:Nat):(lb n).length<=sz n:=Yh bL (Z14 (J9 n) (Nat.pow_le_pow_left (by decide) _))
theorem Qen (n:Nat):(dg n).length<=sz n:=Yh b4 (Z14 (J9 n) (Nat.pow_le_pow_left (by decide) _))
theorem W6 (m n:Nat):sz (m*n)<=sz m+sz n:=sz_le (by rw [Z97];exact Nat.mul_lt_mul_of_lt_of_le (J9 m) (Z69 (J9 n)) (Z105 (by decide)))
theorem Qak:sz 0=0:=by simp [sz,toB_zero]
theorem lb_zero:lb 0=[]:=toB_zero LB
def isD (b:UInt8):Bool:=decide (48<=b.toNat)&&decide (b.toNat<=57)
def digs (s:J1):Bool:=s.all isD
theorem Qa2 {s:J1}:digs s=true↔Q1 s:=by simp [digs,Q1,digit,isD]
theorem Qqm (b c:UInt8):(b == c)=decide (b.toNat=c.toNat):=by
 rw [Bool.eq_iff_iff];simp [UInt8.toNat_inj]
theorem Qxb (b:UInt8):([48,49,50,51,52,53,54,55,56,57]:J1).contains b=isD b:=by
 rw [Bool.eq_iff_iff]
 simp only [List.contains_cons,List.contains_nil,Qqm,isD]
 simp
 omega
theorem Qex {α:Type} {p:α->Bool}:∀{l:List α},l.dropWhile p=[]↔∀x∈l,p x=true
 |[]=>by simp
 |
  a::l=>by
  by_cases h:p a=true
  ·rw [List.dropWhile_cons_of_pos h,Qex (l:=l)];simp [h]
  ·rw [List.dropWhile_cons_of_neg h];simp [h]
theorem Qp5 (s cs:J1):Lib.trimS s cs=[]↔∀b∈s,cs.contains b=true:=by
 unfold Lib.trimS Lib.trimLeftS Lib.trimRightS
 rw [Qex]
 constructor
 ·intro h
  cases he:s.reverse.dropWhile (cs.contains ·) with
  |
   nil=>
   rw [Qex] at he
   exact λb hb=>he b (List.mem_reverse.2 hb)
  |
   cons x l=>
   have h1:=List.head?_dropWhile_not (cs.contains ·) s.reverse
   rw [he] at h1
   have h2:=h x (by rw [he];simp)
   simp only [List.head?_cons] at h1
   rw [h2] at h1;simp at h1
 ·intro h
  have he:s.reverse.dropWhile (cs.contains ·)=[]:=Qex.2 λb hb=>h b (List.mem_reverse.1 hb)
  rw [he];simp
theorem Qla (s:J1) (hs:s.length<=9223372036854775807):∃r,z3.F s [48,49,50,51,52,53,54,55,56,57]=some r/\decide (r=[])=digs s:=by
 unfold z3.F
 rw [if_pos ⟨hs,by decide,by decide⟩]
 refine ⟨_,rfl,?_⟩
 rw [Bool.eq_iff_iff,decide_eq_true_iff,Qp5,digs,Z23]
 simp only [Qxb]
def numOK (s:J1):Bool:=!decide (s=[])&&digs s && !(decide (1<s.length)&&decide ((s.getD 0 0).toNat=48))
def mDigits (s:J1):Nat×Int:=if 4096<s.length then (0,7) else if numOK s then ((tv 0 s).toNat,0) else (0,5)
theorem Qqs {s:J1} {i:Nat} (hi:i<s.length) (h:(s.getD i 0).toNat<128):Utf8.decode ⟨s.toArray⟩ i=((s.getD i 0).toNat,1):=by
 have e:(ByteArray.mk s.toArray).get! (i+0)=s.getD i 0:=by
  show s.toArray[i+0]! = _
  simp [List.getD,hi]
 unfold Utf8.decode
 simp only [e]
 rw [if_pos h]
theorem Qrh {n:Int} (h1:-2147483648<=n) (h2:n<2147483648):wr .i32 n=n:=by
 simp only [wr,IntKind.wrap,IntKind.signed,IntKind.bits]
 simp;omega
theorem Qks {s:J1} (hs:Q1 s) (hl:s.length<=18):∀(f i:Nat) (d:Int),i+f=s.length->0<=d/\d<(10^i:Nat) ->
  Runs (λrec x=>z57.l2P s rec some x) (d,i) (tv d (s.drop i),s.length)
 |
  0,i,d,hf,_=>by
  have:i=s.length:=by omega
  subst this
  refine .done λrec=>?_
  unfold z57.l2P
  simp only
  rw [if_neg (by omega),Z21 (Z4 _)]
  rfl
 |
  f+1,i,d,hf,hd=>by
  have hi:i<s.length:=by omega
  have hb:=hs s[i] (Z16 hi)
  unfold digit at hb
  have eg:s.getD i 0=s[i]:=by simp [List.getD,hi]
  have hp:(10^i:Nat)<=10^17:=Z33 (by decide) (by omega)
  have hp':((10^i:Nat):Int)<=100000000000000000:=Int.ofNat_le.2 hp
  have ih:=Qks hs hl f (i+1) (10*d+(s[i].toNat:Int)-48) (by omega) ⟨by omega,by rw [Z45,Z13];omega⟩
  rw [Z38 hi]
  refine .step (λrec=>?_) ih
  unfold z57.l2P
  simp only
  rw [if_pos hi,Qqs hi (by rw [eg];omega),eg]
  simp only
  rw [Qrh (by omega) (by omega),Qn (n:=(s[i].toNat:Int)-48) (by omega) (by omega),Qn (n:=10*d) (by omega) (by omega),Qn (by omega) (by omega)]
  congr 2;omega
theorem Qt2 {s:J1} {n j k:Nat} (hs:Q1 s) (hk:k<=s.length) (hk':k<=18) (hn:n<10^j) (hj:j<=8192) {R:Type} (rec done:(J1×Bool×J0)->Option R) :
  z57.j1011a rec done (k:Int) s (lb n)=rec (s.drop k,false,lb (n*1000000000000000000+(tv 0 (s.take k)).toNat)):=by
 have hds:Q1 (s.take k):=λb hb=>hs b (Z65 hb)
 have hlen:(s.take k).length=k:=by rw [Z8];omega
 have htb:=Qa0 hds
 rw [hlen] at htb
 have hp:(10^k:Nat)<=10^18:=Z33 (by decide) hk'
 have hp':((10^k:Nat):Int)<=1000000000000000000:=Int.ofNat_le.2 hp
 have r:=Qks hds (by omega) (s.take k).length 0 0 (by omega) ⟨Z109 0,by decide⟩
 have er:z57.l2a (s.take k) ((0:Int),0)=some (tv 0 (s.take k),(s.take k).length):=r.lfp
 obtain ⟨U,hU⟩:∃U:Nat,1000000000000000000=U:=⟨_,rfl⟩
 have hU':Int.toNat 1000000000000000000=U:=by omega
 have hUs:sz U<=19:=sz_le (by omega)
 have hsn:=Z11 (Qk n) (sz_le hn)
 have hsu:=Z11 (Qk U) hUs
 have hsm:=Z11 (Qk (n*U)) (Z11 (W6 n U) (Nat.add_le_add (sz_le hn) hUs))
 have hst:=Z11 (Qk (tv 0 (s.take k)).toNat) (sz_le (k:=18) (by omega))
 have e1:z25.F [(1000000000000000000:Int)]=some (lb U):=by rw [Yg (by omega),hU']
 have e2:z25.F [tv 0 (s.take k)]=some (lb (tv 0 (s.take k)).toNat):=Yg (by omega)
 have e3:z48.F (lb n) (lb U)=some (lb (n*U)):=Jg (by omega)
 have e4:z50.F (lb (n*U)) (lb (tv 0 (s.take k)).toNat)=some (lb (n*U+(tv 0 (s.take k)).toNat)):=Qbs (by omega)
 have e5:(0:Int)<=(k:Int)/\(k:Int)<=((s.length:Nat):Int):=by omega
 rw [hU]
 unfold z57.j1011a
 rw [if_pos e5,Zi,er]
 simp only [Zb]
 rw [e1]
 simp only [Zb]
 rw [e3]
 simp only [Zb]
 rw [e2]
 simp only [Zb]
 rw [e4]
 simp only [Zb]
 rw [if_pos e5]
theorem Qj9:∀(m:Nat) (s:J1),s.length<=m->Q1 s->∀(n j:Nat) (first:Bool),n<10^j->j+s.length<=8192->((first=true/\n=0)\/(first=false/\s.length%18=0)) ->
  ∃f',Runs (λrec x=>z57.l0P rec some x) (s,first,lb n) ([],f',lb (tv n s).toNat)
 |
  0,s,hm,hs,n,j,first,hn,hj,hf=>by
  have:s=[]:=List.length_eq_zero_iff.1 (by omega)
  subst this
  refine ⟨first,.done λrec=>?_⟩
  simp [z57.l0P,tv]
 |
  m+1,s,hm,hs,n,j,first,hn,hj,hf=>by
  by_cases hne:s=[]
  ·subst hne
   refine ⟨first,.done λrec=>?_⟩
   simp [z57.l0P,tv]
  ·have hpos:0<s.length:=List.length_pos_iff.2 hne
   have key:∃k:Nat,0<k/\k<=s.length/\k<=18/\(n=0\/k=18)/\(s.length-k)%18=0 /\
     ∀rec,z57.l0P rec some (s,first,lb n)=z57.j1011a rec some (k:Int) s (lb n):=by
    have hd:(!decide (s=([]:J1)))=true:=by rw [Zf hne];rfl
    rcases hf with ⟨rfl,hn0⟩|⟨rfl,h18⟩
    ·have em:Int.tmod (s.length:Int) 18=((s.length%18:Nat):Int):=by rw [Jh (by omega)];rfl
     by_cases h0:s.length%18=0
     ·refine ⟨18,by omega,by omega,by omega,.inr rfl,by omega,λrec=>?_⟩
      unfold z57.l0P
      simp only [hd,Zn,Zd,Zc]
      rw [em,bif_t (by omega)];rfl
     ·refine ⟨s.length%18,by omega,Nat.mod_le _ _,by omega,.inl hn0,by omega,λrec=>?_⟩
      unfold z57.l0P
      simp only [hd,Zn,Zd,Zc]
      rw [em,Qb (by omega)]
    ·refine ⟨18,by omega,by omega,by omega,.inr rfl,by omega,λrec=>?_⟩
     unfold z57.l0P
     simp only [hd,Zo,Zd]
     rfl
   obtain ⟨k,k0,k1,k2,k3,k4,k5⟩:=key
   have hds:Q1 (s.take k):=λb hb=>hs b (Z65 hb)
   have hdd:Q1 (s.drop k):=λb hb=>hs b (Z98 hb)
   have hlen:(s.take k).length=k:=by rw [Z8];omega
   have htb:=Qa0 hds
   rw [hlen] at htb
   have htv:tv n (s.take k)=((n*1000000000000000000+(tv 0 (s.take k)).toNat:Nat):Int):=by
    rw [Qgf,hlen]
    rcases k3 with h|h
    ·subst h;simp;omega
    ·subst h
     have:((10^18:Nat):Int)=1000000000000000000:=rfl
     rw [this];omega
   have hn':n*1000000000000000000+(tv 0 (s.take k)).toNat<10^(j+k):=by
    have hp0:0<10^j:=Z105 (by decide)
    rcases k3 with h|h
    ·subst h
     have:10^k<=10^(j+k):=Z33 (by decide) (by omega)
     omega
    ·subst h
     have e18:(10^(j+18):Nat)=10^j*1000000000000000000:=by rw [Z97]
     have e18':((10^18:Nat):Int)=1000000000000000000:=rfl
     rw [e18]
     have:(n+1)*1000000000000000000<=10^j*1000000000000000000:=Z3 _ hn
     omega
   obtain ⟨f',r⟩:=Qj9 m (s.drop k) (by rw [Z34];omega) hdd (n*1000000000000000000+(tv 0 (s.take k)).toNat) (j+k) false hn' (by rw [Z34];omega) (.inr ⟨rfl,by rw [Z34];exact k4⟩)
   refine ⟨f',.step (y:=(s.drop k,false,lb (n*1000000000000000000+(tv 0 (s.take k)).toNat))) (λrec=>?_) ?_⟩
   ·rw [k5,Qt2 hs k1 k2 hn (by omega)]
   ·have e:tv n s=tv ((n*1000000000000000000+(tv 0 (s.take k)).toNat:Nat):Int) (s.drop k):=by
     conv=>lhs;rw [<-List.take_append_drop k s]
     rw [Qht,htv]
    rw [e];exact r
theorem digits_Parse (s:J1):z57.F s=some (lb (mDigits s).1,(mDigits s).2):=by
 unfold z57.F mDigits
 by_cases h1:4096<s.length
 ·rw [bif_t (by omega),if_pos h1,lb_zero]
 ·rw [Qb (by omega),if_neg h1]
  by_cases h2:s=[]
  ·subst h2;rw [bif_t rfl];simp [numOK,lb_zero]
  ·rw [Qb h2]
   obtain ⟨r,t1,t2⟩:=Qla s (by omega)
   rw [t1]
   simp only [Zb]
   rw [t2]
   cases hd:digs s with
   |false=>simp [numOK,hd,lb_zero]
   |
    true=>
    have hds:=Qa2.1 hd
    obtain ⟨f',r⟩:=Qj9 s.length s (Z4 _) hds 0 0 true (by decide) (by omega) (.inl ⟨rfl,rfl⟩)
    rw [lb_zero] at r
    have er:z57.l0 (s,true,[])=some ([],f',lb (tv ((0:Nat):Int) s).toNat):=r.lfp
    simp only [Zn,Zc]
    rw [er]
    have hpos:0<s.length:=List.length_pos_iff.2 h2
    by_cases h3:1<s.length
    ·rw [bif_t (by omega),if_pos (by omega)]
     by_cases h4:(s.getD 0 0).toNat=48
     ·rw [bif_t (by omega)]
      have:numOK s=false:=by simp [numOK,h3];intro _ _ ;simpa [List.getD] using h4
      rw [this];simp [lb_zero]
     ·rw [Qb (by omega)]
      have:numOK s=true:=by simp only [numOK,Zf h2,hd,Zf h4];simp
      rw [this];rfl
    ·rw [Qb (by omega)]
     have:numOK s=true:=by simp only [numOK,Zf h2,hd,Zf h3];simp
     rw [this];rfl
theorem Qhh (a:Int) (h0:0<=a) (h1:a<9223372036854775808):wr .i64 ((BitVec.ofInt (IntKind.bits .i64) a &&& BitVec.ofInt (IntKind.bits .i64) (1:Int)).toNat:Int)=a%2:=by
 have e:(BitVec.ofInt (IntKind.bits .i64) a &&& BitVec.ofInt (IntKind.bits .i64) (1:Int)).toNat=(a%2).toNat:=by
  rw [BitVec.toNat_and]
  have e1:(BitVec.ofInt (IntKind.bits .i64) (1:Int)).toNat=2^1-1:=rfl
  have e2:(BitVec.ofInt (IntKind.bits .i64) a).toNat=(a%18446744073709551616).toNat:=by
   rw [BitVec.toNat_ofInt];rfl
  rw [e1,Nat.and_two_pow_sub_one_eq_mod,e2]
  omega
 rw [e,Qe (by omega) (by omega)];omega
theorem shr1 (a:Int):Int.fdiv a (2^(min 1 (64:Nat)))=a/2:=by
 rw [Z84 _ (by decide)];rfl
theorem Qef:∀(f t n out:Nat),t<=f->t<9223372036854775808->sz out+t*sz n<=800000000 ->
  ∃n',Runs (λrec x=>z66.l0P rec some x) ((t:Int),lb n,lb out) ((0:Int),n',lb (out*n^t))
 |
  0,t,n,out,hf,ht,hb=>by
  have:t=0:=by omega
  subst this
  refine ⟨lb n,.done λrec=>?_⟩
  simp [z66.l0P]
 |
  f+1,t,n,out,hf,ht,hb=>by
  rcases Z12 t with h0|h0
  ·subst h0
   refine ⟨lb n,.done λrec=>?_⟩
   simp [z66.l0P]
  ·have hn:=Qk n
   have ho:=Qk out
   have hsq:=W6 n n
   have hon:=W6 out n
   have e2:(t:Int)/2=((t/2:Nat):Int):=by omega
   have em:(t:Int)%2=((t%2:Nat):Int):=by omega
   have hq:t*sz n=2*(t/2*sz n)+t%2*sz n:=by
    conv=>lhs;rw [<-Z63 t 2]
    rw [Z19,Z46]
   have hq2:t/2*sz (n*n)<=2*(t/2*sz n):=by
    have:=Z49 (t/2) hsq
    have e:t/2*(sz n+sz n)=2*(t/2*sz n):=by rw [Z111];omega
    omega
   have hpow:n^t=n^(t%2)*(n*n)^(t/2):=by
    rw [<-Nat.pow_two,<-Nat.pow_mul,<-Z97];congr 1;omega
   by_cases hodd:t%2=1
   ·rw [hodd,Z67] at hq
    by_cases h1:1<t
    ·have hge:1<=t/2:=by omega
     have hge':sz n<=t/2*sz n:=Nat.le_mul_of_pos_left _ hge
     obtain ⟨n',r⟩:=Qef f (t/2) (n*n) (out*n) (by omega) (by omega) (by omega)
     refine ⟨n',.step (λrec=>?_) (by rw [hpow,hodd,Nat.pow_one,<-Z46];exact r)⟩
     unfold z66.l0P
     simp only
     rw [bif_t (by omega),Qhh _ (by omega) (by omega),em,hodd,bif_t (by omega),Jg (by omega)]
     simp only [Zb]
     rw [bif_t (by omega),Jg (by omega),shr1,e2]
     rfl
    ·have ht1:t=1:=by omega
     subst ht1
     obtain ⟨n',r⟩:=Qef f 0 n (out*n) (by omega) (by omega) (by omega)
     refine ⟨n',.step (λrec=>?_) (by simpa using r)⟩
     unfold z66.l0P
     simp only
     rw [bif_t (by omega),Qhh _ (by omega) (by omega),bif_t (by decide),Jg (by omega)]
     simp only [Zb]
     rw [Qb (by omega),shr1]
     rfl
   ·have h2:t%2=0:=by omega
    rw [h2,Nat.zero_mul,Z72] at hq
    have hge:1<=t/2:=by omega
    have hge':sz n<=t/2*sz n:=Nat.le_mul_of_pos_left _ hge
    obtain ⟨n',r⟩:=Qef f (t/2) (n*n) out (by omega) (by omega) (by omega)
    refine ⟨n',.step (λrec=>?_) (by rw [hpow,h2,Nat.pow_zero,Z67];exact r)⟩
    unfold z66.l0P
    simp only
    rw [bif_t (by omega),Qhh _ (by omega) (by omega),em,h2,Qb (by omega),bif_t (by omega),Jg (by omega)]
    simp only [Zb]
    rw [shr1,e2]
theorem digits_power {n t:Nat} (ht:t<9223372036854775808) (h:t*sz n<=700000000):z66.F (lb n) (t:Int)=some (lb (n^t)):=by
 have h1:sz 1<=1:=sz_le (by decide)
 obtain ⟨n',r⟩:=Qef t t n 1 (Z4 _) ht (by omega)
 have e:z66.l0 ((t:Int),lb n,lb 1)=some ((0:Int),n',lb (1*n^t)):=r.lfp
 unfold z66.F
 rw [Yg (by omega)]
 simp only [Zb]
 rw [show Int.toNat 1=1 from rfl,e,Z67]
 rfl
theorem digits_Ten {t:Nat} (ht:t<=4096):z67.F (t:Int)=some (lb (10^t),0):=by
 have h1:sz 10<=2:=sz_le (by decide)
 have h2:=Z49 t h1
 unfold z67.F
 rw [Qb (by omega),Qb (by omega),Yg (by omega)]
 simp only [Zb]
 rw [show Int.toNat 10=10 from rfl,digits_power (by omega) (by omega)]
 rfl
def Yy (a b:Nat):Prop:=z44.F (lb a) (lb b)=some (lb (a/b),lb (a%b),0)
def Qbb (M:Nat):Prop:=∀x y,x<=M->y<=M->0<y->Yy x y
theorem We {m n:Int}:cmpI m n<0↔m<n:=by unfold cmpI;split<;>(try split)<;>omega
theorem Qaw {m n:Int}:cmpI m n>0↔n<m:=by unfold cmpI;split<;>(try split)<;>omega
theorem Qbe {m n:Int}:cmpI m n=0↔m=n:=by unfold cmpI;split<;>(try split)<;>omega
theorem Qel {a:Nat} (h0:0<a) (h:a<18446744073709551616):lb a=[(a:Int)]:=by
 show toB LB a=_
 rw [W7 bL h0,Z106 h,Nat.div_eq_of_lt h,toB_zero]
theorem Qkl {a b:Int} (ha:0<=a/\a<18446744073709551616) (hb:0<b):z38.F 0 a b=some (a/b,a%b):=by
 unfold z38.F
 rw [Qb (by omega),Qb (by omega),bif_t rfl,if_neg (by omega),if_neg (by omega),Y6 ha.1,Jh ha.1]
 have h1:=Int.ediv_nonneg ha.1 (Int.le_of_lt hb)
 have h2:=Int.ediv_le_self b ha.1
 rw [Qn h1 (by omega)]
theorem Qv0 {a b:Int} (ha:0<=a/\a<18446744073709551616) (hb:0<b):z39.F [a] b=some ([a/b],a%b):=by
 have h0:z39.l0 [a] b ((0:Int),(0:Int),[(0:Int)])=some (a%b,(-1:Int),[a/b]):=by
  refine (Runs.step (y:=(a%b,(-1:Int),[a/b])) (λrec=>?_) (Runs.done λrec=>?_):Runs (λrec x=>z39.l0P [a] b rec some x) _ _).lfp
  ·unfold z39.l0P
   simp only [Z35]
   rw [bif_t (by omega),if_pos (by omega),show [a].getD (Int.toNat 0) 0=a from rfl,Qkl ha hb]
   rfl
  ·unfold z39.l0P
   simp only
   rw [Qb (by omega)]
 unfold z39.F
 simp only [Z35]
 rw [if_pos (by omega)]
 show ((z39.l0 [a] b ((0:Int),wr .i64 0,[(0:Int)])).bind _)=_
 rw [Qe (by omega) (by omega),h0]
 rfl
theorem Qhe {a b:Nat} (h:a<b) (hs:(lb a).length<=900000000):Yy a b:=by
 unfold Yy z44.F
 rw [Wy]
 simp only [Zb]
 rw [Qb (by omega),Qcm hs]
 simp only [Zb]
 have:cmpI (a:Int) b<0:=by unfold cmpI;rw [if_pos (by omega)];decide
 rw [bif_t this,Nat.div_eq_of_lt h,Z106 h,lb_zero]
theorem Qqf {a b:Nat} (ha:a<18446744073709551616) (hb:0<b):Yy a b:=by
 have hl:(lb a).length<=1:=Yh bL (by simpa using ha)
 rcases Z44 a b with h|h
 ·exact Qhe h (by omega)
 ·unfold Yy z44.F
  rw [Wy]
  simp only [Zb]
  rw [Qb (by omega),Qcm (by omega)]
  simp only [Zb]
  have:¬cmpI (a:Int) b<0:=by unfold cmpI;rw [if_neg (by omega)];split<;>omega
  rw [Qb this,Qel (by omega) ha,Qel hb (by omega),J3 (by show List.length _<=_;simp),J3 (by show List.length _<=_;simp)]
  simp only [Zb,Z35]
  rw [bif_t (by omega),if_pos (by omega),show [(b:Int)].getD 0 0=b from rfl,Qv0 (by omega) (by omega)]
  simp only [Zb]
  have b1:a/b<=a:=Z95 a b
  have b2:a%b<=a:=Nat.mod_le a b
  obtain ⟨q,hq⟩:∃q,a/b=q:=⟨_,rfl⟩
  obtain ⟨m,hm⟩:∃m,a%b=m:=⟨_,rfl⟩
  have e1:((a:Int)/b)=(q:Int):=by rw [<-hq];rfl
  have e2:((a:Int)%b)=(m:Int):=by rw [<-hm];rfl
  rw [hq] at b1 ⊢
  rw [hm] at b2 ⊢
  rw [e1,e2,Yg (by omega)]
  simp only [Zb]
  rw [Yg (by omega)]
  rfl
theorem quot_Gcd {M:Nat} (hD:Qbb M) {a b:Nat} (ha:a<=M) (hb:b<=M):z45.F (lb a) (lb b)=some (lb (Nat.gcd a b)):=by
 have key:∀(f a b:Nat),b<f->a<=M->b<=M->Runs (λrec x=>z45.l0P rec some x) (lb a,lb b) (lb (Nat.gcd a b),[]):=by
  intro f
  induction f with
  |zero=>intro a b h;omega
  |
   succ f ih=>
   intro a b h ha hb
   rcases Z12 b with h0|h0
   ·subst h0
    refine .done λrec=>?_
    unfold z45.l0P
    simp only [Wy,Zb]
    rw [Nat.gcd_zero_right,lb_zero];rfl
   ·have hm:=Z74 a h0
    have hmm:=Nat.mod_le a b
    have e:Nat.gcd a b=Nat.gcd b (a%b):=by rw [Nat.gcd_comm,Nat.gcd_rec,Nat.gcd_comm]
    rw [e]
    refine .step (λrec=>?_) (ih b (a%b) (by omega) hb (by omega))
    unfold z45.l0P
    simp only [Wy,Zb]
    rw [Zf (by omega),Zo,Zd,hD a b ha hb h0]
    rfl
 unfold z45.F
 have e:z45.l0 (lb a,lb b)=some (lb (Nat.gcd a b),[]):=(key (b+1) a b (by omega) ha hb).lfp
 rw [e];rfl
theorem Qnq (z:Int):decide (cmpI z 0<0)=neg z:=by
 unfold cmpI;apply decide_eq_decide.2;split<;>(try split)<;>omega
theorem Qmb {z:Int} {g:Nat} (h:g∣z.natAbs) (h0:0<g):(z/(g:Int)).natAbs=z.natAbs/g/\(z/(g:Int)<0↔z<0):=by
 obtain ⟨k,hk⟩:=Int.ofNat_dvd_left.2 h
 subst hk
 have hg:(g:Int)≠0:=by omega
 rw [Int.mul_ediv_cancel_left _ hg,Z102,Z41,Nat.mul_div_cancel_left _ h0]
 refine ⟨rfl,?_⟩
 constructor
 ·intro h;exact Int.mul_neg_of_pos_of_neg (by omega) h
 ·intro h
  rcases Int.lt_or_le k 0 with h'|h'
  ·exact h'
  ·have:=Z43 (show (0:Int)<=g by omega) h';omega
theorem frac_made {M:Nat} (hD:Qbb M) {num:Int} {den:Nat} (h0:0<den) (hn:num.natAbs<=M) (hd:den<=M) (hs:sz den<=700000000) :
  z46.F (lb num.natAbs) (neg num) (lb den)=some (lb (mkRat num den).num.natAbs,neg (mkRat num den).num,lb ((mkRat num den).den-1)):=by
 have hg:0<Nat.gcd num.natAbs den:=Nat.gcd_pos_of_pos_right _ h0
 have hgd:Nat.gcd num.natAbs den<=den:=Nat.gcd_le_right _ h0
 have hdv:=Nat.gcd_dvd_right num.natAbs den
 have hdv2:=Nat.gcd_dvd_left num.natAbs den
 have hp:0<den/Nat.gcd num.natAbs den:=Nat.div_pos hgd hg
 have hle:den/Nat.gcd num.natAbs den<=den:=Z95 _ _
 have hsz:=Z11 (Qk _) (Z11 (Q8 hle) hs)
 obtain ⟨q1,q2⟩:=Qmb hdv2 hg
 unfold z46.F z29.F
 simp only [Zb]
 rw [quot_Gcd hD hn hd]
 simp only [Zb]
 rw [Rat.num_mkRat,Rat.den_mkRat,if_neg (by omega),if_neg (by omega),Nat.gcd_comm den]
 generalize Nat.gcd num.natAbs den=g at *
 have d1:z44.F (lb num.natAbs) (lb g)=_:=hD _ _ hn (by omega) hg
 have d2:z44.F (lb den) (lb g)=_:=hD _ _ hd (by omega) hg
 rw [d1]
 simp only [Zb]
 rw [d2]
 simp only [Zb]
 rw [Yg (by omega)]
 simp only [Zb]
 rw [show Int.toNat 1=1 from rfl,Qfd (by omega),if_pos (by omega)]
 simp only [Zb]
 rw [Yc]
 simp only [Zb]
 rw [Qnq,Yn (z:=num/(g:Int)) q1.symm (by
  have hz:num/(g:Int)<0↔num<0:=q2
  by_cases h:num<0
  ·exact .inl ⟨Zt h,by omega⟩
  ·exact .inr ⟨Zf h,by omega⟩)]
 rfl
abbrev fr (q:Rat):J0×Bool×J0:=(lb q.num.natAbs,neg q.num,lb (q.den-1))
theorem frac_Of {M:Nat} (hD:Qbb M) {num den:Int} (h0:den≠0) (hn:num.natAbs<=M) (hd:den.natAbs<=M) (hs:sz den.natAbs<=700000000) :
  z47.F (lb num.natAbs) (neg num) (lb den.natAbs) (neg den)=some ((fr (Rat.divInt num den)).1,(fr (Rat.divInt num den)).2.1,(fr (Rat.divInt num den)).2.2,0):=by
 have hc:cmpI den 0=if den<0 then -1 else 1:=by
  unfold cmpI
  by_cases h:den<0
  ·rw [if_pos h,if_pos h]
  ·rw [if_neg h,if_neg h,if_neg h0]
 unfold z47.F
 rw [Yc]
 simp only [Zb]
 rw [hc]
 by_cases h:den<0
 ·have e:Rat.divInt num den=mkRat (-num) den.natAbs:=by
   have:den = -((den.natAbs:Nat):Int):=by omega
   conv=>lhs;rw [this]
   rw [Rat.divInt_neg',Rat.divInt_ofNat]
  rw [if_pos h,Qb (by decide),bif_t rfl,Ql6]
  simp only [Zb]
  unfold z47.j4 z29.F
  simp only [Zb]
  rw [frac_made hD (by omega) (by omega) hd hs,e]
  rfl
 ·have e:Rat.divInt num den=mkRat num den.natAbs:=by
   have:den=((den.natAbs:Nat):Int):=by omega
   conv=>lhs;rw [this]
   rw [Rat.divInt_ofNat]
  rw [if_neg h,Qb (by decide),Qb (by decide)]
  unfold z47.j4 z29.F
  simp only [Zb]
  rw [frac_made hD (by omega) hn hd hs,e]
  rfl
theorem Js (q:Rat) (a:J0) (b:Bool) (hs:sz q.den<=700000000):z51.F a b (lb (q.den-1))=some (lb q.den):=by
 have h1:sz 1<=1:=sz_le (by decide)
 have h2:=Z11 (Qk (q.den-1)) (Z11 (Q8 (Nat.sub_le _ _)) hs)
 have h3:=Z11 (Qk 1) h1
 unfold z51.F
 rw [Yg (by omega)]
 simp only [Zb]
 rw [show Int.toNat 1=1 from rfl,Qbs (by omega),Nat.sub_add_cancel q.den_pos]
 rfl
theorem Qfy (q:Rat) (a:J0) (b:Bool) (hs:sz q.den<=700000000):z52.F a b (lb (q.den-1))=some (lb (q.den:Int).natAbs,neg (q.den:Int)):=by
 unfold z52.F
 rw [Js q a b hs]
 simp only [Zb]
 rw [Yn (z:=(q.den:Int)) (by omega) (.inr ⟨rfl,by omega⟩)]
 rfl
theorem Qnz (q r:Rat):q/r=Rat.divInt (q.num*r.den) (q.den*r.num):=by
 rw [Rat.div_def,Rat.inv_def]
 conv=>lhs;rw [<-Rat.num_divInt_den q,Rat.divInt_mul_divInt]
theorem Qj0 {M:Nat} (hD:Qbb M) {q r:Rat} (h0:r≠0) (hn:(q.num*r.den).natAbs<=M) (hd:(q.den*r.num).natAbs<=M) (hs:sz q.num.natAbs+sz r.den<=600000000) (hs':sz r.num.natAbs+sz q.den<=600000000) :
  z53.F (lb q.num.natAbs) (neg q.num) (lb (q.den-1)) (lb r.num.natAbs) (neg r.num) (lb (r.den-1))=some ((fr (q/r)).1,(fr (q/r)).2.1,(fr (q/r)).2.2,0):=by
 have e1:sz (r.den:Int).natAbs=sz r.den:=rfl
 have e2:sz (q.den:Int).natAbs=sz q.den:=rfl
 have l1:=Qk q.num.natAbs
 have l2:=Qk (r.den:Int).natAbs
 have l3:=Qk (q.den:Int).natAbs
 have l4:=Qk r.num.natAbs
 have hr:r.num≠0:=λh=>h0 (Rat.num_eq_zero.1 h)
 have hqd:=q.den_nz
 have m1:=W6 (q.den:Int).natAbs r.num.natAbs
 rw [<-Z102] at m1
 unfold z53.F
 rw [Qfy r _ _ (by omega)]
 simp only [Zb]
 rw [J8 (by omega)]
 simp only [Zb]
 rw [Qfy q _ _ (by omega)]
 simp only [Zb]
 rw [J8 (by omega)]
 simp only [Zb]
 rw [frac_Of hD (Int.mul_ne_zero (by omega) hr) hn hd (by show sz _<=_;omega),Qnz]
 rfl
def cutNeg (s:J1):J1×Bool:=match s with|[]=>([],false)|b::t=>if b=45 then (t,true) else (b::t,false)
theorem Qj3 (s:J1):(cutNeg s).1.length<=s.length:=by
 unfold cutNeg;split
 ·simp
 ·split<;>simp
theorem Qk0 (s:J1):z56.F s [45]=some (cutNeg s):=by
 unfold z56.F z55.F z54.F cutNeg
 cases s with
 |nil=>rfl
 |
  cons b t=>
  have e1:([45]:J1).length=1:=rfl
  have e2:Int.toNat ((1:Nat):Int)=1:=rfl
  simp only [e1,e2]
  rw [bif_t (by simp;omega),if_pos (by simp;omega)]
  simp only [Zb,List.take_succ_cons,List.take_zero,List.drop_succ_cons,Z36,List.cons.injEq,and_true]
  by_cases h:b=45
  ·rw [Zt h,if_pos h,if_pos (by simp;omega)];rfl
  ·rw [Zf h,if_neg h];rfl
def mWhole (s:J1):Int×Int:=
 if (mDigits (cutNeg s).1).2≠0 then (0,(mDigits (cutNeg s).1).2)
 else if (cutNeg s).2&&decide ((mDigits (cutNeg s).1).1=0) then (0,5)
 else (if (cutNeg s).2 then -((mDigits (cutNeg s).1).1:Int) else (mDigits (cutNeg s).1).1,0)
theorem whole_Parse (s:J1):z74.F s=some (lb (mWhole s).1.natAbs,neg (mWhole s).1,(mWhole s).2):=by
 unfold z74.F mWhole
 rw [Qk0]
 simp only [Zb]
 rw [digits_Parse]
 simp only [Zb]
 generalize mDigits (cutNeg s).1=d
 generalize (cutNeg s).2=below
 by_cases h:d.2=0
 ·have h':¬(d.2≠0):=λhh=>hh h
  rw [Zt h,if_neg h']
  simp only [Zn,Zc]
  cases below with
  |
   true=>
   simp only [Zd,Z75,if_true]
   rw [Wy]
   simp only [Zb]
   by_cases h0:d.1=0
   ·rw [Zt h0]
    simp only [if_true,Zd]
    rw [show Int.natAbs 0=0 from rfl,lb_zero];rfl
   ·rw [Zf h0]
    simp only [Zc]
    rw [Yn (z:=-(d.1:Int)) (by omega) (.inl ⟨rfl,by omega⟩)]
    simp
  |
   false=>
   simp only [Zc,Z71]
   rw [Yn (z:=(d.1:Int)) (by omega) (.inr ⟨rfl,by omega⟩)]
   simp
 ·rw [Zf h,if_pos h]
  simp only [Zo,Zd]
  rw [show Int.natAbs 0=0 from rfl,lb_zero];rfl
def cutDot:J1->J1×Option J1
 |[]=>([],none)
 |b::t=>if b=46 then ([],some t) else (b::(cutDot t).1,(cutDot t).2)
theorem Qh3:∀{t:J1},(cutDot t).2=none->(cutDot t).1=t
 |[],_=>rfl
 |
  b::t,h=>by
  unfold cutDot at h ⊢
  split at h
  ·simp at h
  ·rename_i hb
   rw [if_neg hb]
   simp only at h ⊢
   rw [Qh3 h]
theorem Qii:∀{t r:J1},(cutDot t).2=some r->t=(cutDot t).1++46::r
 |[],r,h=>by simp [cutDot] at h
 |
  b::t,r,h=>by
  unfold cutDot at h ⊢
  split at h
  ·rename_i hb
   rw [if_pos hb,hb]
   simp only [Zs] at h
   rw [h];rfl
  ·rename_i hb
   rw [if_neg hb]
   simp only at h ⊢
   conv=>lhs;rw [Qii h]
   rfl
theorem Qr6 (b:UInt8) (t:J1) (c:UInt8):Jc (b::t) c=if b=c then 0 else if Jc t c<0 then -1 else Jc t c+1:=by
 unfold Jc
 rw [Z10,List.range_succ_eq_map,List.find?_cons]
 by_cases h:b=c
 ·simp [h]
 ·have h1:((b::t).getD 0 0 == c)=false:=by simp [h]
  rw [h1,if_neg h]
  simp only
  rw [List.find?_map]
  have e:((λi=>(b::t).getD i 0 == c)∘Nat.succ)=λi=>t.getD i 0 == c:=by funext i;simp [List.getD]
  rw [e]
  cases (List.range t.length).find? λi=>t.getD i 0 == c with
  |none=>simp
  |some i=>simp;omega
theorem Qpz:∀t:J1,Jc t 46=if (cutDot t).2=none then -1 else ((cutDot t).1.length:Int)
 |[]=>by simp [Jc,cutDot]
 |
  b::t=>by
  have e:cutDot (b::t)=if b=46 then ([],some t) else (b::(cutDot t).1,(cutDot t).2):=by rw [cutDot]
  rw [Qr6,Qpz t,e]
  by_cases h:b=46
  ·simp [h]
  ·rw [if_neg h,if_neg h]
   by_cases h2:(cutDot t).2=none
   ·simp [h2]
   ·simp [h2];omega
def plainB (s:J1):Bool:=!decide (s=[])&&digs s
def zeros (s:J1):Bool:=s.all (· == 48)
theorem dec_plain (s:J1) (h:s.length<=9223372036854775807):z58.F s=some (plainB s):=by
 unfold z58.F plainB
 by_cases h0:s=[]
 ·rw [Zt h0];rfl
 ·rw [Zf h0]
  obtain ⟨r,t1,t2⟩:=Qla s h
  simp only [Zo,Zd]
  rw [t1]
  simp only [Zb]
  rw [t2];simp
theorem Qt5 (b:UInt8):([48]:J1).contains b=(b == 48):=by
 simp only [List.contains_cons,List.contains_nil,Bool.or_false]
theorem Qpv (s:J1) (hs:s.length<=9223372036854775807):∃r,z3.F s [48]=some r/\decide (r=[])=zeros s:=by
 unfold z3.F
 rw [if_pos ⟨hs,by decide,by decide⟩]
 refine ⟨_,rfl,?_⟩
 rw [Bool.eq_iff_iff,decide_eq_true_iff,Qp5,zeros,Z23]
 simp only [Qt5]
theorem Qou:∀{s:J1},Q1 s->tv 0 (trimL s [48])=tv 0 s/\Q1 (trimL s [48])/\(trimL s [48]).length<=s.length/\(trimL s [48]≠[]->((trimL s [48]).getD 0 0).toNat≠48)
 |[],h=>by simp [trimL,tv,Q1]
 |
  b::s,h=>by
  have ih:=Qou (s:=s) λx hx=>h x (by simp [hx])
  by_cases hb:b=48
  ·have e:trimL (b::s) [48]=trimL s [48]:=by unfold trimL;exact List.dropWhile_cons_of_pos (by rw [hb];decide)
   rw [e]
   refine ⟨?_,ih.2.1,by rw [Z10];omega,ih.2.2.2⟩
   rw [ih.1,hb];rfl
  ·have e:trimL (b::s) [48]=b::s:=by unfold trimL;exact List.dropWhile_cons_of_neg (by simp [hb])
   rw [e]
   refine ⟨rfl,h,Z4 _,λ_ hh=>hb (UInt8.toNat_inj.1 hh)⟩
theorem Qll {s:J1} (hd:Q1 s) (hl:s.length<=4096):z57.F (if trimL s [48]=[] then [48] else trimL s [48])=some (lb (tv 0 s).toNat,0):=by
 obtain ⟨h1,h2,h3,h4⟩:=Qou hd
 rw [digits_Parse]
 by_cases h:trimL s [48]=[]
 ·rw [if_pos h]
  rw [h] at h1
  rw [<-h1];rfl
 ·rw [if_neg h,<-h1]
  unfold mDigits
  have:numOK (trimL s [48])=true:=by
   unfold numOK
   rw [Zf h,Qa2.2 h2,Zf (h4 h)];simp
  rw [if_neg (by omega),this];rfl
def Qa7 (below:Bool) (a:J1) (o:Option J1):Int×Nat×Int:=
 if !plainB a||(o.isSome && !plainB (o.getD []))||(decide (1<a.length)&&decide ((a.getD 0 0).toNat=48)) then (0,0,5)
 else if below&&zeros (a++o.getD []) then (0,0,5)
 else if 64<(o.getD []).length then (0,0,10)
 else (if below then -tv 0 (a++o.getD []) else tv 0 (a++o.getD []),(o.getD []).length,0)
def mDec (s:J1):Int×Nat×Int:=if 4096<s.length then (0,0,7) else Qa7 (cutNeg s).2 (cutDot (cutNeg s).1).1 (cutDot (cutNeg s).1).2
abbrev decR (m:Int×Nat×Int):J0×Bool×Int×Int:=(lb m.1.natAbs,neg m.1,(m.2.1:Int),m.2.2)
theorem Ja (e:Int):decR (0,0,e)=([],false,0,e):=by unfold decR;simp [lb_zero]
theorem Qma (n:Int) (h:0<=n) (below:Bool):z23.F (lb n.toNat) below=some (lb (if below then -n else n).natAbs,neg (if below then -n else n)):=by
 cases below
 ·rw [Yn (z:=n) (by omega) (.inr ⟨rfl,h⟩)];rfl
 ·rw [Yn (z:=-n) (by omega) (.inl ⟨rfl,by omega⟩)];rfl
theorem Qwt {rest a b:J1} {below lead:Bool} (h1:rest.take a.length=a) (h2:rest.drop (a.length+1)=b) (ha:Q1 a) (hb:Q1 b) (hl:a.length+b.length<=4096) :
  z59.j14 lead (rest,below) (a.length:Int)=some (decR (if lead then (0,0,5) else if below&&zeros (a++b) then (0,0,5) else if 64<b.length then (0,0,10) else (if below then -tv 0 (a++b) else tv 0 (a++b),b.length,0))):=by
 have e1:(wr .i64 ((a.length:Int)+1)).toNat=a.length+1:=by rw [Qe (by omega) (by omega)];omega
 have hab:Q1 (a++b):=λx hx=>(Z52.1 hx).elim (ha x) (hb x)
 have hln:(a++b).length<=4096:=by rw [Z9];exact hl
 have key:z59.j16 false (rest,below) (a.length:Int)=some (decR (if 64<b.length then (0,0,10) else (if below then -tv 0 (a++b) else tv 0 (a++b),b.length,0))):=by
  unfold z59.j16
  simp only [e1,Zi,h1,h2,Zc]
  by_cases h64:64<b.length
  ·rw [bif_t (by omega),if_pos h64,Ja]
  ·rw [Qb (by omega),if_neg h64,if_pos (by omega)]
   have et:z4.F (a++b) [48]=some (trimL (a++b) [48]):=by unfold z4.F;rw [if_pos ⟨by decide,by decide⟩]
   rw [et]
   simp only [Zb]
   have ep:=Qll hab hln
   have fin:∀x,z57.F x=some (lb (tv 0 (a++b)).toNat,0)->z59.j18 x (rest,below) (a.length:Int)=some (decR (if below then -tv 0 (a++b) else tv 0 (a++b),b.length,0)):=λx hx=>by
    unfold z59.j18
    rw [hx]
    simp only [Zb,e1,h2]
    rw [Qma _ (Qa0 hab).1]
    rfl
   by_cases ht:trimL (a++b) [48]=[]
   ·rw [if_pos ht] at ep
    rw [bif_t ht];exact fin _ ep
   ·rw [if_neg ht] at ep
    rw [Qb ht];exact fin _ ep
 unfold z59.j14
 simp only [e1,Zi,h1,h2]
 cases lead with
 |true=>simp only [Zd,if_true];rw [Ja]
 |
  false=>
  simp only [Zc]
  rw [if_neg Bool.false_ne_true]
  cases below with
  |false=>simp only [Zc,Z71];rw [key];rfl
  |
   true=>
   obtain ⟨r,t1,t2⟩:=Qpv (a++b) (by omega)
   simp only [Zd,Z75]
   rw [if_pos (by omega),t1]
   simp only [Zb]
   rw [t2]
   cases hz:zeros (a++b) with
   |true=>unfold z59.j16;simp only [Zd,if_true];rw [Ja]
   |false=>rw [key];rfl
theorem Qte {a:J1} {below lead:Bool} (ha:Q1 a) (hl:a.length<=4096) :
  z59.j22 lead (a,below)=some (decR (if lead then (0,0,5) else if below&&zeros a then (0,0,5) else (if below then -tv 0 a else tv 0 a,0,0))):=by
 have key:z59.j24 (a,below)=some (decR (if below then -tv 0 a else tv 0 a,0,0)):=by
  unfold z59.j24
  simp only [Z39]
  rw [if_pos (by simp;omega)]
  have et:z4.F a [48]=some (trimL a [48]):=by unfold z4.F;rw [if_pos ⟨by decide,by decide⟩]
  rw [et]
  simp only [Zb]
  have ep:=Qll ha hl
  have fin:∀x,z57.F x=some (lb (tv 0 a).toNat,0)->z59.j26 x (a,below)=some (decR (if below then -tv 0 a else tv 0 a,0,0)):=λx hx=>by
   unfold z59.j26
   rw [hx]
   simp only [Zb]
   rw [Qma _ (Qa0 ha).1]
   rfl
  by_cases ht:trimL a [48]=[]
  ·rw [if_pos ht] at ep
   rw [bif_t ht];exact fin _ ep
  ·rw [if_neg ht] at ep
   rw [Qb ht];exact fin _ ep
 unfold z59.j22
 simp only [Z39]
 cases lead with
 |true=>simp only [Zd,if_true];rw [Ja]
 |
  false=>
  simp only [Zc]
  rw [if_neg Bool.false_ne_true]
  cases below with
  |false=>simp only [Zc,Z71];rw [key];rfl
  |
   true=>
   obtain ⟨r,t1,t2⟩:=Qpv a (by omega)
   simp only [Zd,Z75]
   rw [if_pos (by simp;omega),t1]
   simp only [Zb]
   rw [t2]
   cases hz:zeros a with
   |true=>simp only [Zd,if_true];rw [Ja]
   |false=>simp only [Zc];rw [key];rfl
theorem Qc4 {s:J1} (h:plainB s=true):Q1 s/\s≠[]:=by
 unfold plainB at h
 rw [Z7] at h
 exact ⟨Qa2.1 h.2,by simpa using h.1⟩
theorem Qn8 {a:J1} (hne:a≠[]) {α:Type} (f:Bool->Option α) :
  (bif decide ((a.length:Int)>1) then (if (0:Int)<=(0:Int)/\(0:Int)<(a.length:Int) then f (decide (((a.getD 0 0).toNat:Int)=(48:Int))) else none) else f false)=f (decide (1<a.length)&&decide ((a.getD 0 0).toNat=48)):=by
 have hpos:=List.length_pos_iff.2 hne
 by_cases h:1<a.length
 ·rw [bif_t (by omega),if_pos (by omega),Zt h,Z75]
  congr 1;exact decide_eq_decide.2 (by omega)
 ·rw [Qb (by omega),Zf h,Z71]
theorem dec_Parse (s:J1):z59.F s=some (decR (mDec s)):=by
 unfold z59.F mDec
 by_cases h0:4096<s.length
 ·rw [bif_t (by omega),if_pos h0,Ja]
 ·rw [Qb (by omega),if_neg h0,Qk0]
  simp only [Zb]
  have hlen:=Qj3 s
  generalize cutNeg s=c at *
  obtain ⟨rest,below⟩:=c
  simp only at hlen ⊢
  have hp0:z58.F ([]:J1)=some false:=rfl
  by_cases hdot:([46]:J1)=rest
  ·subst hdot
   rw [bif_t rfl]
   simp only [Z35,List.take_zero,hp0,Zb]
   unfold z59.j4
   simp only [Zo,Zd]
   have:Qa7 below (cutDot [46]).1 (cutDot [46]).2=(0,0,5):=by simp [cutDot,Qa7,plainB]
   rw [this,Ja]
   rfl
  ·rw [Qb hdot,if_pos (by simp)]
   have hi:z2.F rest ((([46]:J1).getD 0 0).toNat:Int)=some (Jc rest 46):=rfl
   rw [hi]
   simp only [Zb]
   rw [Qpz]
   cases ho:(cutDot rest).2 with
   |
    none=>
    have ha:=Qh3 ho
    rw [if_pos rfl,Qb (by omega),ha,dec_plain _ (by omega)]
    simp only [Zb]
    unfold Qa7
    simp only [Option.isSome_none,Z71,Bool.or_false,Option.getD_none,Z39,Z54]
    cases hpl:plainB rest with
    |false=>unfold z59.j22;simp only [Zo,Zd,Bool.true_or,if_true];rw [Ja]
    |
     true=>
     obtain ⟨hd,hne⟩:=Qc4 hpl
     simp only [Zn,Zc,Bool.false_or]
     rw [Qn8 hne λb=>z59.j22 b (rest,below),Qte hd (by omega)]
     rfl
   |
    some b=>
    have hab:=Qii ho
    generalize (cutDot rest).1=a at *
    have hl:rest.length=a.length+(b.length+1):=by rw [hab];simp
    have t1:rest.take a.length=a:=by rw [hab];simp
    have t2:rest.drop (a.length+1)=b:=by
     rw [hab,<-Z100];simp
    have e1:(wr .i64 ((a.length:Int)+1))=((a.length+1:Nat):Int):=by rw [Qe (by omega) (by omega)];omega
    rw [if_neg (by simp),bif_t (by omega),if_pos (by omega)]
    simp only [e1,Zi,t1,t2]
    rw [if_pos (by omega),dec_plain a (by omega)]
    simp only [Zb]
    unfold Qa7
    simp only [Option.isSome_some,Z75,Z51]
    cases hpl:plainB a with
    |false=>unfold z59.j14;simp only [Zo,Zd,Bool.true_or,if_true];rw [Ja]
    |
     true=>
     obtain ⟨hd,hne⟩:=Qc4 hpl
     simp only [Zn,Zc,Bool.false_or]
     rw [dec_plain b (by omega)]
     simp only [Zb]
     cases hpb:plainB b with
     |false=>unfold z59.j14;simp only [Zo,Zd,Bool.true_or,if_true];rw [Ja]
     |
      true=>
      obtain ⟨hdb,hneb⟩:=Qc4 hpb
      simp only [Zn,Zc,Bool.false_or]
      rw [Qn8 hne λx=>z59.j14 x (rest,below) (a.length:Int),Qwt t1 t2 hd hdb (by omega)]
end Go.Proofs.YtihfdjkjpncjfaaGreatDoor.A
end
