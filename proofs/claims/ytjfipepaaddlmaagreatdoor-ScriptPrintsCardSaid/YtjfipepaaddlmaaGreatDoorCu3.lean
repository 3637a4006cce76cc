/- Part 3 of the proof of ScriptPrints.card. -/
import Derived.Test.YtjfipepaaddlmaaGreatDoorCu2
import Derived.Test.YtjfipepaaddlmaaGreatDoorRows
import Derived.WalkKit
import Derived.ProofKit
import Derived.OpenShut
import Derived.Carry
import Derived.ChangeSame
import Derived.Deep.Slices
import Derived.Test.YtjfipepaaddlmaaGreatDoorCards
import Derived.Test.YtjfipepaaddlmaaGreatDoorTie
import Derived.KernelRfl
import Derived.JoinedCond
set_option linter.unusedVariables false
set_option linter.unusedSimpArgs false
section
set_option maxRecDepth 100000
namespace Go.Proofs.YtjfipepaaddlmaaGreatDoor.A
open Go
noncomputable section
def z13.l0sh:Env×Store:=(.undef :: .undef::(.ptr 0 0)::(.ptr 1 0)::(.int .i64 0) :: .undef::(.int .i64 0)::un 33 [],[(.cells 37 [(.ints false .u64 [])]),(.cells 37 [(.ints false .u64 [])])])
def z13.l0so1:Env×Store:=(un 4 ((.int .i64 0)::un 35 []),[(.cells 37 [(.ints false .u64 [])]),(.cells 37 [(.ints false .u64 [])])])
def z13.l0out0 (a b:Int) (c d:J0) (o:Int):X×Env×Store:=((.exit 0),Qa z13.l0sh [.i a,.i o,.li c,.li d])
def z13.l0out1 (a b:Int) (c d:J0) (o:Int):X×Env×Store:=(.ret,Qa z13.l0so1 [.i o,.li c,.li d])
def z13.l0pack:List Leaf->Option LPack
 |[.i a,.i b,.li c,.li d]=>some (.two _ _ (z13.l0 c d b) (z13.l0out0 a b c d) (z13.l0out1 a b c d))
 |_=>none
def z13.C:Ctx where
 T:=tab
 draws:=λf i=>match f,i with|105,7=>([(27,[(2,0)],0),(28,[(26,1)],1),(29,[(6,0)],0),(30,[(27,2),(28,3)],7),(31,[(29,4)],15),(32,[(3,0)],0),(33,[(31,6)],32),(34,[(6,0)],0),(35,[(32,7),(33,8)],224),(36,[(34,9)],480),(37,[(30,5),(35,10)],1023),(8,[(36,11)],2047)],137371844736)|_,_=>([],0)
 call:=Qh [(153,z10.pack),(154,z12.pack)]
 keep:=λf i=>match f,i with|105,0=>([2,3,4,6],[0,1],[])|_,_=>([],[],[])
 keepR:=λf i=>match f,i with|105,0=>([4],[0,1],[4])|_,_=>([],[],[])
 L:=λf i b st=>match f,i,b with|105,0,0=>(matchSt z13.l0sh st).bind z13.l0pack|_,_,_=>none
theorem z13.l0_link (R:Type) (k:Env×Store->Option R) (d:X×Env×Store->Option R) (a b:Int) (c e:J0) :
  z13.C.loopP 105 0 (Qf 0 (ifun Tryz.f105).body) 2 k d (Qa z13.l0sh [.i a,.i b,.li c,.li e]) =
  z13.l0P c e (λx'=>k (Qa z13.l0sh [.i a,.i x',.li c,.li e])) (λo=>match o with | .inl o=>d (z13.l0out0 a b c e o) | .inr o=>d (z13.l0out1 a b c e o)) b:=by kernel_rfl
theorem z13.link (a0 a1:J0):z13.C.evTop 105 (ifun Tryz.f105) [(.agg [(.ints false .u64 a0)]),(.agg [(.ints false .u64 a1)])] z29.dec=z13.F a0 a1:=by kernel_rfl
def z16.C:Ctx where
 T:=tab
 prim:=λg=>match g with|157=>some (cloneP (.ints true .u64 []) 183 8)|_=>none
def z16.dec:V->Option (J0)
 |(.ints _ .u64 x0)=>some x0
 |_=>none
theorem z16.link (a0:J0):z16.C.evTop 109 (ifun Tryz.f109) [(.agg [(.ints false .u64 a0)])] z16.dec=z16.F a0:=by kernel_rfl
def z17.C:Ctx where
 T:=tab
theorem z17.link (a0:Int):z17.C.evTop 232 (ifun Tryz.f232) [(.int .u64 a0)] z29.dec=z17.F a0:=by kernel_rfl
def z25.C:Ctx where
 T:=tab
 draws:=λf i=>match f,i with|107,4=>([(22,[],0),(23,[(2,0)],0),(0,[(4,0),(21,1)],1),(0,[(5,0),(22,2)],7),(7,[],15)],6291520)|107,5=>([(24,[(2,0)],0),(25,[(23,1)],1),(26,[(3,0)],0),(27,[(25,3)],7),(8,[(24,2)],15),(9,[(26,4)],31)],125829504)|_,_=>([],0)
 call:=Qh [(60,z8.pack),(105,z13.pack),(109,z16.pack),(155,z20.pack),(108,z15.pack),(156,z24.pack)]
def z25.dec:V->Option (J0×J0×Int)
 |(.tup [(.agg [(.ints _ .u64 x0)]),(.agg [(.ints _ .u64 x1)]),(.int .i64 x2)])=>some (x0,x1,x2)
 |_=>none
theorem z25.link (a0 a1:J0):z25.C.evTop 107 (ifun Tryz.f107) [(.agg [(.ints false .u64 a0)]),(.agg [(.ints false .u64 a1)])] z25.dec=z25.F a0 a1:=by kernel_rfl
def z26.l0sh:Env×Store:=((.int .u64 0)::(.int .i64 0) :: .undef :: .undef::(.str ([]:J1))::(.ptr 0 0)::(.int .i64 0)::un 21 [],[(.arr 0 false 244 (.ints false .u8 []))])
def z26.l0out0 (a b:Int) (c:J1) (d:Int) (e:J0) (o:Int×Int×J0):X×Env×Store:=((.exit 0),Qa z26.l0sh [.i o.1,.i b,.s c,.i o.2.1,.li o.2.2])
def z26.l0pack:List Leaf->Option LPack
 |[.i a,.i b,.s c,.i d,.li e]=>some (.one _ (z26.l0 b (a,d,e)) (z26.l0out0 a b c d e))
 |_=>none
def z26.C:Ctx where
 T:=tab
 keep:=λf i=>match f,i with|110,0=>([0,1,4,5,6],[0],[])|_,_=>([],[],[])
 keepR:=λf i=>match f,i with|110,0=>([4],[0],[4])|_,_=>([],[],[])
 L:=λf i b st=>match f,i,b with|110,0,0=>(matchSt z26.l0sh st).bind z26.l0pack|_,_,_=>none
theorem z26.l0_link (R:Type) (k:Env×Store->Option R) (d:X×Env×Store->Option R) (a b:Int) (c:J1) (e:Int) (g:J0) :
  z26.C.loopP 110 0 (Qf 0 (ifun Tryz.f110).body) 1 k d (Qa z26.l0sh [.i a,.i b,.s c,.i e,.li g]) =
  z26.l0P b (λx'=>k (Qa z26.l0sh [.i x'.1,.i b,.s c,.i x'.2.1,.li x'.2.2])) (λo=>d (z26.l0out0 a b c e g o)) (a,e,g):=by kernel_rfl
theorem z26.link (a0 a1:Int):z26.C.evTop 110 (ifun Tryz.f110) [(.int .u64 a0),(.int .i64 a1)] z103.dec=z26.F a0 a1:=by kernel_rfl
def z28.C:Ctx where
 T:=tab
 call:=Qh [(55,z27.pack)]
theorem z28.link (a0:J0) (a1:Bool):z28.C.evTop 13 (ifun Tryz.f13) [(.agg [(.ints false .u64 a0),(.bool a1)])] z103.dec=z28.F a0 a1:=by kernel_rfl
def z33.C:Ctx where
 T:=tab
 call:=Qh [(204,z32.pack)]
theorem z33.link (a0 a1:J1):z33.C.evTop 161 (ifun Tryz.f161) [(.str a0),(.str a1)] z32.dec=z33.F a0 a1:=by kernel_rfl
def z36.l0ash:Env×Store:=(.undef::(.int .u64 0)::(.sview 3 0 0 0)::(.ptr 4 0) :: .undef :: .undef::(.int .u64 0)::un 6 ((.ints false .u64 [])::(.int .i64 0)::(.int .i64 0)::un 44 []),[(.cells 37 [(.ints false .u64 [])]),.dead,(.cells 37 [(.ints false .u64 [])]),(.arr 0 false 183 (.ints false .u64 [])),(.cells 37 [(.ints false .u64 [])])])
def z36.l0aout0 (a:Int) (b c:Nat) (d:Int) (e:J0) (g h:Int) (j k m p:J0) (o:Int×Int×J0):X×Env×Store:=((.exit 0),Qa z36.l0ash [.i a,.n b,.n c,.i o.1,.li e,.i g,.i o.2.1,.li j,.li k,.li o.2.2,.li p])
def z36.l0apack:List Leaf->Option LPack
 |[.i a,.n b,.n c,.i d,.li e,.i g,.i h,.li j,.li k,.li m,.li o]=>some (.one _ (z36.l0a a b c e g (d,h,m)) (z36.l0aout0 a b c d e g h j k m o))
 |_=>none
def z36.l0sh:Env×Store:=(.undef :: .undef::(.ptr 0 0) :: .undef::(.ptr 2 0)::(.sref 3 0)::un 12 ((.ints false .u64 [])::(.int .i64 0)::(.int .i64 0)::un 13 []),[(.cells 37 [(.ints false .u64 [])]),.dead,(.cells 37 [(.ints false .u64 [])]),(.arr 0 false 183 (.ints false .u64 []))])
def z36.l0out0 (a:J0) (b c:Int) (d e g:J0) (o:Int×J0):X×Env×Store:=((.exit 0),Qa z36.l0sh [.li a,.i b,.i o.1,.li d,.li e,.li o.2])
def z36.l0pack:List Leaf->Option LPack
 |[.li a,.i b,.i c,.li d,.li e,.li g]=>some (.one _ (z36.l0 a b d (c,g)) (z36.l0out0 a b c d e g))
 |_=>none
def z36.C:Ctx where
 T:=tab
 draws:=λf i=>match f,i with|206,5=>([(26,[(2,0)],0),(27,[(7,0)],0),(28,[(5,0)],0),(29,[(6,0)],0),(30,[(27,3),(28,4)],12),(31,[(25,1),(26,2),(29,5)],31)],2113929216)|_,_=>([],0)
 call:=Qh [(145,z21.pack),(102,z0.pack),(104,z14.pack)]
 inl:=λg=>match g with|237=>some (ifun Tryz.f237)|_=>none
 keep:=λf i=>match f,i with|237,0=>([1,2,3,6,13,14,15],List.range 64,[])|206,0=>([2,4,5,18,19,20],[0,2,3],[])|_,_=>([],[],[])
 keepR:=λf i=>match f,i with|237,0=>([],List.range 64,[])|206,0=>([4],[0,2,3],[4])|_,_=>([],[],[])
 L:=λf i b st=>match f,i,b with|237,0,4=>(matchSt z36.l0ash st).bind z36.l0apack|206,0,0=>(matchSt z36.l0sh st).bind z36.l0pack|_,_,_=>none
theorem z36.l0a_link (R:Type) (k:Env×Store->Option R) (d:X×Env×Store->Option R) (a:Int) (b c:Nat) (e:Int) (g:J0) (h j:Int) (m p q r:J0) :
  z36.C.loopPI (z36.C.inlK 0) 237 0 4 (Qf 0 (ifun Tryz.f237).body) 5 k d (Qa z36.l0ash [.i a,.n b,.n c,.i e,.li g,.i h,.i j,.li m,.li p,.li q,.li r]) =
  z36.l0aP a b c g h (λx'=>k (Qa z36.l0ash [.i a,.n b,.n c,.i x'.1,.li g,.i h,.i x'.2.1,.li m,.li p,.li x'.2.2,.li r])) (λo=>d (z36.l0aout0 a b c e g h j m p q r o)) (e,j,q):=by kernel_rfl
theorem z36.l0_link (R:Type) (k:Env×Store->Option R) (d:X×Env×Store->Option R) (a:J0) (b c:Int) (e g h:J0) :
  z36.C.loopP 206 0 (Qf 0 (ifun Tryz.f206).body) 4 k d (Qa z36.l0sh [.li a,.i b,.i c,.li e,.li g,.li h]) =
  z36.l0P a b e (λx'=>k (Qa z36.l0sh [.li a,.i b,.i x'.1,.li e,.li g,.li x'.2])) (λo=>d (z36.l0out0 a b c e g h o)) (c,h):=by kernel_rfl
theorem z36.link (a0 a1:J0):z36.C.evTop 206 (ifun Tryz.f206) [(.agg [(.ints false .u64 a0)]),(.agg [(.ints false .u64 a1)])] z15.dec=z36.F a0 a1:=by kernel_rfl
def z39.l0sh:Env×Store:=(.undef :: .undef::(.ptr 0 0)::(.ptr 1 0)::(.ptr 2 0)::(.bool false)::(.sref 3 0)::(.int .u64 0)::un 11 ((.int .i64 0)::(.int .i64 0)::un 21 []),[(.cells 37 [(.ints false .u64 [])]),(.cells 37 [(.ints false .u64 [])]),(.cells 37 [(.ints false .u64 [])]),(.arr 0 false 183 (.ints false .u64 []))])
def z39.l0out0 (a:Bool) (c d e:Int) (g h j k:J0) (o:Int×Int×J0):X×Env×Store:=((.exit 0),Qa z39.l0sh [.b a,.i o.1,.i d,.i o.2.1,.li g,.li h,.li j,.li o.2.2])
def z39.l0pack:List Leaf->Option LPack
 |[.b a,.i c,.i d,.i e,.li g,.li h,.li j,.li k]=>some (.one _ (z39.l0 d g h (c,e,k)) (z39.l0out0 a c d e g h j k))
 |_=>none
def z39.C:Ctx where
 T:=tab
 draws:=λf i=>match f,i with|54,8=>([(25,[(6,0)],0),(26,[(8,0)],0),(27,[(2,0)],0),(28,[(26,3)],4),(29,[(8,0)],0),(30,[(27,4),(28,5)],28),(31,[(29,6)],60),(32,[(3,0)],0),(33,[(8,0)],0),(34,[(31,8),(32,9)],384),(35,[(7,18)],0),(36,[(30,7),(33,10),(34,11)],2044),(24,[(35,12)],4092),(37,[(23,13)],8188),(38,[(23,13)],8188),(39,[(24,1),(25,2)],16383),(0,[(38,16),(36,14)],49151),(8,[(37,15)],131071)],549747425408)|_,_=>([],0)
 call:=Qh [(105,z13.pack),(103,z34.pack),(106,z1.pack),(104,z14.pack)]
 keep:=λf i=>match f,i with|54,0=>([2,3,4,5,6,7,19,20],[0,1,2,3],[])|_,_=>([],[],[])
 keepR:=λf i=>match f,i with|54,0=>([4,5],[0,1,2,3],[4,5])|_,_=>([],[],[])
 L:=λf i b st=>match f,i,b with|54,0,0=>(matchSt z39.l0sh st).bind z39.l0pack|_,_,_=>none
def z39.dec:V->Option (J0×Bool)
 |(.tup [(.agg [(.ints _ .u64 x0)]),(.bool x1)])=>some (x0,x1)
 |_=>none
theorem z39.l0_link (R:Type) (k:Env×Store->Option R) (d:X×Env×Store->Option R) (a:Bool) (c e g:Int) (h j m n:J0) :
  z39.C.loopP 54 0 (Qf 0 (ifun Tryz.f54).body) 4 k d (Qa z39.l0sh [.b a,.i c,.i e,.i g,.li h,.li j,.li m,.li n]) =
  z39.l0P e h j (λx'=>k (Qa z39.l0sh [.b a,.i x'.1,.i e,.i x'.2.1,.li h,.li j,.li m,.li x'.2.2])) (λo=>d (z39.l0out0 a c e g h j m n o)) (c,g,n):=by kernel_rfl
theorem z39.link (a0 a1:J0):z39.C.evTop 54 (ifun Tryz.f54) [(.agg [(.ints false .u64 a0)]),(.agg [(.ints false .u64 a1)])] z39.dec=z39.F a0 a1:=by kernel_rfl
def z52.C:Ctx where
 T:=tab
 call:=Qh [(224,z51.pack)]
theorem z52.link (a0:J0) (a1:Bool) (a2:Int):z52.C.evTop 180 (ifun Tryz.f180) [(.agg [(.ints false .u64 a0),(.bool a1)]),(.int .i64 a2)] z50.dec=z52.F a0 a1 a2:=by kernel_rfl
def z55.C:Ctx where
 T:=tab
 call:=Qh [(108,z15.pack),(52,z30.pack)]
theorem z55.link (a0:Int):z55.C.evTop 219 (ifun Tryz.f219) [(.int .i64 a0)] z40.dec=z55.F a0:=by kernel_rfl
def z56.C:Ctx where
 T:=tab
 call:=Qh [(252,z45.pack),(52,z30.pack)]
theorem z56.link (a0:Int):z56.C.evTop 245 (ifun Tryz.f245) [(.int .i64 a0)] z40.dec=z56.F a0:=by kernel_rfl
def z58.C:Ctx where
 T:=tab
 draws:=λf i=>match f,i with|243,1=>([(6,[(2,0)],0),(7,[(5,1)],1),(8,[(1,0)],0),(9,[(2,0)],0),(10,[(8,4)],8),(11,[(7,3),(9,5)],28),(12,[(10,6)],60),(13,[(6,2),(11,7)],127),(0,[(4,0),(12,8)],255)],8160)|_,_=>([],0)
 call:=Qh [(245,z56.pack),(246,z57.pack)]
theorem z58.link (a0:J0) (a1:Bool) (a2 a3:Int):z58.C.evTop 243 (ifun Tryz.f243) [(.agg [(.ints false .u64 a0),(.bool a1),(.int .i64 a2)]),(.int .i64 a3)] z40.dec=z58.F a0 a1 a2 a3:=by kernel_rfl
def z65.C:Ctx where
 T:=tab
 draws:=λf i=>match f,i with|255,1=>([(4,[(1,0)],0),(5,[(3,1)],1),(6,[],0),(7,[(5,3)],4),(8,[(4,2),(6,4)],15),(0,[(2,0),(7,5)],31)],248)|_,_=>([],0)
 call:=Qh [(108,z15.pack),(53,z35.pack)]
theorem z65.link (a0:J0) (a1:Bool) (a2:J0):z65.C.evTop 255 (ifun Tryz.f255) [(.agg [(.ints false .u64 a0),(.bool a1),(.ints false .u64 a2)])] z15.dec=z65.F a0 a1 a2:=by kernel_rfl
def z70.C:Ctx where
 T:=tab
 call:=Qh [(176,z48.pack),(177,z69.pack)]
theorem z70.link (a0 a1 a2 a3:Int) (a4:J1):z70.C.evTop 134 (ifun Tryz.f134) [(.agg [(.int .i64 a0),(.int .i64 a1),(.int .i64 a2),(.int .i64 a3),(.str a4)])] z29.dec=z70.F a0 a1 a2 a3 a4:=by kernel_rfl
def z72.C:Ctx where
 T:=tab
 call:=Qh [(134,z70.pack),(174,z71.pack),(13,z28.pack)]
 prim:=λg=>match g with|121=>some (blkP [139] z7.pk)|_=>none
def z72.dec:V->J2->Option (Int×J2×Int×Int×Int×Int×Int×Int×J1)
 |(.int .i64 x0),[[(.recs _ 3 x1),(.int .i64 x2),(.int .i64 x3)],[(.int .i64 x4),(.int .i64 x5),(.int .i64 x6),(.int .i64 x7),(.str x8)]]=>some (x0,x1,x2,x3,x4,x5,x6,x7,x8)
 |_,_=>none
theorem z72.link (a0:J2) (a1 a2 a3 a4 a5 a6:Int) (a7:J1):z72.C.evBlk 125 (ifun Tryz.f125) [139,70] [[(.recs false 3 a0),(.int .i64 a1),(.int .i64 a2)],[(.int .i64 a3),(.int .i64 a4),(.int .i64 a5),(.int .i64 a6),(.str a7)]] [] z72.dec=z72.F a0 a1 a2 a3 a4 a5 a6 a7:=by kernel_rfl
def z77.C:Ctx where
 T:=tab
theorem z77.link (a0:Int):z77.C.evTop 216 (ifun Tryz.f216) [(.int .i64 a0)] z8.dec=z77.F a0:=by kernel_rfl
def z78.C:Ctx where
 T:=tab
 call:=Qh [(216,z77.pack)]
theorem z78.link (a0:Int):z78.C.evTop 217 (ifun Tryz.f217) [(.int .i64 a0)] z8.dec=z78.F a0:=by kernel_rfl
def z83.C:Ctx where
 T:=tab
 draws:=λf i=>match f,i with|71,4=>([(19,[],0),(20,[(6,0)],0),(21,[(19,2)],2),(22,[(18,1),(20,3)],7),(23,[(21,4)],15),(8,[],0),(0,[(7,6),(22,5)],63)],8126592)|_,_=>([],0)
 call:=Qh [(123,z76.pack),(122,z75.pack),(124,z82.pack),(115,z74.pack)]
 prim:=λg=>match g with|121=>some (blkP [139] z7.pk)|125=>some (blkP [139,70] z72.pk)|_=>none
def z83.dec:V->J2->Option (Int×Int×Int×Int×J1×Int×J2×Int×Int)
 |(.tup [(.agg [(.int .i64 x0),(.int .i64 x1),(.int .i64 x2),(.int .i64 x3),(.str x4)]),(.int .i64 x5)]),[[(.recs _ 3 x6),(.int .i64 x7),(.int .i64 x8)]]=>some (x0,x1,x2,x3,x4,x5,x6,x7,x8)
 |_,_=>none
theorem z83.link (a0:J2) (a1 a2 a3 a4 a5:Int):z83.C.evBlk 71 (ifun Tryz.f71) [139] [[(.recs false 3 a0),(.int .i64 a1),(.int .i64 a2)]] [(.agg [(.int .i64 a3),(.int .i64 a4),(.int .i64 a5)])] z83.dec=z83.F a0 a1 a2 a3 a4 a5:=by kernel_rfl
def z84.C:Ctx where
 T:=tab
 call:=Qh [(91,z31.pack)]
theorem z84.link (a0 a1:J1):z84.C.evTop 43 (ifun Tryz.f43) [(.str a0),(.str a1)] z8.dec=z84.F a0 a1:=by kernel_rfl
def z89.C:Ctx where
 T:=tab
 call:=Qh [(165,z87.pack),(168,z88.pack)]
theorem z89.link (a0:Int):z89.C.evTop 167 (ifun Tryz.f167) [(.int .i32 a0)] z8.dec=z89.F a0:=by kernel_rfl
def z90.C:Ctx where
 T:=tab
 call:=Qh [(168,z88.pack)]
theorem z90.link (a0:Int):z90.C.evTop 169 (ifun Tryz.f169) [(.int .i32 a0)] z8.dec=z90.F a0:=by kernel_rfl
def z91.l0sh:Env×Store:=((.str ([]:J1)) :: .undef::(.bool false)::un 5 ((.ptr 0 0)::un 25 []),[(.siter ([]:J1) 0)])
def z91.l0so0:Env×Store:=(.undef :: .undef::(.bool false)::un 31 [],[(.siter ([]:J1) 0)])
def z91.l0out0 (a:J1) (c:Bool) (d:J1) (e:Nat) (o:Bool×Nat):X×Env×Store:=(.ret,Qa z91.l0so0 [.b o.1,.s d,.n o.2])
def z91.l0out1 (a:J1) (c:Bool) (d:J1) (e o:Nat):X×Env×Store:=((.exit 0),Qa z91.l0sh [.s a,.b c,.s d,.n o])
def z91.l0pack:List Leaf->Option LPack
 |[.s a,.b c,.s d,.n e]=>some (.two _ _ (z91.l0 a d e) (z91.l0out0 a c d e) (z91.l0out1 a c d e))
 |_=>none
def z91.C:Ctx where
 T:=tab
 draws:=λf i=>match f,i with|170,6=>([(14,[(4,0)],0),(15,[(13,1)],1),(16,[(0,0)],0),(17,[(3,0)],0),(18,[(15,3),(16,4)],12),(19,[(17,5)],28),(20,[(18,6)],63),(21,[(14,2),(19,7)],127),(22,[(20,8)],255),(23,[(4,0),(21,9)],511),(24,[(22,10),(21,9)],1023),(25,[(23,11),(21,9)],2047),(26,[(24,12),(21,9)],4095),(27,[(4,0),(25,13)],8191),(28,[(26,14),(25,13)],16383),(29,[(0,0),(25,13)],8191),(30,[(3,0),(25,13)],8191),(31,[(28,16),(29,17),(25,13)],106495),(32,[(27,15),(30,18),(25,13)],262143),(33,[(25,13),(31,19),(21,9)],524287),(34,[(21,9),(32,20)],1048575)],17179860992)|_,_=>([],0)
 call:=Qh [(168,z88.pack)]
 keep:=λf i=>match f,i with|170,0=>([0,2,8],[0],[])|_,_=>([],[],[])
 keepR:=λf i=>match f,i with|170,0=>([2],[0],[2])|_,_=>([],[],[])
 L:=λf i b st=>match f,i,b with|170,0,0=>(matchSt z91.l0sh st).bind z91.l0pack|_,_,_=>none
theorem z91.l0_link (R:Type) (k:Env×Store->Option R) (d:X×Env×Store->Option R) (a:J1) (c:Bool) (e:J1) (g:Nat) :
  z91.C.loopP 170 0 (Qf 0 (ifun Tryz.f170).body) 1 k d (Qa z91.l0sh [.s a,.b c,.s e,.n g]) =
  z91.l0P a e (λx'=>k (Qa z91.l0sh [.s a,.b c,.s e,.n x'])) (λo=>match o with | .inl o=>d (z91.l0out0 a c e g o) | .inr o=>d (z91.l0out1 a c e g o)) g:=by kernel_rfl
theorem z91.link (a0:J1):z91.C.evTop 170 (ifun Tryz.f170) [(.str a0)] z8.dec=z91.F a0:=by kernel_rfl
def z95.l0sh:Env×Store:=((.str ([]:J1))::(.func 167 []) :: .undef :: .undef::(.str ([]:J1))::un 3 ((.ptr 1 0)::un 12 []),[(.cells 142 [(.int .i64 0),(.str ([]:J1)),(.int .i64 0)]),(.siter ([]:J1) 0)])
def z95.l0so0:Env×Store:=(un 4 ((.str ([]:J1))::un 16 []),[(.cells 142 [(.int .i64 0),(.str ([]:J1)),(.int .i64 0)]),(.siter ([]:J1) 0)])
def z95.l0out0 (a b:J1) (c:Int) (d:J1) (e:Int) (g:J1) (h:Nat) (o:J1×Nat):X×Env×Store:=(.ret,Qa z95.l0so0 [.s o.1,.i c,.s d,.i e,.s g,.n o.2])
def z95.l0out1 (a b:J1) (c:Int) (d:J1) (e:Int) (g:J1) (h o:Nat):X×Env×Store:=((.exit 0),Qa z95.l0sh [.s a,.s b,.i c,.s d,.i e,.s g,.n o])
def z95.l0pack:List Leaf->Option LPack
 |[.s a,.s b,.i c,.s d,.i e,.s g,.n h]=>some (.two _ _ (z95.l0 a g h) (z95.l0out0 a b c d e g h) (z95.l0out1 a b c d e g h))
 |_=>none
def z95.l0ash:Env×Store:=((.str ([]:J1))::(.func 169 []) :: .undef :: .undef::(.str ([]:J1))::un 3 ((.ptr 1 0)::un 12 []),[(.cells 142 [(.int .i64 0),(.str ([]:J1)),(.int .i64 0)]),(.siter ([]:J1) 0)])
def z95.l0aso0:Env×Store:=(un 4 ((.str ([]:J1))::un 16 []),[(.cells 142 [(.int .i64 0),(.str ([]:J1)),(.int .i64 0)]),(.siter ([]:J1) 0)])
def z95.l0aout0 (a b:J1) (c:Int) (d:J1) (e:Int) (g:J1) (h:Nat) (o:J1×Nat):X×Env×Store:=(.ret,Qa z95.l0aso0 [.s o.1,.i c,.s d,.i e,.s g,.n o.2])
def z95.l0aout1 (a b:J1) (c:Int) (d:J1) (e:Int) (g:J1) (h o:Nat):X×Env×Store:=((.exit 0),Qa z95.l0ash [.s a,.s b,.i c,.s d,.i e,.s g,.n o])
def z95.l0apack:List Leaf->Option LPack
 |[.s a,.s b,.i c,.s d,.i e,.s g,.n h]=>some (.two _ _ (z95.l0a a g h) (z95.l0aout0 a b c d e g h) (z95.l0aout1 a b c d e g h))
 |_=>none
def z95.C:Ctx where
 T:=tab
 call:=Qh [(165,z87.pack),(167,z89.pack),(168,z88.pack),(169,z90.pack),(170,z91.pack),(171,z50.pack),(172,z94.pack)]
 inl:=λg=>match g with|166=>some (ifun Tryz.f166)|_=>none
 keep:=λf i=>match f,i with|166,0=>([0,1,4,8],List.range 64,[])|_,_=>([],[],[])
 keepR:=λf i=>match f,i with|166,0=>([4],List.range 64,[])|_,_=>([],[],[])
 L:=λf i b st=>match f,i,b with|166,0,1=>(orP ((matchSt z95.l0sh st).bind z95.l0pack) ((matchSt z95.l0ash st).bind z95.l0apack))|_,_,_=>none
def z95.dec:V->Option (Int×J1×Int×Int)
 |(.tup [(.agg [(.int .i64 x0),(.str x1),(.int .i64 x2)]),(.int .i64 x3)])=>some (x0,x1,x2,x3)
 |_=>none
theorem z95.l0_link (R:Type) (k:Env×Store->Option R) (d:X×Env×Store->Option R) (a b:J1) (c:Int) (e:J1) (g:Int) (h:J1) (j:Nat) :
  z95.C.loopPI (z95.C.inlK 0) 166 0 1 (Qf 0 (ifun Tryz.f166).body) 2 k d (Qa z95.l0sh [.s a,.s b,.i c,.s e,.i g,.s h,.n j]) =
  z95.l0P a h (λx'=>k (Qa z95.l0sh [.s a,.s b,.i c,.s e,.i g,.s h,.n x'])) (λo=>match o with | .inl o=>d (z95.l0out0 a b c e g h j o) | .inr o=>d (z95.l0out1 a b c e g h j o)) j:=by kernel_rfl
theorem z95.l0a_link (R:Type) (k:Env×Store->Option R) (d:X×Env×Store->Option R) (a b:J1) (c:Int) (e:J1) (g:Int) (h:J1) (j:Nat) :
  z95.C.loopPI (z95.C.inlK 0) 166 0 1 (Qf 0 (ifun Tryz.f166).body) 2 k d (Qa z95.l0ash [.s a,.s b,.i c,.s e,.i g,.s h,.n j]) =
  z95.l0aP a h (λx'=>k (Qa z95.l0ash [.s a,.s b,.i c,.s e,.i g,.s h,.n x'])) (λo=>match o with | .inl o=>d (z95.l0aout0 a b c e g h j o) | .inr o=>d (z95.l0aout1 a b c e g h j o)) j:=by kernel_rfl
theorem z95.link (a0:J1):z95.C.evTop 120 (ifun Tryz.f120) [(.str a0)] z95.dec=z95.F a0:=by kernel_rfl
def z101.l0sh:Env×Store:=(un 4 ((.int .i64 0)::(.ints false .i64 [])::(.ints false .i64 [])::(.int .i64 0)::un 36 []),[.dead,.dead])
def z101.l0so1:Env×Store:=(un 4 ((.int .i64 0)::un 39 []),[.dead,.dead])
def z101.l0out0 (a:Int) (b c:J0) (d o:Int):X×Env×Store:=((.exit 0),Qa z101.l0sh [.i a,.li b,.li c,.i o])
def z101.l0out1 (a:Int) (b c:J0) (d o:Int):X×Env×Store:=(.ret,Qa z101.l0so1 [.i o])
def z101.l0pack:List Leaf->Option LPack
 |[.i a,.li b,.li c,.i d]=>some (.two _ _ (z101.l0 b c d) (z101.l0out0 a b c d) (z101.l0out1 a b c d))
 |_=>none
def z101.C:Ctx where
 T:=tab
 draws:=λf i=>match f,i with|75,6=>([(27,[(5,0)],0),(28,[(7,0)],0),(29,[(26,1),(27,2)],3),(30,[(28,3)],7),(31,[(6,0)],0),(32,[(7,0)],0),(33,[(30,5),(31,6)],48),(34,[(32,7)],112),(35,[(29,4),(33,8)],255)],34292629504)|75,8=>([(36,[(5,0)],0),(37,[(7,0)],0),(38,[(35,1),(36,2)],3),(39,[(37,3)],7),(40,[(6,0)],0),(41,[(7,0)],0),(42,[(39,5),(40,6)],48),(43,[(41,7)],112),(44,[(38,4),(42,8)],255)],17557826306048)|_,_=>([],0)
 keep:=λf i=>match f,i with|75,0=>([4,5,6,7],[],[])|_,_=>([],[],[])
 keepR:=λf i=>match f,i with|75,0=>([4],[],[4])|_,_=>([],[],[])
 L:=λf i b st=>match f,i,b with|75,0,0=>(matchSt z101.l0sh st).bind z101.l0pack|_,_,_=>none
theorem z101.l0_link (R:Type) (k:Env×Store->Option R) (d:X×Env×Store->Option R) (a:Int) (b c:J0) (e:Int) :
  z101.C.loopP 75 0 (Qf 0 (ifun Tryz.f75).body) 2 k d (Qa z101.l0sh [.i a,.li b,.li c,.i e]) =
  z101.l0P b c (λx'=>k (Qa z101.l0sh [.i a,.li b,.li c,.i x'])) (λo=>match o with | .inl o=>d (z101.l0out0 a b c e o) | .inr o=>d (z101.l0out1 a b c e o)) e:=by kernel_rfl
theorem z101.link (a0 a1 a2 a3 a4 a5:Int):z101.C.evTop 75 (ifun Tryz.f75) [(.agg [(.int .i64 a0),(.int .i64 a1),(.int .i64 a2)]),(.agg [(.int .i64 a3),(.int .i64 a4),(.int .i64 a5)])] z29.dec=z101.F a0 a1 a2 a3 a4 a5:=by kernel_rfl
def z105.l0sh:Env×Store:=((.int .i64 0) :: .undef::(.sref 0 0)::(.sref 1 0)::un 10 [],[(.arr 0 true 3 (.ints false .i64 [])),(.arr 0 true 3 (.ints false .i64 []))])
def z105.l0out0 (a:Int) (b c:J0) (o:Int×J0):X×Env×Store:=((.exit 0),Qa z105.l0sh [.i o.1,.li b,.li o.2])
def z105.l0pack:List Leaf->Option LPack
 |[.i a,.li b,.li c]=>some (.one _ (z105.l0 (a,c)) (z105.l0out0 a b c))
 |_=>none
def z105.C:Ctx where
 T:=tab
 keep:=λf i=>match f,i with|97,0=>([0,2,3],[0,1],[])|_,_=>([],[],[])
 keepR:=λf i=>match f,i with|97,0=>([2],[0,1],[2])|_,_=>([],[],[])
 L:=λf i b st=>match f,i,b with|97,0,0=>(matchSt z105.l0sh st).bind z105.l0pack|_,_,_=>none
theorem z105.l0_link (R:Type) (k:Env×Store->Option R) (d:X×Env×Store->Option R) (a:Int) (b c:J0) :
  z105.C.loopP 97 0 (Qf 0 (ifun Tryz.f97).body) 2 k d (Qa z105.l0sh [.i a,.li b,.li c]) =
  z105.l0P (λx'=>k (Qa z105.l0sh [.i x'.1,.li b,.li x'.2])) (λo=>d (z105.l0out0 a b c o)) (a,c):=by kernel_rfl
theorem z105.link (a0:Int):z105.C.evTop 97 (ifun Tryz.f97) [(.int .i64 a0)] z107.dec=z105.F a0:=by kernel_rfl
def z109.C:Ctx where
 T:=tab
 call:=Qh [(111,z108.pack),(69,z104.pack)]
theorem z109.link (a0:J1):z109.C.evTop 57 (ifun Tryz.f57) [(.str a0)] z106.dec=z109.F a0:=by kernel_rfl
def z111.C:Ctx where
 T:=tab
 call:=Qh [(48,z106.pack),(186,z110.pack),(57,z109.pack)]
theorem z111.link (a0:J1):z111.C.evTop 140 (ifun Tryz.f140) [(.str a0)] z122.dec=z111.F a0:=by kernel_rfl
def z118.C:Ctx where
 T:=tab
 call:=Qh [(112,z115.pack),(69,z104.pack),(113,z116.pack),(114,z117.pack)]
theorem z118.link (a0:J0) (a1:Bool) (a2:J0) (a3:Bool):z118.C.evTop 58 (ifun Tryz.f58) [(.agg [(.ints false .i64 a0),(.bool a1)]),(.agg [(.ints false .i64 a2),(.bool a3)])] z106.dec=z118.F a0 a1 a2 a3:=by kernel_rfl
def z119.C:Ctx where
 T:=tab
 call:=Qh [(23,z113.pack),(58,z118.pack)]
theorem z119.link (a0:J0) (a1:Bool) (a2:J0) (a3:Bool):z119.C.evTop 59 (ifun Tryz.f59) [(.agg [(.ints false .i64 a0),(.bool a1)]),(.agg [(.ints false .i64 a2),(.bool a3)])] z106.dec=z119.F a0 a1 a2 a3:=by kernel_rfl
def z124.l2sh:Env×Store:=((.ints false .i64 [])::(.ints false .i64 []) :: .undef :: .undef::(.sref 0 0)::(.sref 1 0)::(.int .i64 0)::(.int .i64 0)::(.int .i64 0)::un 54 [],[(.arr 0 true 3 (.ints false .i64 [])),(.arr 0 false 3 (.ints false .i64 []))])
def z124.l2out0 (a b:J0) (c d e:Int) (g h:J0) (o:Int×Int×J0):X×Env×Store:=((.exit 2),Qa z124.l2sh [.li a,.li b,.i c,.i o.1,.i o.2.1,.li g,.li o.2.2])
def z124.l2pack:List Leaf->Option LPack
 |[.li a,.li b,.i c,.i d,.i e,.li g,.li h]=>some (.one _ (z124.l2 a b c (d,e,h)) (z124.l2out0 a b c d e g h))
 |_=>none
def z124.l0sh:Env×Store:=((.ints false .i64 [])::(.ints false .i64 []) :: .undef :: .undef::(.sref 0 0)::(.sref 1 0)::(.int .i64 0)::un 56 [],[(.arr 0 true 3 (.ints false .i64 [])),(.arr 0 false 3 (.ints false .i64 []))])
def z124.l0out0 (a b:J0) (c:Int) (d e:J0) (o:Int×J0):X×Env×Store:=((.exit 0),Qa z124.l0sh [.li a,.li b,.i o.1,.li d,.li o.2])
def z124.l0pack:List Leaf->Option LPack
 |[.li a,.li b,.i c,.li d,.li e]=>some (.one _ (z124.l0 a b (c,e)) (z124.l0out0 a b c d e))
 |_=>none
def z124.C:Ctx where
 T:=tab
 draws:=λf i=>match f,i with|250,10=>([(38,[(5,0)],0),(39,[(6,0)],0),(40,[(8,0)],0),(41,[(38,2),(39,3)],6),(42,[(37,1),(40,4)],15),(43,[(41,5)],31),(44,[(0,0)],0),(45,[(6,0)],0),(46,[(43,7),(44,8)],192),(47,[(45,9)],448),(48,[(9,0)],0),(49,[(46,10),(47,11)],1984),(50,[(42,6),(48,12)],4095),(51,[(7,0)],0),(52,[(49,13),(50,14)],16383),(11,[(51,15)],32767)],4503462188418048)|_,_=>([],0)
 call:=Qh [(159,z114.pack),(158,z107.pack)]
 keep:=λf i=>match f,i with|250,2=>([0,1,4,5,6,7,8],[0,1],[])|250,0=>([0,1,4,5,6,29,30],[0,1],[])|_,_=>([],[],[])
 keepR:=λf i=>match f,i with|250,2=>([4],[0,1],[4])|250,0=>([4],[0,1],[4])|_,_=>([],[],[])
 L:=λf i b st=>match f,i,b with|250,2,0=>(matchSt z124.l2sh st).bind z124.l2pack|250,0,0=>(matchSt z124.l0sh st).bind z124.l0pack|_,_,_=>none
theorem z124.l2_link (R:Type) (k:Env×Store->Option R) (d:X×Env×Store->Option R) (a b:J0) (c e g:Int) (h j:J0) :
  z124.C.loopP 250 2 (Qf 2 (ifun Tryz.f250).body) 2 k d (Qa z124.l2sh [.li a,.li b,.i c,.i e,.i g,.li h,.li j]) =
  z124.l2P a b c (λx'=>k (Qa z124.l2sh [.li a,.li b,.i c,.i x'.1,.i x'.2.1,.li h,.li x'.2.2])) (λo=>d (z124.l2out0 a b c e g h j o)) (e,g,j):=by kernel_rfl
theorem z124.l0_link (R:Type) (k:Env×Store->Option R) (d:X×Env×Store->Option R) (a b:J0) (c:Int) (e g:J0) :
  z124.C.loopP 250 0 (Qf 0 (ifun Tryz.f250).body) 2 k d (Qa z124.l0sh [.li a,.li b,.i c,.li e,.li g]) =
  z124.l0P a b (λx'=>k (Qa z124.l0sh [.li a,.li b,.i x'.1,.li e,.li x'.2])) (λo=>d (z124.l0out0 a b c e g o)) (c,g):=by kernel_rfl
theorem z124.link (a0 a1:J0):z124.C.evTop 250 (ifun Tryz.f250) [(.ints false .i64 a0),(.ints false .i64 a1)] z107.dec=z124.F a0 a1:=by kernel_rfl
def z127.C:Ctx where
 T:=tab
 call:=Qh [(248,z126.pack),(249,z125.pack),(69,z104.pack)]
theorem z127.link (a0:J0) (a1:Bool) (a2:J0):z127.C.evTop 226 (ifun Tryz.f226) [(.agg [(.ints false .i64 a0),(.bool a1)]),(.ints false .i64 a2)] z128.dec=z127.F a0 a1 a2:=by kernel_rfl
def z141.C:Ctx where
 T:=tab
 call:=Qh [(180,z52.pack),(181,z140.pack)]
theorem z141.link (a0:J0) (a1:Bool):z141.C.evTop 137 (ifun Tryz.f137) [(.agg [(.ints false .u64 a0),(.bool a1)])] z103.dec=z141.F a0 a1:=by kernel_rfl
def z142.C:Ctx where
 T:=tab
 draws:=λf i=>match f,i with|79,2=>([(15,[],0),(16,[(1,0)],0),(17,[(15,2)],2),(18,[(14,1),(16,3)],7),(19,[(17,4)],15),(20,[(3,0)],0),(21,[(18,5),(19,6)],63),(6,[(20,7)],127)],2080800)|_,_=>([],0)
 call:=Qh [(136,z139.pack),(123,z76.pack),(117,z38.pack),(137,z141.pack),(38,z6.pack)]
theorem z142.link (a0 a1 a2 a3:Int) (a4:J1):z142.C.evTop 79 (ifun Tryz.f79) [(.agg [(.int .i64 a0),(.int .i64 a1),(.int .i64 a2),(.int .i64 a3),(.str a4)])] z103.dec=z142.F a0 a1 a2 a3 a4:=by kernel_rfl
def z144.C:Ctx where
 T:=tab
 call:=Qh [(24,z97.pack),(31,z143.pack)]
theorem z144.link:z144.C.evTop 26 (ifun Tryz.f26) [] z8.dec=z144.F:=by kernel_rfl
end
noncomputable section
def z10.C:Ctx where
 T:=tab
 call:=Qh [(195,z9.pack)]
theorem z10.link (a0 a1:Int):z10.C.evTop 153 (ifun Tryz.f153) [(.int .i64 a0),(.int .i64 a1)] z29.dec=z10.F a0 a1:=by kernel_rfl
def z11.C:Ctx where
 T:=tab
theorem z11.link (a0:Int):z11.C.evTop 196 (ifun Tryz.f196) [(.int .u64 a0)] z8.dec=z11.F a0:=by kernel_rfl
def z14.l0sh:Env×Store:=((.ints false .u64 []) :: .undef::(.ptr 0 0)::(.int .i64 0)::un 19 [],[(.cells 37 [(.ints false .u64 [])])])
def z14.l0out0 (a:J0) (b:Int) (c:J0) (o:Int):X×Env×Store:=((.exit 0),Qa z14.l0sh [.li a,.i o,.li c])
def z14.l0pack:List Leaf->Option LPack
 |[.li a,.i b,.li c]=>some (.one _ (z14.l0 a b) (z14.l0out0 a b c))
 |_=>none
def z14.C:Ctx where
 T:=tab
 keep:=λf i=>match f,i with|104,0=>([0,2,3],[0],[])|_,_=>([],[],[])
 keepR:=λf i=>match f,i with|104,0=>([2],[0],[2])|_,_=>([],[],[])
 L:=λf i b st=>match f,i,b with|104,0,0=>(matchSt z14.l0sh st).bind z14.l0pack|_,_,_=>none
theorem z14.l0_link (R:Type) (k:Env×Store->Option R) (d:X×Env×Store->Option R) (a:J0) (b:Int) (c:J0) :
  z14.C.loopP 104 0 (Qf 0 (ifun Tryz.f104).body) 1 k d (Qa z14.l0sh [.li a,.i b,.li c]) =
  z14.l0P a (λx'=>k (Qa z14.l0sh [.li a,.i x',.li c])) (λo=>d (z14.l0out0 a b c o)) b:=by kernel_rfl
theorem z14.link (a0:J0):z14.C.evTop 104 (ifun Tryz.f104) [(.ints false .u64 a0)] z15.dec=z14.F a0:=by kernel_rfl
def z19.l0sh:Env×Store:=(.undef :: .undef::(.int .u64 0)::un 3 ((.int .u64 0)::(.int .u64 0)::(.int .u64 0)::(.int .u64 0)::(.int .u64 0)::(.int .u64 0) :: .undef::(.int .u64 0)::(.int .u64 0)::(.int .u64 0)::(.int .u64 0)::un 118 []),[])
def z19.l0out0 (a b c d e g h j k m n:Int) (o:Int×Int):X×Env×Store:=((.exit 0),Qa z19.l0sh [.i a,.i b,.i c,.i d,.i e,.i g,.i h,.i j,.i k,.i o.1,.i o.2])
def z19.l0pack:List Leaf->Option LPack
 |[.i a,.i b,.i c,.i d,.i e,.i g,.i h,.i j,.i k,.i m,.i n]=>some (.one _ (z19.l0 e g j (m,n)) (z19.l0out0 a b c d e g h j k m n))
 |_=>none
def z19.l2sh:Env×Store:=(.undef :: .undef::(.int .u64 0)::un 3 ((.int .u64 0)::(.int .u64 0)::(.int .u64 0)::(.int .u64 0)::(.int .u64 0)::un 3 ((.int .u64 0)::(.int .u64 0)::(.int .u64 0)::(.int .u64 0)::(.int .u64 0)::un 116 [])),[])
def z19.l2out0 (a b c d e g h j k m n:Int) (o:Int×Int):X×Env×Store:=((.exit 2),Qa z19.l2sh [.i a,.i b,.i c,.i d,.i e,.i g,.i h,.i j,.i o.1,.i m,.i o.2])
def z19.l2pack:List Leaf->Option LPack
 |[.i a,.i b,.i c,.i d,.i e,.i g,.i h,.i j,.i k,.i m,.i n]=>some (.one _ (z19.l2 e g h (k,n)) (z19.l2out0 a b c d e g h j k m n))
 |_=>none
def z19.C:Ctx where
 T:=tab
 draws:=λf i=>match f,i with|197,6=>([(29,[(1,0)],0),(30,[(2,0)],0),(31,[(28,1),(29,2)],3),(32,[(1,0)],0),(33,[(2,0)],0),(34,[(31,4),(32,5)],24),(7,[(30,3)],7),(8,[(33,6)],127)],16911433920)|_,_=>([],0)
 call:=Qh [(198,z18.pack)]
 keep:=λf i=>match f,i with|197,0=>([2,6,7,8,9,10,11,13,14,15,16,105,106,107,108,109,110,111,112],[],[])|197,2=>([2,6,7,8,9,10,14,15,16,17,18],[],[])|_,_=>([],[],[])
 keepR:=λf i=>match f,i with|197,0=>([6,7],[],[6,7])|197,2=>([6,7],[],[6,7])|_,_=>([],[],[])
 L:=λf i b st=>match f,i,b with|197,0,0=>(matchSt z19.l0sh st).bind z19.l0pack|197,2,0=>(matchSt z19.l2sh st).bind z19.l2pack|_,_,_=>none
def z19.dec:V->Option (Int×Int)
 |(.tup [(.int .u64 x0),(.int .u64 x1)])=>some (x0,x1)
 |_=>none
theorem z19.l0_link (R:Type) (k:Env×Store->Option R) (d:X×Env×Store->Option R) (a b c e g h j m n p q:Int) :
  z19.C.loopP 197 0 (Qf 0 (ifun Tryz.f197).body) 0 k d (Qa z19.l0sh [.i a,.i b,.i c,.i e,.i g,.i h,.i j,.i m,.i n,.i p,.i q]) =
  z19.l0P g h m (λx'=>k (Qa z19.l0sh [.i a,.i b,.i c,.i e,.i g,.i h,.i j,.i m,.i n,.i x'.1,.i x'.2])) (λo=>d (z19.l0out0 a b c e g h j m n p q o)) (p,q):=by kernel_rfl
theorem z19.l2_link (R:Type) (k:Env×Store->Option R) (d:X×Env×Store->Option R) (a b c e g h j m n p q:Int) :
  z19.C.loopP 197 2 (Qf 2 (ifun Tryz.f197).body) 0 k d (Qa z19.l2sh [.i a,.i b,.i c,.i e,.i g,.i h,.i j,.i m,.i n,.i p,.i q]) =
  z19.l2P g h j (λx'=>k (Qa z19.l2sh [.i a,.i b,.i c,.i e,.i g,.i h,.i j,.i m,.i x'.1,.i p,.i x'.2])) (λo=>d (z19.l2out0 a b c e g h j m n p q o)) (n,q):=by kernel_rfl
theorem z19.link (a0 a1 a2:Int):z19.C.evTop 197 (ifun Tryz.f197) [(.int .u64 a0),(.int .u64 a1),(.int .u64 a2)] z19.dec=z19.F a0 a1 a2:=by kernel_rfl
def z21.C:Ctx where
 T:=tab
theorem z21.link (a0 a1:Int):z21.C.evTop 145 (ifun Tryz.f145) [(.int .u64 a0),(.int .u64 a1)] z19.dec=z21.F a0 a1:=by kernel_rfl
def z23.l0sh:Env×Store:=(un 4 ((.ptr 1 0)::(.int .i64 0)::(.sview 4 0 0 0)::(.int .u64 0)::un 17 ((.int .i64 0)::(.int .i64 0)::un 31 [])),[.dead,(.cells 37 [(.ints false .u64 [])]),.dead,.dead,(.arr 0 true 183 (.ints false .u64 []))])
def z23.l0out0 (a:Int) (b c:Nat) (d e g:Int) (h j:J0) (o:Int×J0):X×Env×Store:=((.exit 0),Qa z23.l0sh [.i a,.n b,.n c,.i d,.i e,.i o.1,.li h,.li o.2])
def z23.l0pack:List Leaf->Option LPack
 |[.i a,.n b,.n c,.i d,.i e,.i g,.li h,.li j]=>some (.one _ (z23.l0 b c d e (g,j)) (z23.l0out0 a b c d e g h j))
 |_=>none
def z23.C:Ctx where
 T:=tab
 draws:=λf i=>match f,i with|203,11=>([(42,[(6,0)],0),(43,[(8,0)],0),(44,[(41,1),(42,2)],3),(45,[(43,3)],7),(46,[(6,0)],0),(47,[(8,0)],0),(48,[(46,6)],32),(49,[(45,5),(47,7)],112),(50,[(48,8)],240),(51,[(7,0)],0),(52,[(50,10)],512),(53,[(49,9),(51,11)],2032),(54,[(44,4),(52,12)],4095),(55,[(41,1),(42,2)],8191),(0,[(54,14),(53,13)],16383)],36026597995708416)|_,_=>([],0)
 call:=Qh [(233,z22.pack),(108,z15.pack)]
 inl:=λg=>match g with|109=>some (ifun Tryz.f109)|_=>none
 rank:=λg=>match g with|109=>1|_=>0
 prim:=λg=>match g with|157=>some (cloneP (.ints true .u64 []) 183 8)|_=>none
 keep:=λf i=>match f,i with|203,0=>([4,5,6,7,25,26],[1,4],[])|_,_=>([],[],[])
 keepR:=λf i=>match f,i with|203,0=>([4,5],[1,4],[4,5])|_,_=>([],[],[])
 L:=λf i b st=>match f,i,b with|203,0,0=>(matchSt z23.l0sh st).bind z23.l0pack|_,_,_=>none
theorem z23.l0_link (R:Type) (k:Env×Store->Option R) (d:X×Env×Store->Option R) (a:Int) (b c:Nat) (e g h:Int) (j m:J0) :
  z23.C.loopP 203 0 (Qf 0 (ifun Tryz.f203).body) 5 k d (Qa z23.l0sh [.i a,.n b,.n c,.i e,.i g,.i h,.li j,.li m]) =
  z23.l0P b c e g (λx'=>k (Qa z23.l0sh [.i a,.n b,.n c,.i e,.i g,.i x'.1,.li j,.li x'.2])) (λo=>d (z23.l0out0 a b c e g h j m o)) (h,m):=by kernel_rfl
theorem z23.link (a0:J0) (a1:Int):z23.C.evTop 203 (ifun Tryz.f203) [(.agg [(.ints false .u64 a0)]),(.int .i64 a1)] z45.dec=z23.F a0 a1:=by kernel_rfl
def z27.l2sh:Env×Store:=(.undef::(.ptr 0 0)::(.str ([]:J1))::(.sref 1 0)::(.ptr 2 0) :: .undef :: .undef::(.int .u64 0)::un 19 ((.ints false .u64 [])::(.int .i64 0)::(.int .i64 0)::un 27 []),[(.cells 37 [(.ints false .u64 [])]),(.arr 0 true 9 (.strs false [])),(.cells 37 [(.ints false .u64 [])]),.dead])
def z27.l2out0 (a:J1) (b:Int) (c:J0) (d e:Int) (g:J0) (h:List J1) (j:J0) (o:Int×Int):X×Env×Store:=((.exit 2),Qa z27.l2sh [.s a,.i o.1,.li c,.i d,.i o.2,.li g,.ls h,.li j])
def z27.l2pack:List Leaf->Option LPack
 |[.s a,.i b,.li c,.i d,.i e,.li g,.ls h,.li j]=>some (.one _ (z27.l2 c d (b,e)) (z27.l2out0 a b c d e g h j))
 |_=>none
def z27.l0sh:Env×Store:=(.undef::(.ptr 0 0)::(.str ([]:J1))::(.sref 1 0)::un 53 [],[(.cells 37 [(.ints false .u64 [])]),(.arr 0 true 9 (.strs false []))])
def z27.l0out0 (a:J1) (b:J0) (c:List J1) (o:J0×(List J1)):X×Env×Store:=((.exit 0),Qa z27.l0sh [.s a,.li o.1,.ls o.2])
def z27.l0pack:List Leaf->Option LPack
 |[.s a,.li b,.ls c]=>some (.one _ (z27.l0 (b,c)) (z27.l0out0 a b c))
 |_=>none
def z27.l4sh:Env×Store:=(.undef :: .undef::(.str ([]:J1))::(.sref 1 0)::un 7 ((.ptr 2 0)::(.int .i64 0)::un 44 []),[.dead,(.arr 0 true 9 (.strs false [])),(.cells 159 [(.ptr 2 0),(.sref 3 0)]),(.arr 0 true 5 (.ints false .u8 []))])
def z27.l4out0 (a:J1) (b:Int) (c:List J1) (d:J0) (o:Int×J0):X×Env×Store:=((.exit 4),Qa z27.l4sh [.s a,.i o.1,.ls c,.li o.2])
def z27.l4pack:List Leaf->Option LPack
 |[.s a,.i b,.ls c,.li d]=>some (.one _ (z27.l4 c (b,d)) (z27.l4out0 a b c d))
 |_=>none
def z27.C:Ctx where
 T:=tab
 draws:=λf i=>match f,i with|55,5=>([(20,[(1,0)],0),(21,[],0),(22,[(20,2)],2),(23,[(19,1),(21,3)],7),(19,[(22,4)],15),(24,[(18,5)],31),(25,[(18,5)],31),(26,[(18,5)],31),(5,[],0),(6,[],0),(0,[(4,9),(23,6)],831),(0,[(5,10),(24,7)],1919),(7,[(25,8)],4095)],66846832)|80,1=>([(4,[(0,0)],0),(5,[(3,1)],1),(6,[(4,2)],3),(7,[(5,3)],7),(8,[(6,4)],15),(9,[(0,0)],0),(10,[(8,6)],32),(11,[(9,7)],96),(12,[(10,8)],224),(13,[(11,9)],480),(14,[(7,5),(12,10)],1023),(3,[(13,11)],2047)],16380)|_,_=>([],0)
 call:=Qh [(60,z8.pack),(108,z15.pack),(107,z25.pack),(109,z16.pack),(110,z26.pack)]
 inl:=λg=>match g with|80=>some (ifun Tryz.f80)|78=>some (ifun Tryz.f78)|_=>none
 rank:=λg=>match g with|78=>1|_=>0
 prim:=λg=>match g with|135=>some (copyP 159)|_=>none
 keep:=λf i=>match f,i with|55,2=>([1,2,3,4,7,27,28,29],[0,1,2],[])|55,0=>([1,2,3],[0,1],[])|55,4=>([2,3,11,12],[1,2,3],[])|_,_=>([],[],[])
 keepR:=λf i=>match f,i with|55,2=>([2],[0,1,2],[2])|55,0=>([2],[0,1],[2])|55,4=>([2],[1,2,3],[2])|_,_=>([],[],[])
 unroll:=λf i=>match f,i with|55,4=>1|_,_=>0
 L:=λf i b st=>match f,i,b with|55,2,0=>(matchSt z27.l2sh st).bind z27.l2pack|55,0,0=>(matchSt z27.l0sh st).bind z27.l0pack|55,4,0=>(matchSt z27.l4sh st).bind z27.l4pack|_,_,_=>none
theorem z27.l2_link (R:Type) (k:Env×Store->Option R) (d:X×Env×Store->Option R) (a:J1) (b:Int) (c:J0) (e g:Int) (h:J0) (j:List J1) (m:J0) :
  z27.C.loopP 55 2 (Qf 2 (ifun Tryz.f55).body) 4 k d (Qa z27.l2sh [.s a,.i b,.li c,.i e,.i g,.li h,.ls j,.li m]) =
  z27.l2P c e (λx'=>k (Qa z27.l2sh [.s a,.i x'.1,.li c,.i e,.i x'.2,.li h,.ls j,.li m])) (λo=>d (z27.l2out0 a b c e g h j m o)) (b,g):=by kernel_rfl
theorem z27.l0_link (R:Type) (k:Env×Store->Option R) (d:X×Env×Store->Option R) (a:J1) (b:J0) (c:List J1) :
  z27.C.loopP 55 0 (Qf 0 (ifun Tryz.f55).body) 2 k d (Qa z27.l0sh [.s a,.li b,.ls c]) =
  z27.l0P (λx'=>k (Qa z27.l0sh [.s a,.li x'.1,.ls x'.2])) (λo=>d (z27.l0out0 a b c o)) (b,c):=by kernel_rfl
theorem z27.l4_link (R:Type) (k:Env×Store->Option R) (d:X×Env×Store->Option R) (a:J1) (b:Int) (c:List J1) (e:J0) :
  z27.C.loopP 55 4 (Qf 4 (ifun Tryz.f55).body) 4 k d (Qa z27.l4sh [.s a,.i b,.ls c,.li e]) =
  z27.l4P c (λx'=>k (Qa z27.l4sh [.s a,.i x'.1,.ls c,.li x'.2])) (λo=>d (z27.l4out0 a b c e o)) (b,e):=by kernel_rfl
theorem z27.link (a0:J0):z27.C.evTop 55 (ifun Tryz.f55) [(.agg [(.ints false .u64 a0)])] z103.dec=z27.F a0:=by kernel_rfl
def z30.C:Ctx where
 T:=tab
 draws:=λf i=>match f,i with|52,1=>([(6,[(2,0)],0),(7,[(1,0)],0),(8,[(6,2)],2),(9,[(2,0),(7,3)],6),(10,[(8,4),(7,3)],14),(11,[(9,5),(7,3)],30),(12,[(7,3),(10,6)],62),(13,[(5,1),(11,7)],127),(0,[(4,0),(12,8)],255)],8160)|_,_=>([],0)
 call:=Qh [(60,z8.pack)]
theorem z30.link (a0:J0) (a1:Bool):z30.C.evTop 52 (ifun Tryz.f52) [(.agg [(.ints false .u64 a0)]),(.bool a1)] z40.dec=z30.F a0 a1:=by kernel_rfl
def z37.l2sh:Env×Store:=((.str ([]:J1)) :: .undef::(.ptr 0 0)::(.int .i64 0)::(.ptr 1 0) :: .undef::(.int .i64 0)::(.int .u64 0)::un 39 ((.ptr 2 0)::un 21 []),[(.cells 37 [(.ints false .u64 [])]),(.cells 37 [(.ints false .u64 [])]),(.siter ([]:J1) 0)])
def z37.l2out0 (a:J1) (b c d:Int) (e g:J0) (h:J1) (j:Nat) (o:Int×Nat):X×Env×Store:=((.exit 2),Qa z37.l2sh [.s a,.i b,.i c,.i o.1,.li e,.li g,.s h,.n o.2])
def z37.l2pack:List Leaf->Option LPack
 |[.s a,.i b,.i c,.i d,.li e,.li g,.s h,.n j]=>some (.one _ (z37.l2 h (d,j)) (z37.l2out0 a b c d e g h j))
 |_=>none
def z37.l2ash:Env×Store:=((.str ([]:J1)) :: .undef::(.ptr 0 0)::(.int .i64 0)::(.ptr 1 0) :: .undef::(.int .i64 0)::(.int .u64 0)::un 33 ((.int .i64 0)::(.bool false)::un 4 ((.ptr 2 0)::un 21 [])),[(.cells 37 [(.ints false .u64 [])]),(.cells 37 [(.ints false .u64 [])]),(.siter ([]:J1) 0)])
def z37.l2aout0 (a:J1) (c d e g:Int) (h:Bool) (j k:J0) (m:J1) (p:Nat) (o:Int×Nat):X×Env×Store:=((.exit 2),Qa z37.l2ash [.s a,.i c,.i d,.i o.1,.i g,.b h,.li j,.li k,.s m,.n o.2])
def z37.l2apack:List Leaf->Option LPack
 |[.s a,.i c,.i d,.i e,.i g,.b h,.li j,.li k,.s m,.n o]=>some (.one _ (z37.l2a m (e,o)) (z37.l2aout0 a c d e g h j k m o))
 |_=>none
def z37.l0sh:Env×Store:=((.str ([]:J1)) :: .undef::(.ptr 0 0)::(.int .i64 0)::(.ptr 1 0)::(.bool false)::un 63 [],[(.cells 37 [(.ints false .u64 [])]),(.cells 37 [(.ints false .u64 [])])])
def z37.l0out0 (a:J1) (c:Int) (d:Bool) (e g:J0) (o:J1×Bool×J0):X×Env×Store:=((.exit 0),Qa z37.l0sh [.s o.1,.i c,.b o.2.1,.li e,.li o.2.2])
def z37.l0pack:List Leaf->Option LPack
 |[.s a,.i c,.b d,.li e,.li g]=>some (.one _ (z37.l0 (a,d,g)) (z37.l0out0 a c d e g))
 |_=>none
def z37.C:Ctx where
 T:=tab
 draws:=λf i=>match f,i with|162,17=>([(58,[(4,0)],0),(59,[],0),(60,[(58,2)],2),(61,[(57,1),(59,3)],7),(62,[(7,0)],0),(63,[(61,5)],16),(64,[(62,6)],63),(65,[(60,4),(63,7)],127),(0,[(4,0),(64,8)],255)],36749372959343247360)|_,_=>([],0)
 call:=Qh [(205,z3.pack),(108,z15.pack),(206,z36.pack),(53,z35.pack)]
 keep:=λf i=>match f,i with|162,2=>([0,2,3,4,6,7,41,42,47],[0,1,2],[])|162,0=>([0,2,3,4,5],[0,1],[])|_,_=>([],[],[])
 keepR:=λf i=>match f,i with|162,2=>([2,3],[0,1,2],[2,3])|162,0=>([2,3],[0,1],[2,3])|_,_=>([],[],[])
 L:=λf i b st=>match f,i,b with|162,2,0=>(orP ((matchSt z37.l2sh st).bind z37.l2pack) ((matchSt z37.l2ash st).bind z37.l2apack))|162,0,0=>(matchSt z37.l0sh st).bind z37.l0pack|_,_,_=>none
theorem z37.l2_link (R:Type) (k:Env×Store->Option R) (d:X×Env×Store->Option R) (a:J1) (b c e:Int) (g h:J0) (j:J1) (m:Nat) :
  z37.C.loopP 162 2 (Qf 2 (ifun Tryz.f162).body) 3 k d (Qa z37.l2sh [.s a,.i b,.i c,.i e,.li g,.li h,.s j,.n m]) =
  z37.l2P j (λx'=>k (Qa z37.l2sh [.s a,.i b,.i c,.i x'.1,.li g,.li h,.s j,.n x'.2])) (λo=>d (z37.l2out0 a b c e g h j m o)) (e,m):=by kernel_rfl
theorem z37.l2a_link (R:Type) (k:Env×Store->Option R) (d:X×Env×Store->Option R) (a:J1) (c e g h:Int) (j:Bool) (m p:J0) (q:J1) (r:Nat) :
  z37.C.loopP 162 2 (Qf 2 (ifun Tryz.f162).body) 3 k d (Qa z37.l2ash [.s a,.i c,.i e,.i g,.i h,.b j,.li m,.li p,.s q,.n r]) =
  z37.l2aP q (λx'=>k (Qa z37.l2ash [.s a,.i c,.i e,.i x'.1,.i h,.b j,.li m,.li p,.s q,.n x'.2])) (λo=>d (z37.l2aout0 a c e g h j m p q r o)) (g,r):=by kernel_rfl
theorem z37.l0_link (R:Type) (k:Env×Store->Option R) (d:X×Env×Store->Option R) (a:J1) (c:Int) (e:Bool) (g h:J0) :
  z37.C.loopP 162 0 (Qf 0 (ifun Tryz.f162).body) 2 k d (Qa z37.l0sh [.s a,.i c,.b e,.li g,.li h]) =
  z37.l0P (λx'=>k (Qa z37.l0sh [.s x'.1,.i c,.b x'.2.1,.li g,.li x'.2.2])) (λo=>d (z37.l0out0 a c e g h o)) (a,e,h):=by kernel_rfl
theorem z37.link (a0:J1):z37.C.evTop 162 (ifun Tryz.f162) [(.str a0)] z45.dec=z37.F a0:=by kernel_rfl
def z41.C:Ctx where
 T:=tab
 call:=Qh [(52,z30.pack)]
theorem z41.link (a0:J0) (a1:Bool):z41.C.evTop 66 (ifun Tryz.f66) [(.agg [(.ints false .u64 a0),(.bool a1)])] z40.dec=z41.F a0 a1:=by kernel_rfl
def z44.l0sh:Env×Store:=(.undef::(.int .i64 0)::(.ptr 0 0) :: .undef::(.ptr 1 0)::(.ptr 2 0)::un 18 [],[(.cells 37 [(.ints false .u64 [])]),(.cells 37 [(.ints false .u64 [])]),(.cells 37 [(.ints false .u64 [])])])
def z44.l0out0 (a:Int) (b c d:J0) (o:Int×J0×J0):X×Env×Store:=((.exit 0),Qa z44.l0sh [.i o.1,.li o.2.1,.li c,.li o.2.2])
def z44.l0pack:List Leaf->Option LPack
 |[.i a,.li b,.li c,.li d]=>some (.one _ (z44.l0 (a,b,d)) (z44.l0out0 a b c d))
 |_=>none
def z44.C:Ctx where
 T:=tab
 call:=Qh [(108,z15.pack),(206,z36.pack)]
 keep:=λf i=>match f,i with|257,0=>([1,2,4,5],[0,1,2],[])|_,_=>([],[],[])
 keepR:=λf i=>match f,i with|257,0=>([4],[0,1,2],[4])|_,_=>([],[],[])
 L:=λf i b st=>match f,i,b with|257,0,0=>(matchSt z44.l0sh st).bind z44.l0pack|_,_,_=>none
theorem z44.l0_link (R:Type) (k:Env×Store->Option R) (d:X×Env×Store->Option R) (a:Int) (b c e:J0) :
  z44.C.loopP 257 0 (Qf 0 (ifun Tryz.f257).body) 3 k d (Qa z44.l0sh [.i a,.li b,.li c,.li e]) =
  z44.l0P (λx'=>k (Qa z44.l0sh [.i x'.1,.li x'.2.1,.li c,.li x'.2.2])) (λo=>d (z44.l0out0 a b c e o)) (a,b,e):=by kernel_rfl
theorem z44.link (a0:J0) (a1:Int):z44.C.evTop 257 (ifun Tryz.f257) [(.agg [(.ints false .u64 a0)]),(.int .i64 a1)] z15.dec=z44.F a0 a1:=by kernel_rfl
def z48.C:Ctx where
 T:=tab
 call:=Qh [(218,z47.pack),(16,z29.pack)]
theorem z48.link (a0:J1):z48.C.evTop 176 (ifun Tryz.f176) [(.str a0)] z29.dec=z48.F a0:=by kernel_rfl
def z51.C:Ctx where
 T:=tab
theorem z51.link (a0:Int):z51.C.evTop 224 (ifun Tryz.f224) [(.int .i64 a0)] z8.dec=z51.F a0:=by kernel_rfl
def z54.C:Ctx where
 T:=tab
theorem z54.link (a0:J0) (a1:Bool) (a2:Int):z54.C.evTop 215 (ifun Tryz.f215) [(.agg [(.ints false .u64 a0),(.bool a1),(.int .i64 a2)])] z40.dec=z54.F a0 a1 a2:=by kernel_rfl
def z64.C:Ctx where
 T:=tab
 draws:=λf i=>match f,i with|221,1=>([(7,[(1,0)],0),(8,[(6,1)],1),(9,[(1,0)],0),(10,[(8,3)],4),(11,[(9,4)],12),(12,[(7,2),(10,5)],31),(6,[(11,6)],63),(13,[(5,7)],127),(14,[(5,7)],127),(4,[],0),(0,[(3,10),(12,8)],767),(5,[(13,9)],2047)],16376)|_,_=>([],0)
 call:=Qh [(245,z56.pack),(244,z63.pack)]
theorem z64.link (a0:J0) (a1:Bool) (a2:Int):z64.C.evTop 221 (ifun Tryz.f221) [(.agg [(.ints false .u64 a0),(.bool a1),(.int .i64 a2)])] z62.dec=z64.F a0 a1 a2:=by kernel_rfl
def z67.C:Ctx where
 T:=tab
 draws:=λf i=>match f,i with|222,1=>([(7,[(2,0)],0),(8,[(6,1)],1),(9,[(3,0)],0),(10,[(8,3)],4),(11,[(7,2),(9,4)],15),(12,[(2,0)],0),(13,[(11,6)],63),(14,[(3,0)],0),(15,[(13,8)],128),(16,[(12,7),(14,9)],511),(17,[(10,5),(15,10)],1023),(18,[(16,11)],2047),(19,[(16,11)],2047),(0,[(4,0),(17,12)],8191),(6,[(18,13)],16383)],524256)|_,_=>([],0)
 call:=Qh [(247,z66.pack),(246,z57.pack),(244,z63.pack)]
theorem z67.link (a0:J0) (a1:Bool) (a2 a3:J0) (a4:Bool) (a5:J0):z67.C.evTop 222 (ifun Tryz.f222) [(.agg [(.ints false .u64 a0),(.bool a1),(.ints false .u64 a2)]),(.agg [(.ints false .u64 a3),(.bool a4),(.ints false .u64 a5)])] z69.dec=z67.F a0 a1 a2 a3 a4 a5:=by kernel_rfl
def z68.C:Ctx where
 T:=tab
theorem z68.link (a0:J0) (a1:Bool):z68.C.evTop 223 (ifun Tryz.f223) [(.agg [(.ints false .u64 a0),(.bool a1)])] z62.dec=z68.F a0 a1:=by kernel_rfl
def z71.C:Ctx where
 T:=tab
 call:=Qh [(171,z50.pack),(214,z53.pack),(215,z54.pack)]
theorem z71.link (a0:J1):z71.C.evTop 174 (ifun Tryz.f174) [(.str a0)] z47.dec=z71.F a0:=by kernel_rfl
def z75.l0sh:Env×Store:=((.strs false [])::(.str ([]:J1)) :: .undef :: .undef::(.int .i64 0) :: .undef :: .undef::(.int .i64 0)::(.int .i64 0)::un 10 [],[])
def z75.l0so1:Env×Store:=(un 4 ((.int .i64 0)::un 14 []),[])
def z75.l0out0 (a:List J1) (b:J1) (c d e o:Int):X×Env×Store:=((.exit 0),Qa z75.l0sh [.ls a,.s b,.i c,.i d,.i o])
def z75.l0out1 (a:List J1) (b:J1) (c d e o:Int):X×Env×Store:=(.ret,Qa z75.l0so1 [.i o])
def z75.l0pack:List Leaf->Option LPack
 |[.ls a,.s b,.i c,.i d,.i e]=>some (.two _ _ (z75.l0 a b d e) (z75.l0out0 a b c d e) (z75.l0out1 a b c d e))
 |_=>none
def z75.C:Ctx where
 T:=tab
 keep:=λf i=>match f,i with|122,0=>([0,1,4,7,8],[],[])|_,_=>([],[],[])
 keepR:=λf i=>match f,i with|122,0=>([4],[],[4])|_,_=>([],[],[])
 L:=λf i b st=>match f,i,b with|122,0,0=>(matchSt z75.l0sh st).bind z75.l0pack|_,_,_=>none
theorem z75.l0_link (R:Type) (k:Env×Store->Option R) (d:X×Env×Store->Option R) (a:List J1) (b:J1) (c e g:Int) :
  z75.C.loopP 122 0 (Qf 0 (ifun Tryz.f122).body) 0 k d (Qa z75.l0sh [.ls a,.s b,.i c,.i e,.i g]) =
  z75.l0P a b e (λx'=>k (Qa z75.l0sh [.ls a,.s b,.i c,.i e,.i x'])) (λo=>match o with | .inl o=>d (z75.l0out0 a b c e g o) | .inr o=>d (z75.l0out1 a b c e g o)) g:=by kernel_rfl
theorem z75.link (a0:List J1) (a1:J1):z75.C.evTop 122 (ifun Tryz.f122) [(.strs false a0),(.str a1)] z29.dec=z75.F a0 a1:=by kernel_rfl
def z76.C:Ctx where
 T:=tab
def z76.dec:V->Option ((List J1))
 |(.strs _ x0)=>some x0
 |_=>none
theorem z76.link:z76.C.evTop 123 (ifun Tryz.f123) [] z76.dec=z76.F:=by kernel_rfl
def z80.C:Ctx where
 T:=tab
 draws:=λf i=>match f,i with|133,1=>([(4,[(1,0)],0),(5,[(3,1)],1),(6,[(4,2)],3),(7,[(5,3)],7),(8,[(1,0),(6,4)],15),(9,[(7,5),(6,4)],31),(10,[(1,0),(6,4)],15),(11,[(9,7),(6,4)],79),(12,[(1,0),(6,4)],15),(13,[(11,9),(6,4)],271),(14,[(10,8),(12,10),(6,4)],975),(15,[(8,6),(13,11),(6,4)],2047),(16,[(6,4),(14,12)],4095)],65528)|_,_=>([],0)
 call:=Qh [(175,z79.pack)]
theorem z80.link (a0 a1 a2:Int):z80.C.evTop 133 (ifun Tryz.f133) [(.agg [(.int .i64 a0),(.int .i64 a1),(.int .i64 a2)])] z29.dec=z80.F a0 a1 a2:=by kernel_rfl
def z82.C:Ctx where
 T:=tab
 call:=Qh [(173,z81.pack),(133,z80.pack)]
def z82.dec:V->Option (Int×Int×Int×Int)
 |(.tup [(.agg [(.int .i64 x0),(.int .i64 x1),(.int .i64 x2)]),(.int .i64 x3)])=>some (x0,x1,x2,x3)
 |_=>none
theorem z82.link (a0:J1):z82.C.evTop 124 (ifun Tryz.f124) [(.str a0)] z82.dec=z82.F a0:=by kernel_rfl
def z85.C:Ctx where
 T:=tab
 call:=Qh [(230,z2.pack)]
 inl:=λg=>match g with|190=>some (ifun Tryz.f190)|_=>none
theorem z85.link (a0:J1) (a1:Int):z85.C.evTop 164 (ifun Tryz.f164) [(.str a0),(.int .u8 a1)] z29.dec=z85.F a0 a1:=by kernel_rfl
def z93.C:Ctx where
 T:=tab
 draws:=λf i=>match f,i with|213,6=>([(28,[(0,0)],0),(29,[(9,0)],0),(30,[(27,1),(28,2)],3),(31,[(7,0)],0),(32,[(8,0)],0),(33,[(30,4),(31,5)],24),(34,[(29,3),(32,6)],63)],17045651456)|213,7=>([(35,[(0,0)],0),(36,[(9,0)],0),(37,[(35,2)],2),(38,[(34,1),(36,3)],7),(39,[(7,0)],0),(40,[(8,0)],0),(41,[(38,5),(39,6)],48),(42,[(37,4),(40,7)],127),(12,[(41,8)],255)],4380866643968)|_,_=>([],0)
 call:=Qh [(164,z85.pack),(240,z92.pack)]
 unroll:=λf i=>match f,i with|213,1=>1|_,_=>0
theorem z93.link (a0:J1) (a1:Int):z93.C.evTop 213 (ifun Tryz.f213) [(.str a0),(.int .i32 a1)] z29.dec=z93.F a0 a1:=by kernel_rfl
def z98.C:Ctx where
 T:=tab
theorem z98.link (a0:Int):z98.C.evTop 149 (ifun Tryz.f149) [(.int .i64 a0)] z8.dec=z98.F a0:=by kernel_rfl
def z102.l2sh:Env×Store:=((.ints false .i64 []) :: .undef::(.str ([]:J1))::(.str ([]:J1))::(.int .i64 0)::(.int .i64 0)::(.int .i64 0)::un 37 [],[])
def z102.l2out0 (a:J0) (b c:J1) (d e g:Int) (o:J1×Int×Int):X×Env×Store:=((.exit 2),Qa z102.l2sh [.li a,.s b,.s o.1,.i d,.i o.2.1,.i o.2.2])
def z102.l2pack:List Leaf->Option LPack
 |[.li a,.s b,.s c,.i d,.i e,.i g]=>some (.one _ (z102.l2 (c,e,g)) (z102.l2out0 a b c d e g))
 |_=>none
def z102.l0sh:Env×Store:=((.ints false .i64 []) :: .undef::(.str ([]:J1))::(.str ([]:J1))::(.int .i64 0)::un 39 [],[])
def z102.l0out0 (a:J0) (b c:J1) (d:Int) (o:J1×Int):X×Env×Store:=((.exit 0),Qa z102.l0sh [.li a,.s b,.s o.1,.i o.2])
def z102.l0pack:List Leaf->Option LPack
 |[.li a,.s b,.s c,.i d]=>some (.one _ (z102.l0 a (c,d)) (z102.l0out0 a b c d))
 |_=>none
def z102.l4sh:Env×Store:=(.undef :: .undef::(.str ([]:J1))::(.str ([]:J1))::un 3 ((.int .i64 0)::un 36 []),[])
def z102.l4out0 (a b:J1) (c o:Int):X×Env×Store:=((.exit 4),Qa z102.l4sh [.s a,.s b,.i o])
def z102.l4pack:List Leaf->Option LPack
 |[.s a,.s b,.i c]=>some (.one _ (z102.l4 b c) (z102.l4out0 a b c))
 |_=>none
def z102.C:Ctx where
 T:=tab
 keep:=λf i=>match f,i with|56,2=>([0,2,3,4,5,6],[],[])|56,0=>([0,2,3,4],[],[])|56,4=>([2,3,7],[],[])|_,_=>([],[],[])
 keepR:=λf i=>match f,i with|56,2=>([2],[],[2])|56,0=>([2],[],[2])|56,4=>([2],[],[2])|_,_=>([],[],[])
 L:=λf i b st=>match f,i,b with|56,2,0=>(matchSt z102.l2sh st).bind z102.l2pack|56,0,0=>(matchSt z102.l0sh st).bind z102.l0pack|56,4,0=>(matchSt z102.l4sh st).bind z102.l4pack|_,_,_=>none
theorem z102.l2_link (R:Type) (k:Env×Store->Option R) (d:X×Env×Store->Option R) (a:J0) (b c:J1) (e g h:Int) :
  z102.C.loopP 56 2 (Qf 2 (ifun Tryz.f56).body) 0 k d (Qa z102.l2sh [.li a,.s b,.s c,.i e,.i g,.i h]) =
  z102.l2P (λx'=>k (Qa z102.l2sh [.li a,.s b,.s x'.1,.i e,.i x'.2.1,.i x'.2.2])) (λo=>d (z102.l2out0 a b c e g h o)) (c,g,h):=by kernel_rfl
theorem z102.l0_link (R:Type) (k:Env×Store->Option R) (d:X×Env×Store->Option R) (a:J0) (b c:J1) (e:Int) :
  z102.C.loopP 56 0 (Qf 0 (ifun Tryz.f56).body) 0 k d (Qa z102.l0sh [.li a,.s b,.s c,.i e]) =
  z102.l0P a (λx'=>k (Qa z102.l0sh [.li a,.s b,.s x'.1,.i x'.2])) (λo=>d (z102.l0out0 a b c e o)) (c,e):=by kernel_rfl
theorem z102.l4_link (R:Type) (k:Env×Store->Option R) (d:X×Env×Store->Option R) (a b:J1) (c:Int) :
  z102.C.loopP 56 4 (Qf 4 (ifun Tryz.f56).body) 0 k d (Qa z102.l4sh [.s a,.s b,.i c]) =
  z102.l4P b (λx'=>k (Qa z102.l4sh [.s a,.s b,.i x'])) (λo=>d (z102.l4out0 a b c o)) c:=by kernel_rfl
theorem z102.link (a0:J0):z102.C.evTop 56 (ifun Tryz.f56) [(.ints false .i64 a0)] z103.dec=z102.F a0:=by kernel_rfl
def z104.C:Ctx where
 T:=tab
theorem z104.link (a0:J0) (a1:Bool):z104.C.evTop 69 (ifun Tryz.f69) [(.ints false .i64 a0),(.bool a1)] z106.dec=z104.F a0 a1:=by kernel_rfl
def z108.l2sh:Env×Store:=((.str ([]:J1)) :: .undef::(.sref 0 0)::(.sref 1 0)::(.int .i64 0)::(.int .i64 0)::(.int .i64 0)::un 28 [],[(.arr 0 true 3 (.ints false .i64 [])),(.arr 0 true 3 (.ints false .i64 []))])
def z108.l2out0 (a:J1) (b c d:Int) (e g:J0) (o:Int×Int):X×Env×Store:=((.exit 2),Qa z108.l2sh [.s a,.i b,.i o.1,.i o.2,.li e,.li g])
def z108.l2pack:List Leaf->Option LPack
 |[.s a,.i b,.i c,.i d,.li e,.li g]=>some (.one _ (z108.l2 a b (c,d)) (z108.l2out0 a b c d e g))
 |_=>none
def z108.l0sh:Env×Store:=((.str ([]:J1)) :: .undef::(.sref 0 0)::(.sref 1 0)::(.int .i64 0)::un 30 [],[(.arr 0 true 3 (.ints false .i64 [])),(.arr 0 true 3 (.ints false .i64 []))])
def z108.l0out0 (a:J1) (b:Int) (c d:J0) (o:Int×J0):X×Env×Store:=((.exit 0),Qa z108.l0sh [.s a,.i o.1,.li c,.li o.2])
def z108.l0pack:List Leaf->Option LPack
 |[.s a,.i b,.li c,.li d]=>some (.one _ (z108.l0 a (b,d)) (z108.l0out0 a b c d))
 |_=>none
def z108.C:Ctx where
 T:=tab
 call:=Qh [(158,z107.pack)]
 keep:=λf i=>match f,i with|111,2=>([0,2,3,4,5,6],[0,1],[])|111,0=>([0,2,3,4],[0,1],[])|_,_=>([],[],[])
 keepR:=λf i=>match f,i with|111,2=>([2],[0,1],[2])|111,0=>([2],[0,1],[2])|_,_=>([],[],[])
 L:=λf i b st=>match f,i,b with|111,2,0=>(matchSt z108.l2sh st).bind z108.l2pack|111,0,0=>(matchSt z108.l0sh st).bind z108.l0pack|_,_,_=>none
theorem z108.l2_link (R:Type) (k:Env×Store->Option R) (d:X×Env×Store->Option R) (a:J1) (b c e:Int) (g h:J0) :
  z108.C.loopP 111 2 (Qf 2 (ifun Tryz.f111).body) 2 k d (Qa z108.l2sh [.s a,.i b,.i c,.i e,.li g,.li h]) =
  z108.l2P a b (λx'=>k (Qa z108.l2sh [.s a,.i b,.i x'.1,.i x'.2,.li g,.li h])) (λo=>d (z108.l2out0 a b c e g h o)) (c,e):=by kernel_rfl
theorem z108.l0_link (R:Type) (k:Env×Store->Option R) (d:X×Env×Store->Option R) (a:J1) (b:Int) (c e:J0) :
  z108.C.loopP 111 0 (Qf 0 (ifun Tryz.f111).body) 2 k d (Qa z108.l0sh [.s a,.i b,.li c,.li e]) =
  z108.l0P a (λx'=>k (Qa z108.l0sh [.s a,.i x'.1,.li c,.li x'.2])) (λo=>d (z108.l0out0 a b c e o)) (b,e):=by kernel_rfl
theorem z108.link (a0:J1):z108.C.evTop 111 (ifun Tryz.f111) [(.str a0)] z107.dec=z108.F a0:=by kernel_rfl
def z115.l0sh:Env×Store:=((.ints false .i64 [])::(.ints false .i64 []) :: .undef :: .undef::(.sref 0 0)::(.sref 1 0)::(.int .i64 0)::(.int .i64 0)::un 39 [],[(.arr 0 true 3 (.ints false .i64 [])),(.arr 0 true 3 (.ints false .i64 []))])
def z115.l0out0 (a b:J0) (c d:Int) (e g:J0) (o:Int×Int×J0):X×Env×Store:=((.exit 0),Qa z115.l0sh [.li a,.li b,.i o.1,.i o.2.1,.li e,.li o.2.2])
def z115.l0pack:List Leaf->Option LPack
 |[.li a,.li b,.i c,.i d,.li e,.li g]=>some (.one _ (z115.l0 a b (c,d,g)) (z115.l0out0 a b c d e g))
 |_=>none
def z115.C:Ctx where
 T:=tab
 call:=Qh [(159,z114.pack),(158,z107.pack)]
 keep:=λf i=>match f,i with|112,0=>([0,1,4,5,6,7],[0,1],[])|_,_=>([],[],[])
 keepR:=λf i=>match f,i with|112,0=>([4],[0,1],[4])|_,_=>([],[],[])
 L:=λf i b st=>match f,i,b with|112,0,0=>(matchSt z115.l0sh st).bind z115.l0pack|_,_,_=>none
theorem z115.l0_link (R:Type) (k:Env×Store->Option R) (d:X×Env×Store->Option R) (a b:J0) (c e:Int) (g h:J0) :
  z115.C.loopP 112 0 (Qf 0 (ifun Tryz.f112).body) 2 k d (Qa z115.l0sh [.li a,.li b,.i c,.i e,.li g,.li h]) =
  z115.l0P a b (λx'=>k (Qa z115.l0sh [.li a,.li b,.i x'.1,.i x'.2.1,.li g,.li x'.2.2])) (λo=>d (z115.l0out0 a b c e g h o)) (c,e,h):=by kernel_rfl
theorem z115.link (a0 a1:J0):z115.C.evTop 112 (ifun Tryz.f112) [(.ints false .i64 a0),(.ints false .i64 a1)] z107.dec=z115.F a0 a1:=by kernel_rfl
def z116.l0sh:Env×Store:=((.ints false .i64 [])::(.ints false .i64 []) :: .undef :: .undef::(.int .i64 0)::(.int .i64 0)::un 35 [],[])
def z116.l0so1:Env×Store:=(un 4 ((.int .i64 0)::un 36 []),[])
def z116.l0out0 (a b:J0) (c d o:Int):X×Env×Store:=((.exit 0),Qa z116.l0sh [.li a,.li b,.i c,.i o])
def z116.l0out1 (a b:J0) (c d o:Int):X×Env×Store:=(.ret,Qa z116.l0so1 [.i o])
def z116.l0pack:List Leaf->Option LPack
 |[.li a,.li b,.i c,.i d]=>some (.two _ _ (z116.l0 a b d) (z116.l0out0 a b c d) (z116.l0out1 a b c d))
 |_=>none
def z116.C:Ctx where
 T:=tab
 draws:=λf i=>match f,i with|113,8=>([(24,[(0,0)],0),(25,[(5,0)],0),(26,[(23,1),(24,2)],3),(27,[(25,3)],7),(28,[(1,0)],0),(29,[(5,0)],0),(30,[(27,5),(28,6)],48),(31,[(29,7)],112),(32,[(26,4),(30,8)],255)],4286578688)|113,10=>([(33,[(0,0)],0),(34,[(5,0)],0),(35,[(32,1),(33,2)],3),(36,[(34,3)],7),(37,[(1,0)],0),(38,[(5,0)],0),(39,[(36,5),(37,6)],48),(40,[(38,7)],112),(41,[(35,4),(39,8)],255)],2194728288256)|_,_=>([],0)
 keep:=λf i=>match f,i with|113,0=>([0,1,4,5],[],[])|_,_=>([],[],[])
 keepR:=λf i=>match f,i with|113,0=>([4],[],[4])|_,_=>([],[],[])
 L:=λf i b st=>match f,i,b with|113,0,0=>(matchSt z116.l0sh st).bind z116.l0pack|_,_,_=>none
theorem z116.l0_link (R:Type) (k:Env×Store->Option R) (d:X×Env×Store->Option R) (a b:J0) (c e:Int) :
  z116.C.loopP 113 0 (Qf 0 (ifun Tryz.f113).body) 0 k d (Qa z116.l0sh [.li a,.li b,.i c,.i e]) =
  z116.l0P a b (λx'=>k (Qa z116.l0sh [.li a,.li b,.i c,.i x'])) (λo=>match o with | .inl o=>d (z116.l0out0 a b c e o) | .inr o=>d (z116.l0out1 a b c e o)) e:=by kernel_rfl
theorem z116.link (a0 a1:J0):z116.C.evTop 113 (ifun Tryz.f113) [(.ints false .i64 a0),(.ints false .i64 a1)] z29.dec=z116.F a0 a1:=by kernel_rfl
def z120.C:Ctx where
 T:=tab
theorem z120.link (a0:J0) (a1:Bool):z120.C.evTop 187 (ifun Tryz.f187) [(.agg [(.ints false .i64 a0),(.bool a1)])] z29.dec=z120.F a0 a1:=by kernel_rfl
def z126.l0sh:Env×Store:=((.ints false .i64 [])::(.ints false .i64 []) :: .undef :: .undef::(.sref 0 0)::un 14 [],[(.arr 0 true 3 (.ints false .i64 []))])
def z126.l0out0 (a b c:J0) (o:J0×J0):X×Env×Store:=((.exit 0),Qa z126.l0sh [.li o.1,.li o.2,.li c])
def z126.l0pack:List Leaf->Option LPack
 |[.li a,.li b,.li c]=>some (.one _ (z126.l0 (a,b)) (z126.l0out0 a b c))
 |_=>none
def z126.C:Ctx where
 T:=tab
 call:=Qh [(249,z125.pack)]
 keep:=λf i=>match f,i with|248,0=>([0,1,4],[0],[])|_,_=>([],[],[])
 keepR:=λf i=>match f,i with|248,0=>([4],[0],[4])|_,_=>([],[],[])
 L:=λf i b st=>match f,i,b with|248,0,0=>(matchSt z126.l0sh st).bind z126.l0pack|_,_,_=>none
theorem z126.l0_link (R:Type) (k:Env×Store->Option R) (d:X×Env×Store->Option R) (a b c:J0) :
  z126.C.loopP 248 0 (Qf 0 (ifun Tryz.f248).body) 1 k d (Qa z126.l0sh [.li a,.li b,.li c]) =
  z126.l0P (λx'=>k (Qa z126.l0sh [.li x'.1,.li x'.2,.li c])) (λo=>d (z126.l0out0 a b c o)) (a,b):=by kernel_rfl
theorem z126.link (a0 a1:J0):z126.C.evTop 248 (ifun Tryz.f248) [(.ints false .i64 a0),(.ints false .i64 a1)] z107.dec=z126.F a0 a1:=by kernel_rfl
def z129.C:Ctx where
 T:=tab
 call:=Qh [(48,z106.pack),(225,z128.pack)]
theorem z129.link (a0 a1:Int):z129.C.evTop 182 (ifun Tryz.f182) [(.int .i64 a0),(.int .i64 a1)] z128.dec=z129.F a0 a1:=by kernel_rfl
def z131.C:Ctx where
 T:=tab
 call:=Qh [(250,z124.pack),(69,z104.pack)]
theorem z131.link (a0:J0) (a1:Bool) (a2:J0) (a3:Bool):z131.C.evTop 228 (ifun Tryz.f228) [(.agg [(.ints false .i64 a0),(.bool a1)]),(.agg [(.ints false .i64 a2),(.bool a3)])] z106.dec=z131.F a0 a1 a2 a3:=by kernel_rfl
def z137.C:Ctx where
 T:=tab
 call:=Qh [(133,z80.pack),(115,z74.pack),(134,z70.pack)]
theorem z137.link (a0 a1 a2 a3:Int) (a4:J1) (a5 a6 a7:Int):z137.C.evTop 77 (ifun Tryz.f77) [(.agg [(.int .i64 a0),(.int .i64 a1),(.int .i64 a2),(.int .i64 a3),(.str a4)]),(.agg [(.int .i64 a5),(.int .i64 a6),(.int .i64 a7)])] z29.dec=z137.F a0 a1 a2 a3 a4 a5 a6 a7:=by kernel_rfl
def z140.C:Ctx where
 T:=tab
 draws:=λf i=>match f,i with|181,5=>([(32,[(3,9)],0),(33,[(5,0)],0),(34,[(31,1),(32,2)],3),(35,[(33,3)],7),(36,[(3,9)],0),(37,[(5,0)],0),(38,[(35,5),(36,6)],48),(39,[(34,4),(37,7)],127),(4,[(38,8)],255)],547608330248)|_,_=>([],0)
 call:=Qh [(13,z28.pack),(161,z33.pack),(36,z5.pack)]
theorem z140.link (a0:J0) (a1:Bool) (a2:Int):z140.C.evTop 181 (ifun Tryz.f181) [(.agg [(.ints false .u64 a0),(.bool a1),(.int .i64 a2)])] z103.dec=z140.F a0 a1 a2:=by kernel_rfl
def z145.l0sh:Env×Store:=((.recs false 5 [])::(.recs false 5 []) :: .undef :: .undef::(.bool false)::un 7 ((.int .i64 0)::(.int .i64 0)::un 12 []),[])
def z145.l0so1:Env×Store:=(un 4 ((.bool false)::un 21 []),[])
def z145.l0out0 (a c:J2) (d:Bool) (e g o:Int):X×Env×Store:=((.exit 0),Qa z145.l0sh [.lr a,.lr c,.b d,.i e,.i o])
def z145.l0out1 (a c:J2) (d:Bool) (e g:Int) (o:Bool):X×Env×Store:=(.ret,Qa z145.l0so1 [.b o])
def z145.l0pack:List Leaf->Option LPack
 |[.lr a,.lr c,.b d,.i e,.i g]=>some (.two _ _ (z145.l0 a c e g) (z145.l0out0 a c d e g) (z145.l0out1 a c d e g))
 |_=>none
def z145.C:Ctx where
 T:=tab
 draws:=λf i=>match f,i with|27,6=>([(17,[(0,0)],0),(18,[(5,0)],0),(19,[(16,1),(17,2)],3),(20,[(18,3)],7),(21,[(1,0)],0),(22,[(5,0)],0),(23,[(20,5),(21,6)],48),(24,[(22,7)],112),(25,[(19,4),(23,8)],255)],33488896)|_,_=>([],0)
 keep:=λf i=>match f,i with|27,0=>([0,1,4,12,13],[],[])|_,_=>([],[],[])
 keepR:=λf i=>match f,i with|27,0=>([4],[],[4])|_,_=>([],[],[])
 L:=λf i b st=>match f,i,b with|27,0,0=>(matchSt z145.l0sh st).bind z145.l0pack|_,_,_=>none
theorem z145.l0_link (R:Type) (k:Env×Store->Option R) (d:X×Env×Store->Option R) (a c:J2) (e:Bool) (g h:Int) :
  z145.C.loopP 27 0 (Qf 0 (ifun Tryz.f27).body) 0 k d (Qa z145.l0sh [.lr a,.lr c,.b e,.i g,.i h]) =
  z145.l0P a c g (λx'=>k (Qa z145.l0sh [.lr a,.lr c,.b e,.i g,.i x'])) (λo=>match o with | .inl o=>d (z145.l0out0 a c e g h o) | .inr o=>d (z145.l0out1 a c e g h o)) h:=by kernel_rfl
theorem z145.link (a0 a1:J2):z145.C.evTop 27 (ifun Tryz.f27) [(.recs false 5 a0),(.recs false 5 a1)] z8.dec=z145.F a0 a1:=by kernel_rfl
def z146.C:Ctx where
 T:=tab
 call:=Qh [(96,z99.pack)]
def z146.dec:V->Option (Int×Int×Int)
 |(.agg [(.int .i64 x0),(.int .i64 x1),(.int .i64 x2)])=>some (x0,x1,x2)
 |_=>none
theorem z146.link (a0 a1 a2 a3:Int):z146.C.evTop 46 (ifun Tryz.f46) [(.agg [(.int .i64 a0),(.int .i64 a1),(.int .i64 a2)]),(.int .i64 a3)] z146.dec=z146.F a0 a1 a2 a3:=by kernel_rfl
def z147.C:Ctx where
 T:=tab
 call:=Qh [(46,z146.pack)]
theorem z147.link (a0 a1 a2:Int) (a3 a4 a5:J0):z147.C.evTop 29 (ifun Tryz.f29) [(.agg [(.int .i64 a0),(.int .i64 a1),(.int .i64 a2),(.ints false .u8 a3),(.ints false .u8 a4),(.ints false .u32 a5)])] z146.dec=z147.F a0 a1 a2 a3 a4 a5:=by kernel_rfl
def z153.l0sh:Env×Store:=((.recs false 5 []) :: .undef::(.str ([]:J1))::(.strs false [])::(.str ([]:J1))::(.int .i64 0)::un 76 [],[])
def z153.l0out0 (a:J2) (b:J1) (c:List J1) (d:J1) (e:Int) (o:J1×Int):X×Env×Store:=((.exit 0),Qa z153.l0sh [.lr a,.s b,.ls c,.s o.1,.i o.2])
def z153.l0pack:List Leaf->Option LPack
 |[.lr a,.s b,.ls c,.s d,.i e]=>some (.one _ (z153.l0 a c (d,e)) (z153.l0out0 a b c d e))
 |_=>none
def z153.C:Ctx where
 T:=tab
 call:=Qh [(83,z150.pack),(84,z122.pack),(85,z152.pack)]
 keep:=λf i=>match f,i with|33,0=>([0,2,3,4,5],[],[])|_,_=>([],[],[])
 keepR:=λf i=>match f,i with|33,0=>([2],[],[2])|_,_=>([],[],[])
 L:=λf i b st=>match f,i,b with|33,0,0=>(matchSt z153.l0sh st).bind z153.l0pack|_,_,_=>none
theorem z153.l0_link (R:Type) (k:Env×Store->Option R) (d:X×Env×Store->Option R) (a:J2) (b:J1) (c:List J1) (e:J1) (g:Int) :
  z153.C.loopP 33 0 (Qf 0 (ifun Tryz.f33).body) 0 k d (Qa z153.l0sh [.lr a,.s b,.ls c,.s e,.i g]) =
  z153.l0P a c (λx'=>k (Qa z153.l0sh [.lr a,.s b,.ls c,.s x'.1,.i x'.2])) (λo=>d (z153.l0out0 a b c e g o)) (e,g):=by kernel_rfl
theorem z153.link (a0:J2):z153.C.evTop 33 (ifun Tryz.f33) [(.recs false 5 a0)] z103.dec=z153.F a0:=by kernel_rfl
end
noncomputable section
abbrev Sn (k:List V->Option Pack) (n:FuncId):Prop:=∀vs p,k vs=some p->SoundC Tryz.prog n vs p
theorem Qd:tab.check Tryz.prog=true:=by kernel_rfl
def tabC:Ctx where
 T:=tab
theorem Qe:Tryz.prog.follows .mixedOrders=true:=by kernel_rfl
theorem z7.inlF:InlF Tryz.prog z7.C where
 prim g h hp:=by simp [z7.C] at hp
 fn g fn h:=by simp [z7.C] at h
 loops g fn h:=by simp [z7.C] at h
theorem z7.sound:SoundP Tryz.prog 121 (blkP [139] z7.pk):=by
 refine Qf2 Qd Qe rfl Qs z7.inlF ⟨Tryz.func121,rfl,by kernel_rfl⟩ rfl λcss rest p h=>?_
 unfold z7.pk at h;split at h<;>cases h
 exact ⟨_,_,z7.dec,rfl,rfl,z7.link _ _ _,λv css' r h=>by unfold z7.dec at h;split at h<;>cases h;exact ⟨rfl,rfl,rfl⟩⟩
theorem z8.hdec:Q5 z8.dec z8.enc:=by
 intro v r h
 unfold z8.dec at h;split at h<;>cases h
 exact ⟨rfl,rfl⟩
theorem z8.sound:Sn z8.pack 60:=by
 intro vs p h;unfold z8.pack at h;split at h<;>cases h
 exact Qj Qd Qe rfl rfl rfl rfl Qs ⟨Tryz.func60,rfl,by kernel_rfl⟩ rfl (z8.link _) z8.hdec
theorem z9.sound:Sn z9.pack 195:=by
 intro vs p h;unfold z9.pack at h;split at h<;>cases h
 exact Qj Qd Qe rfl rfl rfl rfl Qs ⟨Tryz.func195,rfl,by kernel_rfl⟩ rfl (z9.link _) z8.hdec
theorem z10.hdec:Q5 z29.dec z10.enc:=by
 intro v r h
 unfold z29.dec at h;split at h<;>cases h
 exact ⟨rfl,rfl⟩
theorem z10.sound:Sn z10.pack 153:=by
 intro vs p h;unfold z10.pack at h;split at h<;>cases h
 exact Qj Qd Qe rfl rfl rfl rfl (Qb z9.sound Qi) ⟨Tryz.func153,rfl,by kernel_rfl⟩ rfl (z10.link _ _) z10.hdec
theorem z11.sound:Sn z11.pack 196:=by
 intro vs p h;unfold z11.pack at h;split at h<;>cases h
 exact Qj Qd Qe rfl rfl rfl rfl Qs ⟨Tryz.func196,rfl,by kernel_rfl⟩ rfl (z11.link _) z8.hdec
theorem z12.sound:Sn z12.pack 154:=by
 intro vs p h;unfold z12.pack at h;split at h<;>cases h
 exact Qj Qd Qe rfl rfl rfl rfl (Qb z11.sound Qi) ⟨Tryz.func154,rfl,by kernel_rfl⟩ rfl (z12.link _ _) z10.hdec
theorem z13.l0_sound (hI:InlOK Tryz.prog z13.C λR=>z13.C.inlK 6):Qk z13.C 6 105 0 0 (Qf 0 (ifun Tryz.f105).body) z13.l0sh z13.l0pack:=by
 refine Ql λls p h=>?_
 unfold z13.l0pack at h;split at h<;>cases h
 rename_i a b c e
 exact Wh hI (sh:=z13.l0sh) (so:=z13.l0sh) (so':=z13.l0so1) (F:=λR rec done x=>z13.l0P c e rec done x) (enc:=λ(x':Int)=>Qa z13.l0sh [.i a,.i x',.li c,.li e]) (.exit 0) [1] [1] [0] b (by kernel_rfl) (by kernel_rfl) (λx=>by kernel_rfl) (λo=>by kernel_rfl) (λo=>by kernel_rfl) λR k d x'=>z13.l0_link R k d a (x') c e
theorem Qsi:Qm (ifun Tryz.f105).body=true:=by kernel_rfl
theorem z13.loopsT (hI:InlOK Tryz.prog z13.C λR=>z13.C.inlK 6):LoopsOK z13.C (λR=>z13.C.inlK 6) 105 0 (ifun Tryz.f105).body:=by
 intro id b hm st p hp
 obtain rfl:=Qn Qsi hm
 unfold z13.C at hp
 simp only at hp
 try split at hp
 all_goals first
  |(simp at hp;done)
  |(exfalso;omega)
  |exact z13.l0_sound hI st p hp
theorem z13.sound:Sn z13.pack 105:=by
 intro vs p h;unfold z13.pack at h;split at h<;>cases h
 exact Qv Qd Qe rfl rfl rfl (Qb z10.sound (Qb z12.sound Qi)) ⟨Tryz.func105,rfl,by kernel_rfl⟩ z13.loopsT rfl (z13.link _ _) z10.hdec
theorem z14.l0_sound (hI:InlOK Tryz.prog z14.C λR=>z14.C.inlK 6):Qk z14.C 6 104 0 0 (Qf 0 (ifun Tryz.f104).body) z14.l0sh z14.l0pack:=by
 refine Ql λls p h=>?_
 unfold z14.l0pack at h;split at h<;>cases h
 rename_i a b c
 exact Qp hI (sh:=z14.l0sh) (so:=z14.l0sh) (F:=λR rec done x=>z14.l0P a rec done x) (enc:=λ(x':Int)=>Qa z14.l0sh [.li a,.i x',.li c]) [1] [1] b (by kernel_rfl) (by kernel_rfl) (λx=>by kernel_rfl) (λo=>by kernel_rfl) λR k d x'=>z14.l0_link R k d a (x') c
theorem Qp9:Qm (ifun Tryz.f104).body=true:=by kernel_rfl
theorem z14.loopsT (hI:InlOK Tryz.prog z14.C λR=>z14.C.inlK 6):LoopsOK z14.C (λR=>z14.C.inlK 6) 104 0 (ifun Tryz.f104).body:=by
 intro id b hm st p hp
 obtain rfl:=Qn Qp9 hm
 unfold z14.C at hp
 simp only at hp
 try split at hp
 all_goals first
  |(simp at hp;done)
  |(exfalso;omega)
  |exact z14.l0_sound hI st p hp
theorem z14.hdec:Q5 z15.dec z14.enc:=by
 intro v r h
 unfold z15.dec at h;split at h<;>cases h
 exact ⟨rfl,rfl⟩
theorem z14.sound:Sn z14.pack 104:=by
 intro vs p h;unfold z14.pack at h;split at h<;>cases h
 exact Qv Qd Qe rfl rfl rfl Qs ⟨Tryz.func104,rfl,by kernel_rfl⟩ z14.loopsT rfl (z14.link _) z14.hdec
theorem prim157:SoundP Tryz.prog 157 (cloneP (.ints true .u64 []) 183 8):=Qup (C:=tabC) Qd (f:=Tryz.f157) (t:=35) ⟨Tryz.func157,rfl,by kernel_rfl⟩ rfl (by decide) (by kernel_rfl) (by kernel_rfl) (by kernel_rfl) (by decide) (by kernel_rfl) rfl rfl (by kernel_rfl)
theorem z15.inlF:InlF Tryz.prog z15.C where
 prim g h hp:=by
  unfold z15.C at hp;simp only at hp;split at hp
  ·simp only [Option.some.injEq] at hp;subst hp;exact prim157
  ·simp at hp
 fn g fn h:=by simp [z15.C] at h
 loops g fn h:=by simp [z15.C] at h
theorem z15.sound:Sn z15.pack 108:=by
 intro vs p h;unfold z15.pack at h;split at h<;>cases h
 exact Wy Qd Qe rfl (Qb z14.sound Qi) z15.inlF ⟨Tryz.func108,rfl,by kernel_rfl⟩ (λ_=>noLoops rfl _ _ _ _) rfl (z15.link _) z14.hdec
theorem fun109:FunOK Tryz.prog 109 Tryz.f109 (ifun Tryz.f109).body:=⟨Tryz.func109,rfl,by kernel_rfl⟩
theorem z16.inlF:InlF Tryz.prog z16.C where
 prim g h hp:=by
  unfold z16.C at hp;simp only at hp;split at hp
  ·simp only [Option.some.injEq] at hp;subst hp;exact prim157
  ·simp at hp
 fn g fn h:=by simp [z16.C] at h
 loops g fn h:=by simp [z16.C] at h
theorem z16.sound:Sn z16.pack 109:=by
 intro vs p h;unfold z16.pack at h;split at h<;>cases h
 exact Wy Qd Qe rfl Qs z16.inlF fun109 (λ_=>noLoops rfl _ _ _ _) rfl (z16.link _) (by intro v r h;unfold z16.dec at h;split at h<;>cases h;exact ⟨rfl,rfl⟩)
theorem z17.sound:Sn z17.pack 232:=by
 intro vs p h;unfold z17.pack at h;split at h<;>cases h
 exact Qj Qd Qe rfl rfl rfl rfl Qs ⟨Tryz.func232,rfl,by kernel_rfl⟩ rfl (z17.link _) z10.hdec
theorem z18.sound:Sn z18.pack 198:=by
 intro vs p h;unfold z18.pack at h;split at h<;>cases h
 exact Qj Qd Qe rfl rfl rfl rfl (Qb z17.sound Qi) ⟨Tryz.func198,rfl,by kernel_rfl⟩ rfl (z18.link _) z10.hdec
theorem z19.l0_sound (hI:InlOK Tryz.prog z19.C λR=>z19.C.inlK 6):Qk z19.C 6 197 0 0 (Qf 0 (ifun Tryz.f197).body) z19.l0sh z19.l0pack:=by
 refine Ql λls p h=>?_
 unfold z19.l0pack at h;split at h<;>cases h
 rename_i a b c e g j m n q r s
 exact Qp hI (sh:=z19.l0sh) (so:=z19.l0sh) (F:=λR rec done x=>z19.l0P g j n rec done x) (enc:=λ(x':(Int×Int))=>Qa z19.l0sh [.i a,.i b,.i c,.i e,.i g,.i j,.i m,.i n,.i q,.i x'.1,.i x'.2]) [9,10] [9,10] (r,s) (by kernel_rfl) (by kernel_rfl) (λx=>by kernel_rfl) (λo=>by kernel_rfl) λR k d x'=>z19.l0_link R k d a b c e g j m n q (x'.1) (x'.2)
theorem z19.l2_sound (hI:InlOK Tryz.prog z19.C λR=>z19.C.inlK 6):Qk z19.C 6 197 2 0 (Qf 2 (ifun Tryz.f197).body) z19.l2sh z19.l2pack:=by
 refine Ql λls p h=>?_
 unfold z19.l2pack at h;split at h<;>cases h
 rename_i a b c e g j m n q r s
 exact Qp hI (sh:=z19.l2sh) (so:=z19.l2sh) (F:=λR rec done x=>z19.l2P g j m rec done x) (enc:=λ(x':(Int×Int))=>Qa z19.l2sh [.i a,.i b,.i c,.i e,.i g,.i j,.i m,.i n,.i x'.1,.i r,.i x'.2]) [8,10] [8,10] (q,s) (by kernel_rfl) (by kernel_rfl) (λx=>by kernel_rfl) (λo=>by kernel_rfl) λR k d x'=>z19.l2_link R k d a b c e g j m n (x'.1) r (x'.2)
theorem Qqt:Qm (ifun Tryz.f197).body=true:=by kernel_rfl
theorem z19.loopsT (hI:InlOK Tryz.prog z19.C λR=>z19.C.inlK 6):LoopsOK z19.C (λR=>z19.C.inlK 6) 197 0 (ifun Tryz.f197).body:=by
 intro id b hm st p hp
 obtain rfl:=Qn Qqt hm
 unfold z19.C at hp
 simp only at hp
 try split at hp
 all_goals first
  |(simp at hp;done)
  |(exfalso;omega)
  |exact z19.l0_sound hI st p hp
  |exact z19.l2_sound hI st p hp
theorem z19.hdec:Q5 z19.dec z19.enc:=by
 intro v r h
 unfold z19.dec at h;split at h<;>cases h
 exact ⟨rfl,rfl⟩
theorem z19.sound:Sn z19.pack 197:=by
 intro vs p h;unfold z19.pack at h;split at h<;>cases h
 exact Qv Qd Qe rfl rfl rfl (Qb z18.sound Qi) ⟨Tryz.func197,rfl,by kernel_rfl⟩ z19.loopsT rfl (z19.link _ _ _) z19.hdec
theorem z20.l0_sound (hI:InlOK Tryz.prog z20.C λR=>z20.C.inlK 6):Qk z20.C 6 155 0 0 (Qf 0 (ifun Tryz.f155).body) z20.l0sh z20.l0pack:=by
 refine Ql λls p h=>?_
 unfold z20.l0pack at h;split at h<;>cases h
 rename_i a b c e g j m
 exact Qp hI (sh:=z20.l0sh) (so:=z20.l0sh) (F:=λR rec done x=>z20.l0P a b rec done x) (enc:=λ(x':(Int×Int×J0))=>Qa z20.l0sh [.li a,.i b,.i c,.i x'.1,.i x'.2.1,.li j,.li x'.2.2]) [3,4,6] [3,4,6] (e,g,m) (by kernel_rfl) (by kernel_rfl) (λx=>by kernel_rfl) (λo=>by kernel_rfl) λR k d x'=>z20.l0_link R k d a b c (x'.1) (x'.2.1) j (x'.2.2)
theorem Qsk:Qm (ifun Tryz.f155).body=true:=by kernel_rfl
theorem z20.loopsT (hI:InlOK Tryz.prog z20.C λR=>z20.C.inlK 6):LoopsOK z20.C (λR=>z20.C.inlK 6) 155 0 (ifun Tryz.f155).body:=by
 intro id b hm st p hp
 obtain rfl:=Qn Qsk hm
 unfold z20.C at hp
 simp only at hp
 try split at hp
 all_goals first
  |(simp at hp;done)
  |(exfalso;omega)
  |exact z20.l0_sound hI st p hp
theorem z20.sound:Sn z20.pack 155:=by
 intro vs p h;unfold z20.pack at h;split at h<;>cases h
 exact Qv Qd Qe rfl rfl rfl (Qb z19.sound Qi) ⟨Tryz.func155,rfl,by kernel_rfl⟩ z20.loopsT rfl (z20.link _ _) (by intro v r h;unfold z20.dec at h;split at h<;>cases h;exact ⟨rfl,rfl⟩)
theorem z21.sound:Sn z21.pack 145:=by
 intro vs p h;unfold z21.pack at h;split at h<;>cases h
 exact Qj Qd Qe rfl rfl rfl rfl Qs ⟨Tryz.func145,rfl,by kernel_rfl⟩ rfl (z21.link _ _) z19.hdec
theorem z22.sound:Sn z22.pack 233:=by
 intro vs p h;unfold z22.pack at h;split at h<;>cases h
 exact Qj Qd Qe rfl rfl rfl rfl Qs ⟨Tryz.func233,rfl,by kernel_rfl⟩ rfl (z22.link _) z8.hdec
theorem z23.l0_sound (hI:InlOK Tryz.prog z23.C λR=>z23.C.inlK 6):Qk z23.C 6 203 0 0 (Qf 0 (ifun Tryz.f203).body) z23.l0sh z23.l0pack:=by
 refine Ql λls p h=>?_
 unfold z23.l0pack at h;split at h<;>cases h
 rename_i a b c e g j m q
 exact Qp hI (sh:=z23.l0sh) (so:=z23.l0sh) (F:=λR rec done x=>z23.l0P b c e g rec done x) (enc:=λ(x':(Int×J0))=>Qa z23.l0sh [.i a,.n b,.n c,.i e,.i g,.i x'.1,.li m,.li x'.2]) [5,7] [5,7] (j,q) (by kernel_rfl) (by kernel_rfl) (λx=>by kernel_rfl) (λo=>by kernel_rfl) λR k d x'=>z23.l0_link R k d a b c e g (x'.1) m (x'.2)
theorem Qwh:Qm (ifun Tryz.f203).body=true:=by kernel_rfl
theorem z23.loopsT (hI:InlOK Tryz.prog z23.C λR=>z23.C.inlK 6):LoopsOK z23.C (λR=>z23.C.inlK 6) 203 0 (ifun Tryz.f203).body:=by
 intro id b hm st p hp
 obtain rfl:=Qn Qwh hm
 unfold z23.C at hp
 simp only at hp
 try split at hp
 all_goals first
  |(simp at hp;done)
  |(exfalso;omega)
  |exact z23.l0_sound hI st p hp
theorem z23.loops109 (hI:InlOK Tryz.prog z23.C λR=>z23.C.inlK 1) (base:Nat):LoopsOK z23.C (λR=>z23.C.inlK 1) 109 base (ifun Tryz.f109).body:=by
 intro id b hm st p hp
 exfalso
 unfold z23.C at hp
 simp only at hp
 try split at hp
 all_goals first|(simp at hp;done)|omega
theorem z23.inlF:InlF Tryz.prog z23.C where
 prim g h hp:=by
  unfold z23.C at hp;simp only at hp;split at hp
  ·simp only [Option.some.injEq] at hp;subst hp;exact prim157
  ·simp at hp
 fn g fn h:=by
  unfold z23.C at h;simp only at h;split at h
  ·simp only [Option.some.injEq] at h;subst h;exact ⟨_,_,fun109,rfl⟩
  ·simp at h
 loops g fn h:=by
  unfold z23.C at h;simp only at h;split at h
  ·simp only [Option.some.injEq] at h;subst h;exact λhI base=>z23.loops109 hI base
  ·simp at h
theorem z23.hdec:Q5 z45.dec z23.enc:=by
 intro v r h
 unfold z45.dec at h;split at h<;>cases h
 exact ⟨rfl,rfl⟩
theorem z23.sound:Sn z23.pack 203:=by
 intro vs p h;unfold z23.pack at h;split at h<;>cases h
 exact Wy Qd Qe rfl (Qb z22.sound (Qb z15.sound Qi)) z23.inlF ⟨Tryz.func203,rfl,by kernel_rfl⟩ z23.loopsT rfl (z23.link _ _) z23.hdec
theorem z24.l0_sound (hI:InlOK Tryz.prog z24.C λR=>z24.C.inlK 0):Qk z24.C 0 199 0 2 (Qf 0 (ifun Tryz.f199).body) z24.l0sh z24.l0pack:=by
 refine Ql λls p h=>?_
 unfold z24.l0pack at h;split at h<;>cases h
 rename_i a b c e g j m n
 exact Qp hI (sh:=z24.l0sh) (so:=z24.l0sh) (F:=λR rec done x=>z24.l0P a b c rec done x) (enc:=λ(x':(Int×J0))=>Qa z24.l0sh [.i a,.li b,.i c,.i x'.1,.li g,.li j,.li m,.li x'.2]) [3,7] [3,7] (e,n) (by kernel_rfl) (by kernel_rfl) (λx=>by kernel_rfl) (λo=>by kernel_rfl) λR k d x'=>z24.l0_link R k d a b c (x'.1) g j m (x'.2)
theorem z24.l0a_sound (hI:InlOK Tryz.prog z24.C λR=>z24.C.inlK 0):Qk z24.C 0 199 0 4 (Qf 0 (ifun Tryz.f199).body) z24.l0ash z24.l0apack:=by
 refine Ql λls p h=>?_
 unfold z24.l0apack at h;split at h<;>cases h
 rename_i a b c e g j m n q r
 exact Qp hI (sh:=z24.l0ash) (so:=z24.l0ash) (F:=λR rec done x=>z24.l0aP a b c rec done x) (enc:=λ(x':(Int×J0))=>Qa z24.l0ash [.i a,.li b,.i c,.i x'.1,.li g,.li j,.li m,.li n,.li q,.li x'.2]) [3,9] [3,9] (e,r) (by kernel_rfl) (by kernel_rfl) (λx=>by kernel_rfl) (λo=>by kernel_rfl) λR k d x'=>z24.l0a_link R k d a b c (x'.1) g j m n q (x'.2)
theorem z24.l0b3_sound (hI:InlOK Tryz.prog z24.C λR=>z24.C.inlK 0):Qk z24.C 0 201 0 7 (Qf 0 (ifun Tryz.f201).body) z24.l0b3sh z24.l0b3pack:=by
 refine Ql λls p h=>?_
 unfold z24.l0b3pack at h;split at h<;>cases h
 rename_i a b c e g j m q r s t u v w y z A
 exact Qp hI (sh:=z24.l0b3sh) (so:=z24.l0b3sh) (F:=λR rec done x=>z24.l0b3P a b g r s t z rec done x) (enc:=λ(x':(Int×Int×Int×J0))=>Qa z24.l0b3sh [.n a,.n b,.n c,.n e,.i g,.i j,.i x'.1,.i x'.2.1,.n r,.n s,.i t,.i x'.2.2.1,.li v,.li w,.li x'.2.2.2,.li z,.li A]) [6,7,11,14] [6,7,11,14] (m,q,u,y) (by kernel_rfl) (by kernel_rfl) (λx=>by kernel_rfl) (λo=>by kernel_rfl) λR k d x'=>z24.l0b3_link R k d a b c e g j (x'.1) (x'.2.1) r s t (x'.2.2.1) v w (x'.2.2.2) z A
theorem z24.l0b4_sound (hI:InlOK Tryz.prog z24.C λR=>z24.C.inlK 0):Qk z24.C 0 202 0 7 (Qf 0 (ifun Tryz.f202).body) z24.l0b4sh z24.l0b4pack:=by
 refine Ql λls p h=>?_
 unfold z24.l0b4pack at h;split at h<;>cases h
 rename_i a b c e g j m q r s t u v w
 exact Qp hI (sh:=z24.l0b4sh) (so:=z24.l0b4sh) (F:=λR rec done x=>z24.l0b4P a b j m q v rec done x) (enc:=λ(x':(Int×Int×J0))=>Qa z24.l0b4sh [.n a,.n b,.n c,.n e,.i x'.1,.n j,.n m,.i q,.i x'.2.1,.li s,.li t,.li x'.2.2,.li v,.li w]) [4,8,11] [4,8,11] (g,r,u) (by kernel_rfl) (by kernel_rfl) (λx=>by kernel_rfl) (λo=>by kernel_rfl) λR k d x'=>z24.l0b4_link R k d a b c e (x'.1) j m q (x'.2.1) s t (x'.2.2) v w
theorem z24.l2_sound (hI:InlOK Tryz.prog z24.C λR=>z24.C.inlK 6):Qk z24.C 6 156 2 0 (Qf 2 (ifun Tryz.f156).body) z24.l2sh z24.l2pack:=by
 refine Ql λls p h=>?_
 unfold z24.l2pack at h;split at h<;>cases h
 rename_i a b c e g j m q r s t u v
 exact Qp hI (sh:=z24.l2sh) (so:=z24.l2sh) (F:=λR rec done x=>z24.l2P a b g j u rec done x) (enc:=λ(x':(Int×Int×J0))=>Qa z24.l2sh [.n a,.n b,.i c,.i e,.n g,.n j,.i x'.1,.i x'.2.1,.li r,.li s,.li x'.2.2,.li u,.li v]) [6,7,10] [6,7,10] (m,q,t) (by kernel_rfl) (by kernel_rfl) (λx=>by kernel_rfl) (λo=>by kernel_rfl) λR k d x'=>z24.l2_link R k d a b c e g j (x'.1) (x'.2.1) r s (x'.2.2) u v
theorem z24.l0aa_sound (hI:InlOK Tryz.prog z24.C λR=>z24.C.inlK 6):Qk z24.C 6 156 0 0 (Qf 0 (ifun Tryz.f156).body) z24.l0aash z24.l0aapack:=by
 refine Ql λls p h=>?_
 unfold z24.l0aapack at h;split at h<;>cases h
 rename_i a b c e g j m q r
 exact Qp hI (sh:=z24.l0aash) (so:=z24.l0aash) (F:=λR rec done x=>z24.l0aaP a b q rec done x) (enc:=λ(x':(Int×J0×J0))=>Qa z24.l0aash [.n a,.n b,.i c,.i x'.1,.li g,.li j,.li x'.2.1,.li q,.li x'.2.2]) [3,6,8] [3,6,8] (e,m,r) (by kernel_rfl) (by kernel_rfl) (λx=>by kernel_rfl) (λo=>by kernel_rfl) λR k d x'=>z24.l0aa_link R k d a b c (x'.1) g j (x'.2.1) q (x'.2.2)
theorem Que:Qm (ifun Tryz.f156).body=true:=by kernel_rfl
theorem Qpj:Qm (ifun Tryz.f199).body=true:=by kernel_rfl
theorem Qss:Qm (ifun Tryz.f201).body=true:=by kernel_rfl
theorem Qpl:Qm (ifun Tryz.f202).body=true:=by kernel_rfl
theorem z24.loopsT (hI:InlOK Tryz.prog z24.C λR=>z24.C.inlK 6):LoopsOK z24.C (λR=>z24.C.inlK 6) 156 0 (ifun Tryz.f156).body:=by
 intro id b hm st p hp
 obtain rfl:=Qn Que hm
 unfold z24.C at hp
 simp only at hp
 try split at hp
 all_goals first
  |(simp at hp;done)
  |(exfalso;omega)
  |exact z24.l2_sound hI st p hp
  |exact z24.l0aa_sound hI st p hp
theorem z24.loops199 (hI:InlOK Tryz.prog z24.C λR=>z24.C.inlK 0) (base:Nat):LoopsOK z24.C (λR=>z24.C.inlK 0) 199 base (ifun Tryz.f199).body:=by
 intro id b hm st p hp
 obtain rfl:=Qn Qpj hm
 unfold z24.C at hp
 simp only at hp
 by_cases hb2:base=2
 ·subst hb2
  try split at hp
  all_goals first
   |(simp at hp;done)
   |(exfalso;omega)
   |exact z24.l0_sound hI st p hp
 by_cases hb4:base=4
 ·subst hb4
  try split at hp
  all_goals first
   |(simp at hp;done)
   |(exfalso;omega)
   |exact z24.l0a_sound hI st p hp
 exfalso
 try split at hp
 all_goals first|(simp at hp;done)|omega
theorem z24.loops200 (hI:InlOK Tryz.prog z24.C λR=>z24.C.inlK 0) (base:Nat):LoopsOK z24.C (λR=>z24.C.inlK 0) 200 base (ifun Tryz.f200).body:=by
 intro id b hm st p hp
 exfalso
 unfold z24.C at hp
 simp only at hp
 try split at hp
 all_goals first|(simp at hp;done)|omega
theorem z24.loops201 (hI:InlOK Tryz.prog z24.C λR=>z24.C.inlK 0) (base:Nat):LoopsOK z24.C (λR=>z24.C.inlK 0) 201 base (ifun Tryz.f201).body:=by
 intro id b hm st p hp
 obtain rfl:=Qn Qss hm
 unfold z24.C at hp
 simp only at hp
 try split at hp
 all_goals first
  |(simp at hp;done)
  |(exfalso;omega)
  |exact z24.l0b3_sound hI st p hp
theorem z24.loops202 (hI:InlOK Tryz.prog z24.C λR=>z24.C.inlK 0) (base:Nat):LoopsOK z24.C (λR=>z24.C.inlK 0) 202 base (ifun Tryz.f202).body:=by
 intro id b hm st p hp
 obtain rfl:=Qn Qpl hm
 unfold z24.C at hp
 simp only at hp
 try split at hp
 all_goals first
  |(simp at hp;done)
  |(exfalso;omega)
  |exact z24.l0b4_sound hI st p hp
theorem z24.inlF:InlF Tryz.prog z24.C where
 prim g h hp:=by simp [z24.C] at hp
 fn g fn h:=by
  unfold z24.C at h;simp only at h;split at h
  ·simp only [Option.some.injEq] at h;subst h;exact ⟨_,_,⟨Tryz.func199,rfl,by kernel_rfl⟩,rfl⟩
  ·simp only [Option.some.injEq] at h;subst h;exact ⟨_,_,⟨Tryz.func200,rfl,by kernel_rfl⟩,rfl⟩
  ·simp only [Option.some.injEq] at h;subst h;exact ⟨_,_,⟨Tryz.func201,rfl,by kernel_rfl⟩,rfl⟩
  ·simp only [Option.some.injEq] at h;subst h;exact ⟨_,_,⟨Tryz.func202,rfl,by kernel_rfl⟩,rfl⟩
  ·simp at h
 loops g fn h:=by
  unfold z24.C at h;simp only at h;split at h
  ·simp only [Option.some.injEq] at h;subst h;exact λhI base=>z24.loops199 hI base
  ·simp only [Option.some.injEq] at h;subst h;exact λhI base=>z24.loops200 hI base
  ·simp only [Option.some.injEq] at h;subst h;exact λhI base=>z24.loops201 hI base
  ·simp only [Option.some.injEq] at h;subst h;exact λhI base=>z24.loops202 hI base
  ·simp at h
theorem z24.sound:Sn z24.pack 156:=by
 intro vs p h;unfold z24.pack at h;split at h<;>cases h
 exact Wy Qd Qe rfl (Qb z18.sound (Qb z21.sound (Qb z0.sound (Qb z1.sound (Qb z19.sound (Qb z15.sound (Qb z23.sound (Qb z16.sound Qi)))))))) z24.inlF ⟨Tryz.func156,rfl,by kernel_rfl⟩ z24.loopsT rfl (z24.link _ _) (by intro v r h;unfold z24.dec at h;split at h<;>cases h;exact ⟨rfl,rfl⟩)
theorem z25.sound:Sn z25.pack 107:=by
 intro vs p h;unfold z25.pack at h;split at h<;>cases h
 exact Qj Qd Qe rfl rfl rfl rfl (Qb z8.sound (Qb z13.sound (Qb z16.sound (Qb z20.sound (Qb z15.sound (Qb z24.sound Qi)))))) ⟨Tryz.func107,rfl,by kernel_rfl⟩ rfl (z25.link _ _) (by intro v r h;unfold z25.dec at h;split at h<;>cases h;exact ⟨rfl,rfl⟩)
theorem z26.l0_sound (hI:InlOK Tryz.prog z26.C λR=>z26.C.inlK 6):Qk z26.C 6 110 0 0 (Qf 0 (ifun Tryz.f110).body) z26.l0sh z26.l0pack:=by
 refine Ql λls p h=>?_
 unfold z26.l0pack at h;split at h<;>cases h
 rename_i a b c e g
 exact Qp hI (sh:=z26.l0sh) (so:=z26.l0sh) (F:=λR rec done x=>z26.l0P b rec done x) (enc:=λ(x':(Int×Int×J0))=>Qa z26.l0sh [.i x'.1,.i b,.s c,.i x'.2.1,.li x'.2.2]) [0,3,4] [0,3,4] (a,e,g) (by kernel_rfl) (by kernel_rfl) (λx=>by kernel_rfl) (λo=>by kernel_rfl) λR k d x'=>z26.l0_link R k d (x'.1) b c (x'.2.1) (x'.2.2)
theorem Qt5:Qm (ifun Tryz.f110).body=true:=by kernel_rfl
theorem z26.loopsT (hI:InlOK Tryz.prog z26.C λR=>z26.C.inlK 6):LoopsOK z26.C (λR=>z26.C.inlK 6) 110 0 (ifun Tryz.f110).body:=by
 intro id b hm st p hp
 obtain rfl:=Qn Qt5 hm
 unfold z26.C at hp
 simp only at hp
 try split at hp
 all_goals first
  |(simp at hp;done)
  |(exfalso;omega)
  |exact z26.l0_sound hI st p hp
theorem z26.hdec:Q5 z103.dec z26.enc:=by
 intro v r h
 unfold z103.dec at h;split at h<;>cases h
 exact ⟨rfl,rfl⟩
theorem z26.sound:Sn z26.pack 110:=by
 intro vs p h;unfold z26.pack at h;split at h<;>cases h
 exact Qv Qd Qe rfl rfl rfl Qs ⟨Tryz.func110,rfl,by kernel_rfl⟩ z26.loopsT rfl (z26.link _ _) z26.hdec
theorem z27.l2_sound (hI:InlOK Tryz.prog z27.C λR=>z27.C.inlK 6):Qk z27.C 6 55 2 0 (Qf 2 (ifun Tryz.f55).body) z27.l2sh z27.l2pack:=by
 refine Ql λls p h=>?_
 unfold z27.l2pack at h;split at h<;>cases h
 rename_i a b c e g j m n
 exact Qp hI (sh:=z27.l2sh) (so:=z27.l2sh) (F:=λR rec done x=>z27.l2P c e rec done x) (enc:=λ(x':(Int×Int))=>Qa z27.l2sh [.s a,.i x'.1,.li c,.i e,.i x'.2,.li j,.ls m,.li n]) [1,4] [1,4] (b,g) (by kernel_rfl) (by kernel_rfl) (λx=>by kernel_rfl) (λo=>by kernel_rfl) λR k d x'=>z27.l2_link R k d a (x'.1) c e (x'.2) j m n
theorem z27.l0_sound (hI:InlOK Tryz.prog z27.C λR=>z27.C.inlK 6):Qk z27.C 6 55 0 0 (Qf 0 (ifun Tryz.f55).body) z27.l0sh z27.l0pack:=by
 refine Ql λls p h=>?_
 unfold z27.l0pack at h;split at h<;>cases h
 rename_i a b c
 exact Qp hI (sh:=z27.l0sh) (so:=z27.l0sh) (F:=λR rec done x=>z27.l0P rec done x) (enc:=λ(x':(J0×(List J1)))=>Qa z27.l0sh [.s a,.li x'.1,.ls x'.2]) [1,2] [1,2] (b,c) (by kernel_rfl) (by kernel_rfl) (λx=>by kernel_rfl) (λo=>by kernel_rfl) λR k d x'=>z27.l0_link R k d a (x'.1) (x'.2)
theorem z27.l4_sound (hI:InlOK Tryz.prog z27.C λR=>z27.C.inlK 6):Qk z27.C 6 55 4 0 (Qf 4 (ifun Tryz.f55).body) z27.l4sh z27.l4pack:=by
 refine Ql λls p h=>?_
 unfold z27.l4pack at h;split at h<;>cases h
 rename_i a b c e
 exact Qp hI (sh:=z27.l4sh) (so:=z27.l4sh) (F:=λR rec done x=>z27.l4P c rec done x) (enc:=λ(x':(Int×J0))=>Qa z27.l4sh [.s a,.i x'.1,.ls c,.li x'.2]) [1,3] [1,3] (b,e) (by kernel_rfl) (by kernel_rfl) (λx=>by kernel_rfl) (λo=>by kernel_rfl) λR k d x'=>z27.l4_link R k d a (x'.1) c (x'.2)
theorem Qs2:Qm (ifun Tryz.f55).body=true:=by kernel_rfl
theorem fun80:FunOK Tryz.prog 80 Tryz.f80 (ifun Tryz.f80).body:=⟨Tryz.func80,rfl,by kernel_rfl⟩
theorem fun78:FunOK Tryz.prog 78 Tryz.f78 (ifun Tryz.f78).body:=⟨Tryz.func78,rfl,by kernel_rfl⟩
theorem z27.loopsT (hI:InlOK Tryz.prog z27.C λR=>z27.C.inlK 6):LoopsOK z27.C (λR=>z27.C.inlK 6) 55 0 (ifun Tryz.f55).body:=by
 intro id b hm st p hp
 obtain rfl:=Qn Qs2 hm
 unfold z27.C at hp
 simp only at hp
 try split at hp
 all_goals first
  |(simp at hp;done)
  |(exfalso;omega)
  |exact z27.l2_sound hI st p hp
  |exact z27.l0_sound hI st p hp
  |exact z27.l4_sound hI st p hp
theorem z27.loops80 (hI:InlOK Tryz.prog z27.C λR=>z27.C.inlK 0) (base:Nat):LoopsOK z27.C (λR=>z27.C.inlK 0) 80 base (ifun Tryz.f80).body:=by
 intro id b hm st p hp
 exfalso
 unfold z27.C at hp
 simp only at hp
 try split at hp
 all_goals first|(simp at hp;done)|omega
theorem z27.loops78 (hI:InlOK Tryz.prog z27.C λR=>z27.C.inlK 1) (base:Nat):LoopsOK z27.C (λR=>z27.C.inlK 1) 78 base (ifun Tryz.f78).body:=by
 intro id b hm st p hp
 exfalso
 unfold z27.C at hp
 simp only at hp
 try split at hp
 all_goals first|(simp at hp;done)|omega
theorem prim135:SoundP Tryz.prog 135 (copyP 159):=Qpz
theorem z27.inlF:InlF Tryz.prog z27.C where
 prim g h hp:=by
  unfold z27.C at hp;simp only at hp;split at hp
  ·simp only [Option.some.injEq] at hp;subst hp;exact prim135
  ·simp at hp
 fn g fn h:=by
  unfold z27.C at h;simp only at h;split at h
  ·simp only [Option.some.injEq] at h;subst h;exact ⟨_,_,fun80,rfl⟩
  ·simp only [Option.some.injEq] at h;subst h;exact ⟨_,_,fun78,rfl⟩
  ·simp at h
 loops g fn h:=by
  unfold z27.C at h;simp only at h;split at h
  ·simp only [Option.some.injEq] at h;subst h;exact λhI base=>z27.loops80 hI base
  ·simp only [Option.some.injEq] at h;subst h;exact λhI base=>z27.loops78 hI base
  ·simp at h
theorem z27.sound:Sn z27.pack 55:=by
 intro vs p h;unfold z27.pack at h;split at h<;>cases h
 exact Wy Qd Qe rfl (Qb z8.sound (Qb z15.sound (Qb z25.sound (Qb z16.sound (Qb z26.sound Qi))))) z27.inlF ⟨Tryz.func55,rfl,by kernel_rfl⟩ z27.loopsT rfl (z27.link _) z26.hdec
theorem z28.sound:Sn z28.pack 13:=by
 intro vs p h;unfold z28.pack at h;split at h<;>cases h
 exact Qj Qd Qe rfl rfl rfl rfl (Qb z27.sound Qi) ⟨Tryz.func13,rfl,by kernel_rfl⟩ rfl (z28.link _ _) z26.hdec
theorem z29.sound:Sn z29.pack 16:=by
 intro vs p h;unfold z29.pack at h;split at h<;>cases h
 exact Qj Qd Qe rfl rfl rfl rfl (Qb z8.sound Qi) ⟨Tryz.func16,rfl,by kernel_rfl⟩ rfl (z29.link _ _) z10.hdec
theorem z30.hdec:Q5 z40.dec z30.enc:=by
 intro v r h
 unfold z40.dec at h;split at h<;>cases h
 exact ⟨rfl,rfl⟩
theorem z30.sound:Sn z30.pack 52:=by
 intro vs p h;unfold z30.pack at h;split at h<;>cases h
 exact Qj Qd Qe rfl rfl rfl rfl (Qb z8.sound Qi) ⟨Tryz.func52,rfl,by kernel_rfl⟩ rfl (z30.link _ _) z30.hdec
theorem z31.sound:Sn z31.pack 91:=by
 intro vs p h;unfold z31.pack at h;split at h<;>cases h
 exact Qj Qd Qe rfl rfl rfl rfl Qs ⟨Tryz.func91,rfl,by kernel_rfl⟩ rfl (z31.link _ _) z8.hdec
theorem z32.hdec:Q5 z32.dec z32.enc:=by
 intro v r h
 unfold z32.dec at h;split at h<;>cases h
 exact ⟨rfl,rfl⟩
theorem z32.sound:Sn z32.pack 204:=by
 intro vs p h;unfold z32.pack at h;split at h<;>cases h
 exact Qj Qd Qe rfl rfl rfl rfl (Qb z31.sound Qi) ⟨Tryz.func204,rfl,by kernel_rfl⟩ rfl (z32.link _ _) z32.hdec
theorem z33.sound:Sn z33.pack 161:=by
 intro vs p h;unfold z33.pack at h;split at h<;>cases h
 exact Qj Qd Qe rfl rfl rfl rfl (Qb z32.sound Qi) ⟨Tryz.func161,rfl,by kernel_rfl⟩ rfl (z33.link _ _) z32.hdec
theorem z34.sound:Sn z34.pack 103:=by
 intro vs p h;unfold z34.pack at h;split at h<;>cases h
 exact Qj Qd Qe rfl rfl rfl rfl Qs ⟨Tryz.func103,rfl,by kernel_rfl⟩ rfl (z34.link _ _) (by intro v r h;unfold z34.dec at h;split at h<;>cases h;exact ⟨rfl,rfl⟩)
theorem z35.l0_sound (hI:InlOK Tryz.prog z35.C λR=>z35.C.inlK 6):Qk z35.C 6 53 0 0 (Qf 0 (ifun Tryz.f53).body) z35.l0sh z35.l0pack:=by
 refine Ql λls p h=>?_
 unfold z35.l0pack at h;split at h<;>cases h
 rename_i a b c e g j m
 exact Qp hI (sh:=z35.l0sh) (so:=z35.l0sh) (F:=λR rec done x=>z35.l0P b e g rec done x) (enc:=λ(x':(Int×Int×J0))=>Qa z35.l0sh [.i x'.1,.i b,.i x'.2.1,.li e,.li g,.li j,.li x'.2.2]) [0,2,6] [0,2,6] (a,c,m) (by kernel_rfl) (by kernel_rfl) (λx=>by kernel_rfl) (λo=>by kernel_rfl) λR k d x'=>z35.l0_link R k d (x'.1) b (x'.2.1) e g j (x'.2.2)
theorem Qo9:Qm (ifun Tryz.f53).body=true:=by kernel_rfl
theorem z35.loopsT (hI:InlOK Tryz.prog z35.C λR=>z35.C.inlK 6):LoopsOK z35.C (λR=>z35.C.inlK 6) 53 0 (ifun Tryz.f53).body:=by
 intro id b hm st p hp
 obtain rfl:=Qn Qo9 hm
 unfold z35.C at hp
 simp only at hp
 try split at hp
 all_goals first
  |(simp at hp;done)
  |(exfalso;omega)
  |exact z35.l0_sound hI st p hp
theorem z35.sound:Sn z35.pack 53:=by
 intro vs p h;unfold z35.pack at h;split at h<;>cases h
 exact Qv Qd Qe rfl rfl rfl (Qb z34.sound (Qb z0.sound (Qb z14.sound Qi))) ⟨Tryz.func53,rfl,by kernel_rfl⟩ z35.loopsT rfl (z35.link _ _) z14.hdec
theorem z36.l0a_sound (hI:InlOK Tryz.prog z36.C λR=>z36.C.inlK 0):Qk z36.C 0 237 0 4 (Qf 0 (ifun Tryz.f237).body) z36.l0ash z36.l0apack:=by
 refine Ql λls p h=>?_
 unfold z36.l0apack at h;split at h<;>cases h
 rename_i a b c e g j m q r s t
 exact Qp hI (sh:=z36.l0ash) (so:=z36.l0ash) (F:=λR rec done x=>z36.l0aP a b c g j rec done x) (enc:=λ(x':(Int×Int×J0))=>Qa z36.l0ash [.i a,.n b,.n c,.i x'.1,.li g,.i j,.i x'.2.1,.li q,.li r,.li x'.2.2,.li t]) [3,6,9] [3,6,9] (e,m,s) (by kernel_rfl) (by kernel_rfl) (λx=>by kernel_rfl) (λo=>by kernel_rfl) λR k d x'=>z36.l0a_link R k d a b c (x'.1) g j (x'.2.1) q r (x'.2.2) t
theorem z36.l0_sound (hI:InlOK Tryz.prog z36.C λR=>z36.C.inlK 6):Qk z36.C 6 206 0 0 (Qf 0 (ifun Tryz.f206).body) z36.l0sh z36.l0pack:=by
 refine Ql λls p h=>?_
 unfold z36.l0pack at h;split at h<;>cases h
 rename_i a b c e g j
 exact Qp hI (sh:=z36.l0sh) (so:=z36.l0sh) (F:=λR rec done x=>z36.l0P a b e rec done x) (enc:=λ(x':(Int×J0))=>Qa z36.l0sh [.li a,.i b,.i x'.1,.li e,.li g,.li x'.2]) [2,5] [2,5] (c,j) (by kernel_rfl) (by kernel_rfl) (λx=>by kernel_rfl) (λo=>by kernel_rfl) λR k d x'=>z36.l0_link R k d a b (x'.1) e g (x'.2)
theorem Qqe:Qm (ifun Tryz.f206).body=true:=by kernel_rfl
theorem Qvc:Qm (ifun Tryz.f237).body=true:=by kernel_rfl
theorem z36.loopsT (hI:InlOK Tryz.prog z36.C λR=>z36.C.inlK 6):LoopsOK z36.C (λR=>z36.C.inlK 6) 206 0 (ifun Tryz.f206).body:=by
 intro id b hm st p hp
 obtain rfl:=Qn Qqe hm
 unfold z36.C at hp
 simp only at hp
 try split at hp
 all_goals first
  |(simp at hp;done)
  |(exfalso;omega)
  |exact z36.l0_sound hI st p hp
theorem z36.loops237 (hI:InlOK Tryz.prog z36.C λR=>z36.C.inlK 0) (base:Nat):LoopsOK z36.C (λR=>z36.C.inlK 0) 237 base (ifun Tryz.f237).body:=by
 intro id b hm st p hp
 obtain rfl:=Qn Qvc hm
 unfold z36.C at hp
 simp only at hp
 try split at hp
 all_goals first
  |(simp at hp;done)
  |(exfalso;omega)
  |exact z36.l0a_sound hI st p hp
theorem z36.inlF:InlF Tryz.prog z36.C where
 prim g h hp:=by simp [z36.C] at hp
 fn g fn h:=by
  unfold z36.C at h;simp only at h;split at h
  ·simp only [Option.some.injEq] at h;subst h;exact ⟨_,_,⟨Tryz.func237,rfl,by kernel_rfl⟩,rfl⟩
  ·simp at h
 loops g fn h:=by
  unfold z36.C at h;simp only at h;split at h
  ·simp only [Option.some.injEq] at h;subst h;exact λhI base=>z36.loops237 hI base
  ·simp at h
theorem z36.sound:Sn z36.pack 206:=by
 intro vs p h;unfold z36.pack at h;split at h<;>cases h
 exact Wy Qd Qe rfl (Qb z21.sound (Qb z0.sound (Qb z14.sound Qi))) z36.inlF ⟨Tryz.func206,rfl,by kernel_rfl⟩ z36.loopsT rfl (z36.link _ _) z14.hdec
theorem z37.l2_sound (hI:InlOK Tryz.prog z37.C λR=>z37.C.inlK 6):Qk z37.C 6 162 2 0 (Qf 2 (ifun Tryz.f162).body) z37.l2sh z37.l2pack:=by
 refine Ql λls p h=>?_
 unfold z37.l2pack at h;split at h<;>cases h
 rename_i a b c e g j m q
 exact Qp hI (sh:=z37.l2sh) (so:=z37.l2sh) (F:=λR rec done x=>z37.l2P m rec done x) (enc:=λ(x':(Int×Nat))=>Qa z37.l2sh [.s a,.i b,.i c,.i x'.1,.li g,.li j,.s m,.n x'.2]) [3,7] [3,7] (e,q) (by kernel_rfl) (by kernel_rfl) (λx=>by kernel_rfl) (λo=>by kernel_rfl) λR k d x'=>z37.l2_link R k d a b c (x'.1) g j m (x'.2)
theorem z37.l2a_sound (hI:InlOK Tryz.prog z37.C λR=>z37.C.inlK 6):Qk z37.C 6 162 2 0 (Qf 2 (ifun Tryz.f162).body) z37.l2ash z37.l2apack:=by
 refine Ql λls p h=>?_
 unfold z37.l2apack at h;split at h<;>cases h
 rename_i a c e g j m q r t u
 exact Qp hI (sh:=z37.l2ash) (so:=z37.l2ash) (F:=λR rec done x=>z37.l2aP t rec done x) (enc:=λ(x':(Int×Nat))=>Qa z37.l2ash [.s a,.i c,.i e,.i x'.1,.i j,.b m,.li q,.li r,.s t,.n x'.2]) [3,9] [3,9] (g,u) (by kernel_rfl) (by kernel_rfl) (λx=>by kernel_rfl) (λo=>by kernel_rfl) λR k d x'=>z37.l2a_link R k d a c e (x'.1) j m q r t (x'.2)
theorem z37.l0_sound (hI:InlOK Tryz.prog z37.C λR=>z37.C.inlK 6):Qk z37.C 6 162 0 0 (Qf 0 (ifun Tryz.f162).body) z37.l0sh z37.l0pack:=by
 refine Ql λls p h=>?_
 unfold z37.l0pack at h;split at h<;>cases h
 rename_i a c e g j
 exact Qp hI (sh:=z37.l0sh) (so:=z37.l0sh) (F:=λR rec done x=>z37.l0P rec done x) (enc:=λ(x':(J1×Bool×J0))=>Qa z37.l0sh [.s x'.1,.i c,.b x'.2.1,.li g,.li x'.2.2]) [0,2,4] [0,2,4] (a,e,j) (by kernel_rfl) (by kernel_rfl) (λx=>by kernel_rfl) (λo=>by kernel_rfl) λR k d x'=>z37.l0_link R k d (x'.1) c (x'.2.1) g (x'.2.2)
theorem Qoh:Qm (ifun Tryz.f162).body=true:=by kernel_rfl
theorem z37.loopsT (hI:InlOK Tryz.prog z37.C λR=>z37.C.inlK 6):LoopsOK z37.C (λR=>z37.C.inlK 6) 162 0 (ifun Tryz.f162).body:=by
 intro id b hm st p hp
 obtain rfl:=Qn Qoh hm
 unfold z37.C at hp
 simp only at hp
 try split at hp
 all_goals first
  |(simp at hp;done)
  |(exfalso;omega)
  |exact (orP_some hp).elim (λh=>z37.l2_sound hI st p h) (λh=>z37.l2a_sound hI st p h)
  |exact z37.l0_sound hI st p hp
theorem z37.sound:Sn z37.pack 162:=by
 intro vs p h;unfold z37.pack at h;split at h<;>cases h
 exact Qv Qd Qe rfl rfl rfl (Qb z3.sound (Qb z15.sound (Qb z36.sound (Qb z35.sound Qi)))) ⟨Tryz.func162,rfl,by kernel_rfl⟩ z37.loopsT rfl (z37.link _) z23.hdec
theorem z38.hdec:Q5 z47.dec z38.enc:=by
 intro v r h
 unfold z47.dec at h;split at h<;>cases h
 exact ⟨rfl,rfl⟩
theorem z38.sound:Sn z38.pack 117:=by
 intro vs p h;unfold z38.pack at h;split at h<;>cases h
 exact Qj Qd Qe rfl rfl rfl rfl (Qb z33.sound (Qb z37.sound (Qb z8.sound (Qb z30.sound Qi)))) ⟨Tryz.func117,rfl,by kernel_rfl⟩ rfl (z38.link _) z38.hdec
theorem z39.l0_sound (hI:InlOK Tryz.prog z39.C λR=>z39.C.inlK 6):Qk z39.C 6 54 0 0 (Qf 0 (ifun Tryz.f54).body) z39.l0sh z39.l0pack:=by
 refine Ql λls p h=>?_
 unfold z39.l0pack at h;split at h<;>cases h
 rename_i a c e g j m n q
 exact Qp hI (sh:=z39.l0sh) (so:=z39.l0sh) (F:=λR rec done x=>z39.l0P e j m rec done x) (enc:=λ(x':(Int×Int×J0))=>Qa z39.l0sh [.b a,.i x'.1,.i e,.i x'.2.1,.li j,.li m,.li n,.li x'.2.2]) [1,3,7] [1,3,7] (c,g,q) (by kernel_rfl) (by kernel_rfl) (λx=>by kernel_rfl) (λo=>by kernel_rfl) λR k d x'=>z39.l0_link R k d a (x'.1) e (x'.2.1) j m n (x'.2.2)
theorem Qov:Qm (ifun Tryz.f54).body=true:=by kernel_rfl
theorem z39.loopsT (hI:InlOK Tryz.prog z39.C λR=>z39.C.inlK 6):LoopsOK z39.C (λR=>z39.C.inlK 6) 54 0 (ifun Tryz.f54).body:=by
 intro id b hm st p hp
 obtain rfl:=Qn Qov hm
 unfold z39.C at hp
 simp only at hp
 try split at hp
 all_goals first
  |(simp at hp;done)
  |(exfalso;omega)
  |exact z39.l0_sound hI st p hp
theorem z39.sound:Sn z39.pack 54:=by
 intro vs p h;unfold z39.pack at h;split at h<;>cases h
 exact Qv Qd Qe rfl rfl rfl (Qb z13.sound (Qb z34.sound (Qb z1.sound (Qb z14.sound Qi)))) ⟨Tryz.func54,rfl,by kernel_rfl⟩ z39.loopsT rfl (z39.link _ _) (by intro v r h;unfold z39.dec at h;split at h<;>cases h;exact ⟨rfl,rfl⟩)
theorem z40.sound:Sn z40.pack 12:=by
 intro vs p h;unfold z40.pack at h;split at h<;>cases h
 exact Qj Qd Qe rfl rfl rfl rfl (Qb z35.sound (Qb z30.sound (Qb z39.sound Qi))) ⟨Tryz.func12,rfl,by kernel_rfl⟩ rfl (z40.link _ _ _ _) z30.hdec
theorem z41.sound:Sn z41.pack 66:=by
 intro vs p h;unfold z41.pack at h;split at h<;>cases h
 exact Qj Qd Qe rfl rfl rfl rfl (Qb z30.sound Qi) ⟨Tryz.func66,rfl,by kernel_rfl⟩ rfl (z41.link _ _) z30.hdec
theorem z42.sound:Sn z42.pack 194:=by
 intro vs p h;unfold z42.pack at h;split at h<;>cases h
 exact Qj Qd Qe rfl rfl rfl rfl (Qb z41.sound (Qb z40.sound Qi)) ⟨Tryz.func194,rfl,by kernel_rfl⟩ rfl (z42.link _ _ _ _) z30.hdec
theorem z43.sound:Sn z43.pack 241:=by
 intro vs p h;unfold z43.pack at h;split at h<;>cases h
 exact Qj Qd Qe rfl rfl rfl rfl (Qb z42.sound (Qb z29.sound Qi)) ⟨Tryz.func241,rfl,by kernel_rfl⟩ rfl (z43.link _ _ _ _) z10.hdec
theorem z44.l0_sound (hI:InlOK Tryz.prog z44.C λR=>z44.C.inlK 6):Qk z44.C 6 257 0 0 (Qf 0 (ifun Tryz.f257).body) z44.l0sh z44.l0pack:=by
 refine Ql λls p h=>?_
 unfold z44.l0pack at h;split at h<;>cases h
 rename_i a b c e
 exact Qp hI (sh:=z44.l0sh) (so:=z44.l0sh) (F:=λR rec done x=>z44.l0P rec done x) (enc:=λ(x':(Int×J0×J0))=>Qa z44.l0sh [.i x'.1,.li x'.2.1,.li c,.li x'.2.2]) [0,1,3] [0,1,3] (a,b,e) (by kernel_rfl) (by kernel_rfl) (λx=>by kernel_rfl) (λo=>by kernel_rfl) λR k d x'=>z44.l0_link R k d (x'.1) (x'.2.1) c (x'.2.2)
theorem Qo4:Qm (ifun Tryz.f257).body=true:=by kernel_rfl
theorem z44.loopsT (hI:InlOK Tryz.prog z44.C λR=>z44.C.inlK 6):LoopsOK z44.C (λR=>z44.C.inlK 6) 257 0 (ifun Tryz.f257).body:=by
 intro id b hm st p hp
 obtain rfl:=Qn Qo4 hm
 unfold z44.C at hp
 simp only at hp
 try split at hp
 all_goals first
  |(simp at hp;done)
  |(exfalso;omega)
  |exact z44.l0_sound hI st p hp
theorem z44.sound:Sn z44.pack 257:=by
 intro vs p h;unfold z44.pack at h;split at h<;>cases h
 exact Qv Qd Qe rfl rfl rfl (Qb z15.sound (Qb z36.sound Qi)) ⟨Tryz.func257,rfl,by kernel_rfl⟩ z44.loopsT rfl (z44.link _ _) z14.hdec
theorem z45.sound:Sn z45.pack 252:=by
 intro vs p h;unfold z45.pack at h;split at h<;>cases h
 exact Qj Qd Qe rfl rfl rfl rfl (Qb z15.sound (Qb z44.sound Qi)) ⟨Tryz.func252,rfl,by kernel_rfl⟩ rfl (z45.link _) z23.hdec
theorem z46.sound:Sn z46.pack 242:=by
 intro vs p h;unfold z46.pack at h;split at h<;>cases h
 exact Qj Qd Qe rfl rfl rfl rfl (Qb z45.sound (Qb z30.sound Qi)) ⟨Tryz.func242,rfl,by kernel_rfl⟩ rfl z46.link z30.hdec
theorem z47.sound:Sn z47.pack 218:=by
 intro vs p h;unfold z47.pack at h;split at h<;>cases h
 exact Qj Qd Qe rfl rfl rfl rfl (Qb z38.sound (Qb z29.sound (Qb z46.sound (Qb z43.sound Qi)))) ⟨Tryz.func218,rfl,by kernel_rfl⟩ rfl (z47.link _) z38.hdec
theorem z48.sound:Sn z48.pack 176:=by
 intro vs p h;unfold z48.pack at h;split at h<;>cases h
 exact Qj Qd Qe rfl rfl rfl rfl (Qb z47.sound (Qb z29.sound Qi)) ⟨Tryz.func176,rfl,by kernel_rfl⟩ rfl (z48.link _) z10.hdec
theorem z49.sound:Sn z49.pack 212:=by
 intro vs p h;unfold z49.pack at h;split at h<;>cases h
 exact Qj Qd Qe rfl rfl rfl rfl (Qb z3.sound Qi) ⟨Tryz.func212,rfl,by kernel_rfl⟩ rfl (z49.link _) z8.hdec
theorem fun190:FunOK Tryz.prog 190 Tryz.f190 (ifun Tryz.f190).body:=⟨Tryz.func190,rfl,by kernel_rfl⟩
theorem z50.inlF:InlF Tryz.prog z50.C where
 prim g h hp:=by simp [z50.C] at hp
 fn g fn h:=by
  unfold z50.C at h;simp only at h;split at h
  ·simp only [Option.some.injEq] at h;subst h;exact ⟨_,_,⟨Tryz.func211,rfl,by kernel_rfl⟩,rfl⟩
  ·simp only [Option.some.injEq] at h;subst h;exact ⟨_,_,⟨Tryz.func239,rfl,by kernel_rfl⟩,rfl⟩
  ·simp only [Option.some.injEq] at h;subst h;exact ⟨_,_,⟨Tryz.func148,rfl,by kernel_rfl⟩,rfl⟩
  ·simp only [Option.some.injEq] at h;subst h;exact ⟨_,_,fun190,rfl⟩
  ·simp at h
 loops g fn h:=by
  unfold z50.C at h;simp only at h;split at h
  ·simp only [Option.some.injEq] at h;subst h;exact λhI base=>noLoops rfl _ _ _ _
  ·simp only [Option.some.injEq] at h;subst h;exact λhI base=>noLoops rfl _ _ _ _
  ·simp only [Option.some.injEq] at h;subst h;exact λhI base=>noLoops rfl _ _ _ _
  ·simp only [Option.some.injEq] at h;subst h;exact λhI base=>noLoops rfl _ _ _ _
  ·simp at h
theorem z50.hdec:Q5 z50.dec z50.enc:=by
 intro v r h
 unfold z50.dec at h;split at h<;>cases h
 exact ⟨rfl,rfl⟩
theorem z50.sound:Sn z50.pack 171:=by
 intro vs p h;unfold z50.pack at h;split at h<;>cases h
 exact Wy Qd Qe rfl (Qb z33.sound (Qb z49.sound (Qb z3.sound (Qb z4.sound (Qb z37.sound (Qb z30.sound (Qb z2.sound Qi))))))) z50.inlF ⟨Tryz.func171,rfl,by kernel_rfl⟩ (λ_=>noLoops rfl _ _ _ _) rfl (z50.link _) z50.hdec
theorem z51.sound:Sn z51.pack 224:=by
 intro vs p h;unfold z51.pack at h;split at h<;>cases h
 exact Qj Qd Qe rfl rfl rfl rfl Qs ⟨Tryz.func224,rfl,by kernel_rfl⟩ rfl (z51.link _) z8.hdec
theorem z52.sound:Sn z52.pack 180:=by
 intro vs p h;unfold z52.pack at h;split at h<;>cases h
 exact Qj Qd Qe rfl rfl rfl rfl (Qb z51.sound Qi) ⟨Tryz.func180,rfl,by kernel_rfl⟩ rfl (z52.link _ _ _) z50.hdec
theorem z53.sound:Sn z53.pack 214:=by
 intro vs p h;unfold z53.pack at h;split at h<;>cases h
 exact Qj Qd Qe rfl rfl rfl rfl Qs ⟨Tryz.func214,rfl,by kernel_rfl⟩ rfl (z53.link _ _ _) z10.hdec
theorem z54.sound:Sn z54.pack 215:=by
 intro vs p h;unfold z54.pack at h;split at h<;>cases h
 exact Qj Qd Qe rfl rfl rfl rfl Qs ⟨Tryz.func215,rfl,by kernel_rfl⟩ rfl (z54.link _ _ _) z30.hdec
theorem z55.sound:Sn z55.pack 219:=by
 intro vs p h;unfold z55.pack at h;split at h<;>cases h
 exact Qj Qd Qe rfl rfl rfl rfl (Qb z15.sound (Qb z30.sound Qi)) ⟨Tryz.func219,rfl,by kernel_rfl⟩ rfl (z55.link _) z30.hdec
theorem z56.sound:Sn z56.pack 245:=by
 intro vs p h;unfold z56.pack at h;split at h<;>cases h
 exact Qj Qd Qe rfl rfl rfl rfl (Qb z45.sound (Qb z30.sound Qi)) ⟨Tryz.func245,rfl,by kernel_rfl⟩ rfl (z56.link _) z30.hdec
theorem z57.sound:Sn z57.pack 246:=by
 intro vs p h;unfold z57.pack at h;split at h<;>cases h
 exact Qj Qd Qe rfl rfl rfl rfl (Qb z36.sound (Qb z30.sound Qi)) ⟨Tryz.func246,rfl,by kernel_rfl⟩ rfl (z57.link _ _ _ _) z30.hdec
theorem z58.sound:Sn z58.pack 243:=by
 intro vs p h;unfold z58.pack at h;split at h<;>cases h
 exact Qj Qd Qe rfl rfl rfl rfl (Qb z56.sound (Qb z57.sound Qi)) ⟨Tryz.func243,rfl,by kernel_rfl⟩ rfl (z58.link _ _ _ _) z30.hdec
theorem z59.sound:Sn z59.pack 220:=by
 intro vs p h;unfold z59.pack at h;split at h<;>cases h
 exact Qj Qd Qe rfl rfl rfl rfl (Qb z58.sound (Qb z43.sound Qi)) ⟨Tryz.func220,rfl,by kernel_rfl⟩ rfl (z59.link _ _ _ _ _ _) z10.hdec
theorem z60.sound:Sn z60.pack 254:=by
 intro vs p h;unfold z60.pack at h;split at h<;>cases h
 exact Qj Qd Qe rfl rfl rfl rfl Qs ⟨Tryz.func254,rfl,by kernel_rfl⟩ rfl (z60.link _ _) z14.hdec
theorem z61.l0_sound (hI:InlOK Tryz.prog z61.C λR=>z61.C.inlK 6):Qk z61.C 6 258 0 0 (Qf 0 (ifun Tryz.f258).body) z61.l0sh z61.l0pack:=by
 refine Ql λls p h=>?_
 unfold z61.l0pack at h;split at h<;>cases h
 rename_i a b c
 exact Qp hI (sh:=z61.l0sh) (so:=z61.l0sh) (F:=λR rec done x=>z61.l0P rec done x) (enc:=λ(x':(J0×J0))=>Qa z61.l0sh [.li x'.1,.li x'.2,.li c]) [0,1] [0,1] (a,b) (by kernel_rfl) (by kernel_rfl) (λx=>by kernel_rfl) (λo=>by kernel_rfl) λR k d x'=>z61.l0_link R k d (x'.1) (x'.2) c
theorem Qtz:Qm (ifun Tryz.f258).body=true:=by kernel_rfl
theorem z61.loopsT (hI:InlOK Tryz.prog z61.C λR=>z61.C.inlK 6):LoopsOK z61.C (λR=>z61.C.inlK 6) 258 0 (ifun Tryz.f258).body:=by
 intro id b hm st p hp
 obtain rfl:=Qn Qtz hm
 unfold z61.C at hp
 simp only at hp
 try split at hp
 all_goals first
  |(simp at hp;done)
  |(exfalso;omega)
  |exact z61.l0_sound hI st p hp
theorem z61.sound:Sn z61.pack 258:=by
 intro vs p h;unfold z61.pack at h;split at h<;>cases h
 exact Qv Qd Qe rfl rfl rfl (Qb z8.sound (Qb z25.sound Qi)) ⟨Tryz.func258,rfl,by kernel_rfl⟩ z61.loopsT rfl (z61.link _ _) z14.hdec
theorem z62.hdec:Q5 z62.dec z62.enc:=by
 intro v r h
 unfold z62.dec at h;split at h<;>cases h
 exact ⟨rfl,rfl⟩
theorem z62.sound:Sn z62.pack 253:=by
 intro vs p h;unfold z62.pack at h;split at h<;>cases h
 exact Qj Qd Qe rfl rfl rfl rfl (Qb z60.sound (Qb z61.sound (Qb z25.sound (Qb z15.sound (Qb z39.sound (Qb z29.sound (Qb z30.sound Qi))))))) ⟨Tryz.func253,rfl,by kernel_rfl⟩ rfl (z62.link _ _ _) z62.hdec
theorem z63.hdec:Q5 z69.dec z63.enc:=by
 intro v r h
 unfold z69.dec at h;split at h<;>cases h
 exact ⟨rfl,rfl⟩
theorem z63.sound:Sn z63.pack 244:=by
 intro vs p h;unfold z63.pack at h;split at h<;>cases h
 exact Qj Qd Qe rfl rfl rfl rfl (Qb z29.sound (Qb z41.sound (Qb z60.sound (Qb z62.sound Qi)))) ⟨Tryz.func244,rfl,by kernel_rfl⟩ rfl (z63.link _ _ _ _) z63.hdec
theorem z64.sound:Sn z64.pack 221:=by
 intro vs p h;unfold z64.pack at h;split at h<;>cases h
 exact Qj Qd Qe rfl rfl rfl rfl (Qb z56.sound (Qb z63.sound Qi)) ⟨Tryz.func221,rfl,by kernel_rfl⟩ rfl (z64.link _ _ _) z62.hdec
theorem z65.sound:Sn z65.pack 255:=by
 intro vs p h;unfold z65.pack at h;split at h<;>cases h
 exact Qj Qd Qe rfl rfl rfl rfl (Qb z15.sound (Qb z35.sound Qi)) ⟨Tryz.func255,rfl,by kernel_rfl⟩ rfl (z65.link _ _ _) z14.hdec
theorem z66.sound:Sn z66.pack 247:=by
 intro vs p h;unfold z66.pack at h;split at h<;>cases h
 exact Qj Qd Qe rfl rfl rfl rfl (Qb z65.sound (Qb z30.sound Qi)) ⟨Tryz.func247,rfl,by kernel_rfl⟩ rfl (z66.link _ _ _) z30.hdec
theorem z67.sound:Sn z67.pack 222:=by
 intro vs p h;unfold z67.pack at h;split at h<;>cases h
 exact Qj Qd Qe rfl rfl rfl rfl (Qb z66.sound (Qb z57.sound (Qb z63.sound Qi))) ⟨Tryz.func222,rfl,by kernel_rfl⟩ rfl (z67.link _ _ _ _ _ _) z63.hdec
theorem z68.sound:Sn z68.pack 223:=by
 intro vs p h;unfold z68.pack at h;split at h<;>cases h
 exact Qj Qd Qe rfl rfl rfl rfl Qs ⟨Tryz.func223,rfl,by kernel_rfl⟩ rfl (z68.link _ _) z62.hdec
theorem z69.sound:Sn z69.pack 177:=by
 intro vs p h;unfold z69.pack at h;split at h<;>cases h
 exact Qj Qd Qe rfl rfl rfl rfl (Qb z50.sound (Qb z55.sound (Qb z52.sound (Qb z54.sound (Qb z29.sound (Qb z59.sound (Qb z53.sound (Qb z64.sound (Qb z68.sound (Qb z67.sound Qi)))))))))) ⟨Tryz.func177,rfl,by kernel_rfl⟩ rfl (z69.link _) z63.hdec
theorem z70.sound:Sn z70.pack 134:=by
 intro vs p h;unfold z70.pack at h;split at h<;>cases h
 exact Qj Qd Qe rfl rfl rfl rfl (Qb z48.sound (Qb z69.sound Qi)) ⟨Tryz.func134,rfl,by kernel_rfl⟩ rfl (z70.link _ _ _ _ _) z10.hdec
theorem z71.sound:Sn z71.pack 174:=by
 intro vs p h;unfold z71.pack at h;split at h<;>cases h
 exact Qj Qd Qe rfl rfl rfl rfl (Qb z50.sound (Qb z53.sound (Qb z54.sound Qi))) ⟨Tryz.func174,rfl,by kernel_rfl⟩ rfl (z71.link _) z38.hdec
theorem z72.inlF:InlF Tryz.prog z72.C where
 prim g h hp:=by
  unfold z72.C at hp;simp only at hp;split at hp
  ·simp only [Option.some.injEq] at hp;subst hp;exact z7.sound
  ·simp at hp
 fn g fn h:=by simp [z72.C] at h
 loops g fn h:=by simp [z72.C] at h
theorem z72.sound:SoundP Tryz.prog 125 (blkP [139,70] z72.pk):=by
 refine Qf2 Qd Qe rfl (Qb z70.sound (Qb z71.sound (Qb z28.sound Qi))) z72.inlF ⟨Tryz.func125,rfl,by kernel_rfl⟩ rfl λcss rest p h=>?_
 unfold z72.pk at h;split at h<;>cases h
 exact ⟨_,_,z72.dec,rfl,rfl,z72.link _ _ _ _ _ _ _ _,λv css' r h=>by unfold z72.dec at h;split at h<;>cases h;exact ⟨rfl,rfl,rfl⟩⟩
theorem z73.l0_sound (hI:InlOK Tryz.prog z73.C λR=>z73.C.inlK 6):Qk z73.C 6 160 0 0 (Qf 0 (ifun Tryz.f160).body) z73.l0sh z73.l0pack:=by
 refine Ql λls p h=>?_
 unfold z73.l0pack at h;split at h<;>cases h
 rename_i a b c e g
 exact Wh hI (sh:=z73.l0sh) (so:=z73.l0sh) (so':=z73.l0so1) (F:=λR rec done x=>z73.l0P b c e rec done x) (enc:=λ(x':Int)=>Qa z73.l0sh [.i a,.i b,.li c,.i e,.i x']) (.exit 0) [4] [4] [0] g (by kernel_rfl) (by kernel_rfl) (λx=>by kernel_rfl) (λo=>by kernel_rfl) (λo=>by kernel_rfl) λR k d x'=>z73.l0_link R k d a b c e (x')
theorem Qrh:Qm (ifun Tryz.f160).body=true:=by kernel_rfl
theorem z73.loopsT (hI:InlOK Tryz.prog z73.C λR=>z73.C.inlK 6):LoopsOK z73.C (λR=>z73.C.inlK 6) 160 0 (ifun Tryz.f160).body:=by
 intro id b hm st p hp
 obtain rfl:=Qn Qrh hm
 unfold z73.C at hp
 simp only at hp
 try split at hp
 all_goals first
  |(simp at hp;done)
  |(exfalso;omega)
  |exact z73.l0_sound hI st p hp
theorem z73.sound:Sn z73.pack 160:=by
 intro vs p h;unfold z73.pack at h;split at h<;>cases h
 exact Qv Qd Qe rfl rfl rfl Qs ⟨Tryz.func160,rfl,by kernel_rfl⟩ z73.loopsT rfl (z73.link _) z10.hdec
theorem z74.sound:Sn z74.pack 115:=by
 intro vs p h;unfold z74.pack at h;split at h<;>cases h
 exact Qj Qd Qe rfl rfl rfl rfl (Qb z10.sound (Qb z73.sound Qi)) ⟨Tryz.func115,rfl,by kernel_rfl⟩ rfl (z74.link _ _ _ _ _ _) z10.hdec
theorem z75.l0_sound (hI:InlOK Tryz.prog z75.C λR=>z75.C.inlK 6):Qk z75.C 6 122 0 0 (Qf 0 (ifun Tryz.f122).body) z75.l0sh z75.l0pack:=by
 refine Ql λls p h=>?_
 unfold z75.l0pack at h;split at h<;>cases h
 rename_i a b c e g
 exact Wh hI (sh:=z75.l0sh) (so:=z75.l0sh) (so':=z75.l0so1) (F:=λR rec done x=>z75.l0P a b e rec done x) (enc:=λ(x':Int)=>Qa z75.l0sh [.ls a,.s b,.i c,.i e,.i x']) (.exit 0) [4] [4] [0] g (by kernel_rfl) (by kernel_rfl) (λx=>by kernel_rfl) (λo=>by kernel_rfl) (λo=>by kernel_rfl) λR k d x'=>z75.l0_link R k d a b c e (x')
theorem Qwe:Qm (ifun Tryz.f122).body=true:=by kernel_rfl
theorem z75.loopsT (hI:InlOK Tryz.prog z75.C λR=>z75.C.inlK 6):LoopsOK z75.C (λR=>z75.C.inlK 6) 122 0 (ifun Tryz.f122).body:=by
 intro id b hm st p hp
 obtain rfl:=Qn Qwe hm
 unfold z75.C at hp
 simp only at hp
 try split at hp
 all_goals first
  |(simp at hp;done)
  |(exfalso;omega)
  |exact z75.l0_sound hI st p hp
theorem z75.sound:Sn z75.pack 122:=by
 intro vs p h;unfold z75.pack at h;split at h<;>cases h
 exact Qv Qd Qe rfl rfl rfl Qs ⟨Tryz.func122,rfl,by kernel_rfl⟩ z75.loopsT rfl (z75.link _ _) z10.hdec
theorem z76.sound:Sn z76.pack 123:=by
 intro vs p h;unfold z76.pack at h;split at h<;>cases h
 exact Qj Qd Qe rfl rfl rfl rfl Qs ⟨Tryz.func123,rfl,by kernel_rfl⟩ rfl z76.link (by intro v r h;unfold z76.dec at h;split at h<;>cases h;exact ⟨rfl,rfl⟩)
theorem z77.sound:Sn z77.pack 216:=by
 intro vs p h;unfold z77.pack at h;split at h<;>cases h
 exact Qj Qd Qe rfl rfl rfl rfl Qs ⟨Tryz.func216,rfl,by kernel_rfl⟩ rfl (z77.link _) z8.hdec
theorem z78.sound:Sn z78.pack 217:=by
 intro vs p h;unfold z78.pack at h;split at h<;>cases h
 exact Qj Qd Qe rfl rfl rfl rfl (Qb z77.sound Qi) ⟨Tryz.func217,rfl,by kernel_rfl⟩ rfl (z78.link _) z8.hdec
theorem z79.sound:Sn z79.pack 175:=by
 intro vs p h;unfold z79.pack at h;split at h<;>cases h
 exact Qj Qd Qe rfl rfl rfl rfl (Qb z77.sound (Qb z78.sound Qi)) ⟨Tryz.func175,rfl,by kernel_rfl⟩ rfl (z79.link _ _) z10.hdec
theorem z80.sound:Sn z80.pack 133:=by
 intro vs p h;unfold z80.pack at h;split at h<;>cases h
 exact Qj Qd Qe rfl rfl rfl rfl (Qb z79.sound Qi) ⟨Tryz.func133,rfl,by kernel_rfl⟩ rfl (z80.link _ _ _) z10.hdec
theorem z81.l0_sound (hI:InlOK Tryz.prog z81.C λR=>z81.C.inlK 6):Qk z81.C 6 173 0 0 (Qf 0 (ifun Tryz.f173).body) z81.l0sh z81.l0pack:=by
 refine Ql λls p h=>?_
 unfold z81.l0pack at h;split at h<;>cases h
 rename_i a c e g j m
 exact Wh hI (sh:=z81.l0sh) (so:=z81.l0sh) (so':=z81.l0so1) (F:=λR rec done x=>z81.l0P a j rec done x) (enc:=λ(x':(Int×Int))=>Qa z81.l0sh [.s a,.i c,.b e,.i x'.1,.i j,.i x'.2]) (.exit 0) [3,5] [3,5] [0,1] (g,m) (by kernel_rfl) (by kernel_rfl) (λx=>by kernel_rfl) (λo=>by kernel_rfl) (λo=>by kernel_rfl) λR k d x'=>z81.l0_link R k d a c e (x'.1) j (x'.2)
theorem Qvb:Qm (ifun Tryz.f173).body=true:=by kernel_rfl
theorem z81.loopsT (hI:InlOK Tryz.prog z81.C λR=>z81.C.inlK 6):LoopsOK z81.C (λR=>z81.C.inlK 6) 173 0 (ifun Tryz.f173).body:=by
 intro id b hm st p hp
 obtain rfl:=Qn Qvb hm
 unfold z81.C at hp
 simp only at hp
 try split at hp
 all_goals first
  |(simp at hp;done)
  |(exfalso;omega)
  |exact z81.l0_sound hI st p hp
theorem z81.sound:Sn z81.pack 173:=by
 intro vs p h;unfold z81.pack at h;split at h<;>cases h
 exact Qv Qd Qe rfl rfl rfl Qs ⟨Tryz.func173,rfl,by kernel_rfl⟩ z81.loopsT rfl (z81.link _) (by intro v r h;unfold z81.dec at h;split at h<;>cases h;exact ⟨rfl,rfl⟩)
theorem z82.sound:Sn z82.pack 124:=by
 intro vs p h;unfold z82.pack at h;split at h<;>cases h
 exact Qj Qd Qe rfl rfl rfl rfl (Qb z81.sound (Qb z80.sound Qi)) ⟨Tryz.func124,rfl,by kernel_rfl⟩ rfl (z82.link _) (by intro v r h;unfold z82.dec at h;split at h<;>cases h;exact ⟨rfl,rfl⟩)
theorem z83.inlF:InlF Tryz.prog z83.C where
 prim g h hp:=by
  unfold z83.C at hp;simp only at hp;split at hp
  ·simp only [Option.some.injEq] at hp;subst hp;exact z7.sound
  ·simp only [Option.some.injEq] at hp;subst hp;exact z72.sound
  ·simp at hp
 fn g fn h:=by simp [z83.C] at h
 loops g fn h:=by simp [z83.C] at h
theorem z83.sound:SoundP Tryz.prog 71 (blkP [139] z83.pk):=by
 refine Qf2 Qd Qe rfl (Qb z76.sound (Qb z75.sound (Qb z82.sound (Qb z74.sound Qi)))) z83.inlF ⟨Tryz.func71,rfl,by kernel_rfl⟩ rfl λcss rest p h=>?_
 unfold z83.pk at h;split at h<;>cases h
 exact ⟨_,_,z83.dec,rfl,rfl,z83.link _ _ _ _ _ _,λv css' r h=>by unfold z83.dec at h;split at h<;>cases h;exact ⟨rfl,rfl,rfl⟩⟩
theorem z84.sound:Sn z84.pack 43:=by
 intro vs p h;unfold z84.pack at h;split at h<;>cases h
 exact Qj Qd Qe rfl rfl rfl rfl (Qb z31.sound Qi) ⟨Tryz.func43,rfl,by kernel_rfl⟩ rfl (z84.link _ _) z8.hdec
theorem z85.inlF:InlF Tryz.prog z85.C where
 prim g h hp:=by simp [z85.C] at hp
 fn g fn h:=by
  unfold z85.C at h;simp only at h;split at h
  ·simp only [Option.some.injEq] at h;subst h;exact ⟨_,_,fun190,rfl⟩
  ·simp at h
 loops g fn h:=by
  unfold z85.C at h;simp only at h;split at h
  ·simp only [Option.some.injEq] at h;subst h;exact λhI base=>noLoops rfl _ _ _ _
  ·simp at h
theorem z85.sound:Sn z85.pack 164:=by
 intro vs p h;unfold z85.pack at h;split at h<;>cases h
 exact Wy Qd Qe rfl (Qb z2.sound Qi) z85.inlF ⟨Tryz.func164,rfl,by kernel_rfl⟩ (λ_=>noLoops rfl _ _ _ _) rfl (z85.link _ _) z10.hdec
theorem z86.l0_sound (hI:InlOK Tryz.prog z86.C λR=>z86.C.inlK 6):Qk z86.C 6 119 0 0 (Qf 0 (ifun Tryz.f119).body) z86.l0sh z86.l0pack:=by
 refine Ql λls p h=>?_
 unfold z86.l0pack at h;split at h<;>cases h
 rename_i a b c
 exact Qp hI (sh:=z86.l0sh) (so:=z86.l0so0) (F:=λR rec done x=>z86.l0P a rec done x) (enc:=λ(x':(J1))=>Qa z86.l0sh [.s a,.i b,.s x']) [2] [0] c (by kernel_rfl) (by kernel_rfl) (λx=>by kernel_rfl) (λo=>by kernel_rfl) λR k d x'=>z86.l0_link R k d a b (x')
theorem Qq4:Qm (ifun Tryz.f119).body=true:=by kernel_rfl
theorem z86.loopsT (hI:InlOK Tryz.prog z86.C λR=>z86.C.inlK 6):LoopsOK z86.C (λR=>z86.C.inlK 6) 119 0 (ifun Tryz.f119).body:=by
 intro id b hm st p hp
 obtain rfl:=Qn Qq4 hm
 unfold z86.C at hp
 simp only at hp
 try split at hp
 all_goals first
  |(simp at hp;done)
  |(exfalso;omega)
  |exact z86.l0_sound hI st p hp
theorem z86.sound:Sn z86.pack 119:=by
 intro vs p h;unfold z86.pack at h;split at h<;>cases h
 exact Qv Qd Qe rfl rfl rfl (Qb z4.sound (Qb z84.sound (Qb z85.sound Qi))) ⟨Tryz.func119,rfl,by kernel_rfl⟩ z86.loopsT rfl (z86.link _) z10.hdec
theorem z87.sound:Sn z87.pack 165:=by
 intro vs p h;unfold z87.pack at h;split at h<;>cases h
 exact Qj Qd Qe rfl rfl rfl rfl Qs ⟨Tryz.func165,rfl,by kernel_rfl⟩ rfl (z87.link _) z8.hdec
theorem z88.sound:Sn z88.pack 168:=by
 intro vs p h;unfold z88.pack at h;split at h<;>cases h
 exact Qj Qd Qe rfl rfl rfl rfl Qs ⟨Tryz.func168,rfl,by kernel_rfl⟩ rfl (z88.link _) z8.hdec
theorem z89.sound:Sn z89.pack 167:=by
 intro vs p h;unfold z89.pack at h;split at h<;>cases h
 exact Qj Qd Qe rfl rfl rfl rfl (Qb z87.sound (Qb z88.sound Qi)) ⟨Tryz.func167,rfl,by kernel_rfl⟩ rfl (z89.link _) z8.hdec
theorem z90.sound:Sn z90.pack 169:=by
 intro vs p h;unfold z90.pack at h;split at h<;>cases h
 exact Qj Qd Qe rfl rfl rfl rfl (Qb z88.sound Qi) ⟨Tryz.func169,rfl,by kernel_rfl⟩ rfl (z90.link _) z8.hdec
theorem z91.l0_sound (hI:InlOK Tryz.prog z91.C λR=>z91.C.inlK 6):Qk z91.C 6 170 0 0 (Qf 0 (ifun Tryz.f170).body) z91.l0sh z91.l0pack:=by
 refine Ql λls p h=>?_
 unfold z91.l0pack at h;split at h<;>cases h
 rename_i a c e g
 exact Wh hI (sh:=z91.l0sh) (so:=z91.l0so0) (so':=z91.l0sh) (F:=λR rec done x=>z91.l0P a e rec done x) (enc:=λ(x':Nat)=>Qa z91.l0sh [.s a,.b c,.s e,.n x']) .ret [3] [0,2] [3] g (by kernel_rfl) (by kernel_rfl) (λx=>by kernel_rfl) (λo=>by kernel_rfl) (λo=>by kernel_rfl) λR k d x'=>z91.l0_link R k d a c e (x')
theorem Qon:Qm (ifun Tryz.f170).body=true:=by kernel_rfl
theorem z91.loopsT (hI:InlOK Tryz.prog z91.C λR=>z91.C.inlK 6):LoopsOK z91.C (λR=>z91.C.inlK 6) 170 0 (ifun Tryz.f170).body:=by
 intro id b hm st p hp
 obtain rfl:=Qn Qon hm
 unfold z91.C at hp
 simp only at hp
 try split at hp
 all_goals first
  |(simp at hp;done)
  |(exfalso;omega)
  |exact z91.l0_sound hI st p hp
theorem z91.sound:Sn z91.pack 170:=by
 intro vs p h;unfold z91.pack at h;split at h<;>cases h
 exact Qv Qd Qe rfl rfl rfl (Qb z88.sound Qi) ⟨Tryz.func170,rfl,by kernel_rfl⟩ z91.loopsT rfl (z91.link _) z8.hdec
theorem z92.sound:Sn z92.pack 240:=by
 intro vs p h;unfold z92.pack at h;split at h<;>cases h
 exact Qj Qd Qe rfl rfl rfl rfl Qs ⟨Tryz.func240,rfl,by kernel_rfl⟩ rfl (z92.link _) z8.hdec
theorem z93.sound:Sn z93.pack 213:=by
 intro vs p h;unfold z93.pack at h;split at h<;>cases h
 exact Qj Qd Qe rfl rfl rfl rfl (Qb z85.sound (Qb z92.sound Qi)) ⟨Tryz.func213,rfl,by kernel_rfl⟩ rfl (z93.link _ _) z10.hdec
theorem z94.sound:Sn z94.pack 172:=by
 intro vs p h;unfold z94.pack at h;split at h<;>cases h
 exact Qj Qd Qe rfl rfl rfl rfl (Qb z93.sound Qi) ⟨Tryz.func172,rfl,by kernel_rfl⟩ rfl (z94.link _ _) z8.hdec
theorem z95.l0_sound (hI:InlOK Tryz.prog z95.C λR=>z95.C.inlK 0):Qk z95.C 0 166 0 1 (Qf 0 (ifun Tryz.f166).body) z95.l0sh z95.l0pack:=by
 refine Ql λls p h=>?_
 unfold z95.l0pack at h;split at h<;>cases h
 rename_i a b c e g j m
 exact Wh hI (sh:=z95.l0sh) (so:=z95.l0so0) (so':=z95.l0sh) (F:=λR rec done x=>z95.l0P a j rec done x) (enc:=λ(x':Nat)=>Qa z95.l0sh [.s a,.s b,.i c,.s e,.i g,.s j,.n x']) .ret [6] [0,5] [6] m (by kernel_rfl) (by kernel_rfl) (λx=>by kernel_rfl) (λo=>by kernel_rfl) (λo=>by kernel_rfl) λR k d x'=>z95.l0_link R k d a b c e g j (x')
theorem z95.l0a_sound (hI:InlOK Tryz.prog z95.C λR=>z95.C.inlK 0):Qk z95.C 0 166 0 1 (Qf 0 (ifun Tryz.f166).body) z95.l0ash z95.l0apack:=by
 refine Ql λls p h=>?_
 unfold z95.l0apack at h;split at h<;>cases h
 rename_i a b c e g j m
 exact Wh hI (sh:=z95.l0ash) (so:=z95.l0aso0) (so':=z95.l0ash) (F:=λR rec done x=>z95.l0aP a j rec done x) (enc:=λ(x':Nat)=>Qa z95.l0ash [.s a,.s b,.i c,.s e,.i g,.s j,.n x']) .ret [6] [0,5] [6] m (by kernel_rfl) (by kernel_rfl) (λx=>by kernel_rfl) (λo=>by kernel_rfl) (λo=>by kernel_rfl) λR k d x'=>z95.l0a_link R k d a b c e g j (x')
theorem Qrx:Qm (ifun Tryz.f166).body=true:=by kernel_rfl
theorem z95.loops166 (hI:InlOK Tryz.prog z95.C λR=>z95.C.inlK 0) (base:Nat):LoopsOK z95.C (λR=>z95.C.inlK 0) 166 base (ifun Tryz.f166).body:=by
 intro id b hm st p hp
 obtain rfl:=Qn Qrx hm
 unfold z95.C at hp
 simp only at hp
 try split at hp
 all_goals first
  |(simp at hp;done)
  |(exfalso;omega)
  |exact (orP_some hp).elim (λh=>z95.l0_sound hI st p h) (λh=>z95.l0a_sound hI st p h)
theorem z95.inlF:InlF Tryz.prog z95.C where
 prim g h hp:=by simp [z95.C] at hp
 fn g fn h:=by
  unfold z95.C at h;simp only at h;split at h
  ·simp only [Option.some.injEq] at h;subst h;exact ⟨_,_,⟨Tryz.func166,rfl,by kernel_rfl⟩,rfl⟩
  ·simp at h
 loops g fn h:=by
  unfold z95.C at h;simp only at h;split at h
  ·simp only [Option.some.injEq] at h;subst h;exact λhI base=>z95.loops166 hI base
  ·simp at h
theorem z95.noTop:LoopsOK z95.C (λR=>z95.C.inlK 6) 120 0 (ifun Tryz.f120).body:=by
 intro id b hm st p hp
 exfalso
 unfold z95.C at hp
 simp only at hp
 try split at hp
 all_goals first|(simp at hp;done)|omega
theorem z95.sound:Sn z95.pack 120:=by
 intro vs p h;unfold z95.pack at h;split at h<;>cases h
 exact Wy Qd Qe rfl (Qb z87.sound (Qb z89.sound (Qb z88.sound (Qb z90.sound (Qb z91.sound (Qb z50.sound (Qb z94.sound Qi))))))) z95.inlF ⟨Tryz.func120,rfl,by kernel_rfl⟩ (λ_=>z95.noTop) rfl (z95.link _) (by intro v r h;unfold z95.dec at h;split at h<;>cases h;exact ⟨rfl,rfl⟩)
theorem z96.l0_sound (hI:InlOK Tryz.prog z96.C λR=>z96.C.inlK 6):Qk z96.C 6 70 0 0 (Qf 0 (ifun Tryz.f70).body) z96.l0sh z96.l0pack:=by
 refine Ql λls p h=>?_
 unfold z96.l0pack at h;split at h<;>cases h
 rename_i a b c e g j
 exact Wh hI (sh:=z96.l0sh) (so:=z96.l0sh) (so':=z96.l0so1) (F:=λR rec done x=>z96.l0P a rec done x) (enc:=λ(x':(Int×J2))=>Qa z96.l0sh [.s a,.i b,.i c,.i x'.1,.lr g,.lr x'.2]) (.exit 0) [3,5] [3,5] [0,1,2,4] (e,j) (by kernel_rfl) (by kernel_rfl) (λx=>by kernel_rfl) (λo=>by kernel_rfl) (λo=>by kernel_rfl) λR k d x'=>z96.l0_link R k d a b c (x'.1) g (x'.2)
theorem Qu2:Qm (ifun Tryz.f70).body=true:=by kernel_rfl
theorem z96.loopsT (hI:InlOK Tryz.prog z96.C λR=>z96.C.inlK 6):LoopsOK z96.C (λR=>z96.C.inlK 6) 70 0 (ifun Tryz.f70).body:=by
 intro id b hm st p hp
 obtain rfl:=Qn Qu2 hm
 unfold z96.C at hp
 simp only at hp
 try split at hp
 all_goals first
  |(simp at hp;done)
  |(exfalso;omega)
  |exact z96.l0_sound hI st p hp
theorem z96.sound:Sn z96.pack 70:=by
 intro vs p h;unfold z96.pack at h;split at h<;>cases h
 exact Qv Qd Qe rfl rfl rfl (Qb z86.sound (Qb z95.sound Qi)) ⟨Tryz.func70,rfl,by kernel_rfl⟩ z96.loopsT rfl (z96.link _) (by intro v r h;unfold z96.dec at h;split at h<;>cases h;exact ⟨rfl,rfl⟩)
theorem z97.l0_sound (hI:InlOK Tryz.prog z97.C λR=>z97.C.inlK 6):Qk z97.C 6 24 0 0 (Qf 0 (ifun Tryz.f24).body) z97.l0sh z97.l0pack:=by
 refine Ql λls p h=>?_
 unfold z97.l0pack at h;split at h<;>cases h
 rename_i a b c e g j m n q r
 exact Wh hI (sh:=z97.l0sh) (so:=z97.l0sh) (so':=z97.l0so1) (F:=λR rec done x=>z97.l0P rec done x) (enc:=λ(x':(J2×Int×Int×J2×Int×Int×Int))=>Qa z97.l0sh [.i a,.i b,.lr c,.lr x'.1,.i x'.2.1,.i x'.2.2.1,.lr x'.2.2.2.1,.i x'.2.2.2.2.1,.i x'.2.2.2.2.2.1,.i x'.2.2.2.2.2.2]) (.exit 0) [3,4,5,6,7,8,9] [3,4,5,6,7,8,9] [0,1,2,4,5,6,7,8,9,10] (e,g,j,m,n,q,r) (by kernel_rfl) (by kernel_rfl) (λx=>by kernel_rfl) (λo=>by kernel_rfl) (λo=>by kernel_rfl) λR k d x'=>z97.l0_link R k d a b c (x'.1) (x'.2.1) (x'.2.2.1) (x'.2.2.2.1) (x'.2.2.2.2.1) (x'.2.2.2.2.2.1) (x'.2.2.2.2.2.2)
theorem Qs4:Qm (ifun Tryz.f24).body=true:=by kernel_rfl
theorem z97.loopsT (hI:InlOK Tryz.prog z97.C λR=>z97.C.inlK 6):LoopsOK z97.C (λR=>z97.C.inlK 6) 24 0 (ifun Tryz.f24).body:=by
 intro id b hm st p hp
 obtain rfl:=Qn Qs4 hm
 unfold z97.C at hp
 simp only at hp
 try split at hp
 all_goals first
  |(simp at hp;done)
  |(exfalso;omega)
  |exact z97.l0_sound hI st p hp
theorem z97.inlF:InlF Tryz.prog z97.C where
 prim g h hp:=by
  unfold z97.C at hp;simp only at hp;split at hp
  ·simp only [Option.some.injEq] at hp;subst hp;exact z83.sound
  ·simp at hp
 fn g fn h:=by simp [z97.C] at h
 loops g fn h:=by simp [z97.C] at h
theorem z97.sound:Sn z97.pack 24:=by
 intro vs p h;unfold z97.pack at h;split at h<;>cases h
 exact Wy Qd Qe rfl (Qb z96.sound Qi) z97.inlF ⟨Tryz.func24,rfl,by kernel_rfl⟩ z97.loopsT rfl (z97.link _) (by intro v r h;unfold z97.dec at h;split at h<;>cases h;exact ⟨rfl,rfl⟩)
theorem z98.sound:Sn z98.pack 149:=by
 intro vs p h;unfold z98.pack at h;split at h<;>cases h
 exact Qj Qd Qe rfl rfl rfl rfl Qs ⟨Tryz.func149,rfl,by kernel_rfl⟩ rfl (z98.link _) z8.hdec
theorem z99.sound:Sn z99.pack 96:=by
 intro vs p h;unfold z99.pack at h;split at h<;>cases h
 exact Qj Qd Qe rfl rfl rfl rfl (Qb z98.sound Qi) ⟨Tryz.func96,rfl,by kernel_rfl⟩ rfl (z99.link _ _) z10.hdec
theorem z100.sound:Sn z100.pack 81:=by
 intro vs p h;unfold z100.pack at h;split at h<;>cases h
 exact Qj Qd Qe rfl rfl rfl rfl (Qb z99.sound Qi) ⟨Tryz.func81,rfl,by kernel_rfl⟩ rfl (z100.link _ _ _) z8.hdec
theorem z101.l0_sound (hI:InlOK Tryz.prog z101.C λR=>z101.C.inlK 6):Qk z101.C 6 75 0 0 (Qf 0 (ifun Tryz.f75).body) z101.l0sh z101.l0pack:=by
 refine Ql λls p h=>?_
 unfold z101.l0pack at h;split at h<;>cases h
 rename_i a b c e
 exact Wh hI (sh:=z101.l0sh) (so:=z101.l0sh) (so':=z101.l0so1) (F:=λR rec done x=>z101.l0P b c rec done x) (enc:=λ(x':Int)=>Qa z101.l0sh [.i a,.li b,.li c,.i x']) (.exit 0) [3] [3] [0] e (by kernel_rfl) (by kernel_rfl) (λx=>by kernel_rfl) (λo=>by kernel_rfl) (λo=>by kernel_rfl) λR k d x'=>z101.l0_link R k d a b c (x')
theorem Qvw:Qm (ifun Tryz.f75).body=true:=by kernel_rfl
theorem z101.loopsT (hI:InlOK Tryz.prog z101.C λR=>z101.C.inlK 6):LoopsOK z101.C (λR=>z101.C.inlK 6) 75 0 (ifun Tryz.f75).body:=by
 intro id b hm st p hp
 obtain rfl:=Qn Qvw hm
 unfold z101.C at hp
 simp only at hp
 try split at hp
 all_goals first
  |(simp at hp;done)
  |(exfalso;omega)
  |exact z101.l0_sound hI st p hp
theorem z101.sound:Sn z101.pack 75:=by
 intro vs p h;unfold z101.pack at h;split at h<;>cases h
 exact Qv Qd Qe rfl rfl rfl Qs ⟨Tryz.func75,rfl,by kernel_rfl⟩ z101.loopsT rfl (z101.link _ _ _ _ _ _) z10.hdec
theorem z102.l2_sound (hI:InlOK Tryz.prog z102.C λR=>z102.C.inlK 6):Qk z102.C 6 56 2 0 (Qf 2 (ifun Tryz.f56).body) z102.l2sh z102.l2pack:=by
 refine Ql λls p h=>?_
 unfold z102.l2pack at h;split at h<;>cases h
 rename_i a b c e g j
 exact Qp hI (sh:=z102.l2sh) (so:=z102.l2sh) (F:=λR rec done x=>z102.l2P rec done x) (enc:=λ(x':(J1×Int×Int))=>Qa z102.l2sh [.li a,.s b,.s x'.1,.i e,.i x'.2.1,.i x'.2.2]) [2,4,5] [2,4,5] (c,g,j) (by kernel_rfl) (by kernel_rfl) (λx=>by kernel_rfl) (λo=>by kernel_rfl) λR k d x'=>z102.l2_link R k d a b (x'.1) e (x'.2.1) (x'.2.2)
theorem z102.l0_sound (hI:InlOK Tryz.prog z102.C λR=>z102.C.inlK 6):Qk z102.C 6 56 0 0 (Qf 0 (ifun Tryz.f56).body) z102.l0sh z102.l0pack:=by
 refine Ql λls p h=>?_
 unfold z102.l0pack at h;split at h<;>cases h
 rename_i a b c e
 exact Qp hI (sh:=z102.l0sh) (so:=z102.l0sh) (F:=λR rec done x=>z102.l0P a rec done x) (enc:=λ(x':(J1×Int))=>Qa z102.l0sh [.li a,.s b,.s x'.1,.i x'.2]) [2,3] [2,3] (c,e) (by kernel_rfl) (by kernel_rfl) (λx=>by kernel_rfl) (λo=>by kernel_rfl) λR k d x'=>z102.l0_link R k d a b (x'.1) (x'.2)
theorem z102.l4_sound (hI:InlOK Tryz.prog z102.C λR=>z102.C.inlK 6):Qk z102.C 6 56 4 0 (Qf 4 (ifun Tryz.f56).body) z102.l4sh z102.l4pack:=by
 refine Ql λls p h=>?_
 unfold z102.l4pack at h;split at h<;>cases h
 rename_i a b c
 exact Qp hI (sh:=z102.l4sh) (so:=z102.l4sh) (F:=λR rec done x=>z102.l4P b rec done x) (enc:=λ(x':Int)=>Qa z102.l4sh [.s a,.s b,.i x']) [2] [2] c (by kernel_rfl) (by kernel_rfl) (λx=>by kernel_rfl) (λo=>by kernel_rfl) λR k d x'=>z102.l4_link R k d a b (x')
theorem Qr3:Qm (ifun Tryz.f56).body=true:=by kernel_rfl
theorem z102.loopsT (hI:InlOK Tryz.prog z102.C λR=>z102.C.inlK 6):LoopsOK z102.C (λR=>z102.C.inlK 6) 56 0 (ifun Tryz.f56).body:=by
 intro id b hm st p hp
 obtain rfl:=Qn Qr3 hm
 unfold z102.C at hp
 simp only at hp
 try split at hp
 all_goals first
  |(simp at hp;done)
  |(exfalso;omega)
  |exact z102.l2_sound hI st p hp
  |exact z102.l0_sound hI st p hp
  |exact z102.l4_sound hI st p hp
theorem z102.sound:Sn z102.pack 56:=by
 intro vs p h;unfold z102.pack at h;split at h<;>cases h
 exact Qv Qd Qe rfl rfl rfl Qs ⟨Tryz.func56,rfl,by kernel_rfl⟩ z102.loopsT rfl (z102.link _) z26.hdec
theorem z103.sound:Sn z103.pack 14:=by
 intro vs p h;unfold z103.pack at h;split at h<;>cases h
 exact Qj Qd Qe rfl rfl rfl rfl (Qb z102.sound Qi) ⟨Tryz.func14,rfl,by kernel_rfl⟩ rfl (z103.link _ _) z26.hdec
theorem z104.hdec:Q5 z106.dec z104.enc:=by
 intro v r h
 unfold z106.dec at h;split at h<;>cases h
 exact ⟨rfl,rfl⟩
theorem z104.sound:Sn z104.pack 69:=by
 intro vs p h;unfold z104.pack at h;split at h<;>cases h
 exact Qj Qd Qe rfl rfl rfl rfl Qs ⟨Tryz.func69,rfl,by kernel_rfl⟩ rfl (z104.link _ _) z104.hdec
theorem z105.l0_sound (hI:InlOK Tryz.prog z105.C λR=>z105.C.inlK 6):Qk z105.C 6 97 0 0 (Qf 0 (ifun Tryz.f97).body) z105.l0sh z105.l0pack:=by
 refine Ql λls p h=>?_
 unfold z105.l0pack at h;split at h<;>cases h
 rename_i a b c
 exact Qp hI (sh:=z105.l0sh) (so:=z105.l0sh) (F:=λR rec done x=>z105.l0P rec done x) (enc:=λ(x':(Int×J0))=>Qa z105.l0sh [.i x'.1,.li b,.li x'.2]) [0,2] [0,2] (a,c) (by kernel_rfl) (by kernel_rfl) (λx=>by kernel_rfl) (λo=>by kernel_rfl) λR k d x'=>z105.l0_link R k d (x'.1) b (x'.2)
theorem Qtb:Qm (ifun Tryz.f97).body=true:=by kernel_rfl
theorem z105.loopsT (hI:InlOK Tryz.prog z105.C λR=>z105.C.inlK 6):LoopsOK z105.C (λR=>z105.C.inlK 6) 97 0 (ifun Tryz.f97).body:=by
 intro id b hm st p hp
 obtain rfl:=Qn Qtb hm
 unfold z105.C at hp
 simp only at hp
 try split at hp
 all_goals first
  |(simp at hp;done)
  |(exfalso;omega)
  |exact z105.l0_sound hI st p hp
theorem z105.hdec:Q5 z107.dec z105.enc:=by
 intro v r h
 unfold z107.dec at h;split at h<;>cases h
 exact ⟨rfl,rfl⟩
theorem z105.sound:Sn z105.pack 97:=by
 intro vs p h;unfold z105.pack at h;split at h<;>cases h
 exact Qv Qd Qe rfl rfl rfl Qs ⟨Tryz.func97,rfl,by kernel_rfl⟩ z105.loopsT rfl (z105.link _) z105.hdec
theorem z106.sound:Sn z106.pack 48:=by
 intro vs p h;unfold z106.pack at h;split at h<;>cases h
 exact Qj Qd Qe rfl rfl rfl rfl (Qb z105.sound (Qb z104.sound Qi)) ⟨Tryz.func48,rfl,by kernel_rfl⟩ rfl (z106.link _) z104.hdec
theorem z107.l0_sound (hI:InlOK Tryz.prog z107.C λR=>z107.C.inlK 6):Qk z107.C 6 158 0 0 (Qf 0 (ifun Tryz.f158).body) z107.l0sh z107.l0pack:=by
 refine Ql λls p h=>?_
 unfold z107.l0pack at h;split at h<;>cases h
 rename_i a b c
 exact Qp hI (sh:=z107.l0sh) (so:=z107.l0sh) (F:=λR rec done x=>z107.l0P a rec done x) (enc:=λ(x':Int)=>Qa z107.l0sh [.li a,.i x',.li c]) [1] [1] b (by kernel_rfl) (by kernel_rfl) (λx=>by kernel_rfl) (λo=>by kernel_rfl) λR k d x'=>z107.l0_link R k d a (x') c
theorem Qvo:Qm (ifun Tryz.f158).body=true:=by kernel_rfl
theorem z107.loopsT (hI:InlOK Tryz.prog z107.C λR=>z107.C.inlK 6):LoopsOK z107.C (λR=>z107.C.inlK 6) 158 0 (ifun Tryz.f158).body:=by
 intro id b hm st p hp
 obtain rfl:=Qn Qvo hm
 unfold z107.C at hp
 simp only at hp
 try split at hp
 all_goals first
  |(simp at hp;done)
  |(exfalso;omega)
  |exact z107.l0_sound hI st p hp
theorem z107.sound:Sn z107.pack 158:=by
 intro vs p h;unfold z107.pack at h;split at h<;>cases h
 exact Qv Qd Qe rfl rfl rfl Qs ⟨Tryz.func158,rfl,by kernel_rfl⟩ z107.loopsT rfl (z107.link _) z105.hdec
theorem z108.l2_sound (hI:InlOK Tryz.prog z108.C λR=>z108.C.inlK 6):Qk z108.C 6 111 2 0 (Qf 2 (ifun Tryz.f111).body) z108.l2sh z108.l2pack:=by
 refine Ql λls p h=>?_
 unfold z108.l2pack at h;split at h<;>cases h
 rename_i a b c e g j
 exact Qp hI (sh:=z108.l2sh) (so:=z108.l2sh) (F:=λR rec done x=>z108.l2P a b rec done x) (enc:=λ(x':(Int×Int))=>Qa z108.l2sh [.s a,.i b,.i x'.1,.i x'.2,.li g,.li j]) [2,3] [2,3] (c,e) (by kernel_rfl) (by kernel_rfl) (λx=>by kernel_rfl) (λo=>by kernel_rfl) λR k d x'=>z108.l2_link R k d a b (x'.1) (x'.2) g j
theorem z108.l0_sound (hI:InlOK Tryz.prog z108.C λR=>z108.C.inlK 6):Qk z108.C 6 111 0 0 (Qf 0 (ifun Tryz.f111).body) z108.l0sh z108.l0pack:=by
 refine Ql λls p h=>?_
 unfold z108.l0pack at h;split at h<;>cases h
 rename_i a b c e
 exact Qp hI (sh:=z108.l0sh) (so:=z108.l0sh) (F:=λR rec done x=>z108.l0P a rec done x) (enc:=λ(x':(Int×J0))=>Qa z108.l0sh [.s a,.i x'.1,.li c,.li x'.2]) [1,3] [1,3] (b,e) (by kernel_rfl) (by kernel_rfl) (λx=>by kernel_rfl) (λo=>by kernel_rfl) λR k d x'=>z108.l0_link R k d a (x'.1) c (x'.2)
theorem Qs9:Qm (ifun Tryz.f111).body=true:=by kernel_rfl
theorem z108.loopsT (hI:InlOK Tryz.prog z108.C λR=>z108.C.inlK 6):LoopsOK z108.C (λR=>z108.C.inlK 6) 111 0 (ifun Tryz.f111).body:=by
 intro id b hm st p hp
 obtain rfl:=Qn Qs9 hm
 unfold z108.C at hp
 simp only at hp
 try split at hp
 all_goals first
  |(simp at hp;done)
  |(exfalso;omega)
  |exact z108.l2_sound hI st p hp
  |exact z108.l0_sound hI st p hp
theorem z108.sound:Sn z108.pack 111:=by
 intro vs p h;unfold z108.pack at h;split at h<;>cases h
 exact Qv Qd Qe rfl rfl rfl (Qb z107.sound Qi) ⟨Tryz.func111,rfl,by kernel_rfl⟩ z108.loopsT rfl (z108.link _) z105.hdec
theorem z109.sound:Sn z109.pack 57:=by
 intro vs p h;unfold z109.pack at h;split at h<;>cases h
 exact Qj Qd Qe rfl rfl rfl rfl (Qb z108.sound (Qb z104.sound Qi)) ⟨Tryz.func57,rfl,by kernel_rfl⟩ rfl (z109.link _) z104.hdec
theorem z110.l0_sound (hI:InlOK Tryz.prog z110.C λR=>z110.C.inlK 6):Qk z110.C 6 186 0 0 (Qf 0 (ifun Tryz.f186).body) z110.l0sh z110.l0pack:=by
 refine Ql λls p h=>?_
 unfold z110.l0pack at h;split at h<;>cases h
 rename_i a c e
 exact Wh hI (sh:=z110.l0sh) (so:=z110.l0sh) (so':=z110.l0so1) (F:=λR rec done x=>z110.l0P a rec done x) (enc:=λ(x':Int)=>Qa z110.l0sh [.s a,.b c,.i x']) (.exit 0) [2] [2] [0] e (by kernel_rfl) (by kernel_rfl) (λx=>by kernel_rfl) (λo=>by kernel_rfl) (λo=>by kernel_rfl) λR k d x'=>z110.l0_link R k d a c (x')
theorem Qo1:Qm (ifun Tryz.f186).body=true:=by kernel_rfl
theorem z110.loopsT (hI:InlOK Tryz.prog z110.C λR=>z110.C.inlK 6):LoopsOK z110.C (λR=>z110.C.inlK 6) 186 0 (ifun Tryz.f186).body:=by
 intro id b hm st p hp
 obtain rfl:=Qn Qo1 hm
 unfold z110.C at hp
 simp only at hp
 try split at hp
 all_goals first
  |(simp at hp;done)
  |(exfalso;omega)
  |exact z110.l0_sound hI st p hp
theorem z110.sound:Sn z110.pack 186:=by
 intro vs p h;unfold z110.pack at h;split at h<;>cases h
 exact Qv Qd Qe rfl rfl rfl Qs ⟨Tryz.func186,rfl,by kernel_rfl⟩ z110.loopsT rfl (z110.link _) z8.hdec
theorem z111.hdec:Q5 z122.dec z111.enc:=by
 intro v r h
 unfold z122.dec at h;split at h<;>cases h
 exact ⟨rfl,rfl⟩
theorem z111.sound:Sn z111.pack 140:=by
 intro vs p h;unfold z111.pack at h;split at h<;>cases h
 exact Qj Qd Qe rfl rfl rfl rfl (Qb z106.sound (Qb z110.sound (Qb z109.sound Qi))) ⟨Tryz.func140,rfl,by kernel_rfl⟩ rfl (z111.link _) z111.hdec
theorem z112.l0_sound (hI:InlOK Tryz.prog z112.C λR=>z112.C.inlK 6):Qk z112.C 6 141 0 0 (Qf 0 (ifun Tryz.f141).body) z112.l0sh z112.l0pack:=by
 refine Ql λls p h=>?_
 unfold z112.l0pack at h;split at h<;>cases h
 rename_i a b c e
 exact Qp hI (sh:=z112.l0sh) (so:=z112.l0sh) (F:=λR rec done x=>z112.l0P a rec done x) (enc:=λ(x':(J1×Int))=>Qa z112.l0sh [.i a,.s x'.1,.i x'.2,.li e]) [1,2] [1,2] (b,c) (by kernel_rfl) (by kernel_rfl) (λx=>by kernel_rfl) (λo=>by kernel_rfl) λR k d x'=>z112.l0_link R k d a (x'.1) (x'.2) e
theorem Quq:Qm (ifun Tryz.f141).body=true:=by kernel_rfl
theorem z112.loopsT (hI:InlOK Tryz.prog z112.C λR=>z112.C.inlK 6):LoopsOK z112.C (λR=>z112.C.inlK 6) 141 0 (ifun Tryz.f141).body:=by
 intro id b hm st p hp
 obtain rfl:=Qn Quq hm
 unfold z112.C at hp
 simp only at hp
 try split at hp
 all_goals first
  |(simp at hp;done)
  |(exfalso;omega)
  |exact z112.l0_sound hI st p hp
theorem z112.sound:Sn z112.pack 141:=by
 intro vs p h;unfold z112.pack at h;split at h<;>cases h
 exact Qv Qd Qe rfl rfl rfl (Qb z108.sound Qi) ⟨Tryz.func141,rfl,by kernel_rfl⟩ z112.loopsT rfl (z112.link _) z105.hdec
theorem z113.sound:Sn z113.pack 23:=by
 intro vs p h;unfold z113.pack at h;split at h<;>cases h
 exact Qj Qd Qe rfl rfl rfl rfl (Qb z104.sound Qi) ⟨Tryz.func23,rfl,by kernel_rfl⟩ rfl (z113.link _ _) z104.hdec
theorem z114.sound:Sn z114.pack 159:=by
 intro vs p h;unfold z114.pack at h;split at h<;>cases h
 exact Qj Qd Qe rfl rfl rfl rfl Qs ⟨Tryz.func159,rfl,by kernel_rfl⟩ rfl (z114.link _ _) z10.hdec
theorem z115.l0_sound (hI:InlOK Tryz.prog z115.C λR=>z115.C.inlK 6):Qk z115.C 6 112 0 0 (Qf 0 (ifun Tryz.f112).body) z115.l0sh z115.l0pack:=by
 refine Ql λls p h=>?_
 unfold z115.l0pack at h;split at h<;>cases h
 rename_i a b c e g j
 exact Qp hI (sh:=z115.l0sh) (so:=z115.l0sh) (F:=λR rec done x=>z115.l0P a b rec done x) (enc:=λ(x':(Int×Int×J0))=>Qa z115.l0sh [.li a,.li b,.i x'.1,.i x'.2.1,.li g,.li x'.2.2]) [2,3,5] [2,3,5] (c,e,j) (by kernel_rfl) (by kernel_rfl) (λx=>by kernel_rfl) (λo=>by kernel_rfl) λR k d x'=>z115.l0_link R k d a b (x'.1) (x'.2.1) g (x'.2.2)
theorem Qs8:Qm (ifun Tryz.f112).body=true:=by kernel_rfl
theorem z115.loopsT (hI:InlOK Tryz.prog z115.C λR=>z115.C.inlK 6):LoopsOK z115.C (λR=>z115.C.inlK 6) 112 0 (ifun Tryz.f112).body:=by
 intro id b hm st p hp
 obtain rfl:=Qn Qs8 hm
 unfold z115.C at hp
 simp only at hp
 try split at hp
 all_goals first
  |(simp at hp;done)
  |(exfalso;omega)
  |exact z115.l0_sound hI st p hp
theorem z115.sound:Sn z115.pack 112:=by
 intro vs p h;unfold z115.pack at h;split at h<;>cases h
 exact Qv Qd Qe rfl rfl rfl (Qb z114.sound (Qb z107.sound Qi)) ⟨Tryz.func112,rfl,by kernel_rfl⟩ z115.loopsT rfl (z115.link _ _) z105.hdec
theorem z116.l0_sound (hI:InlOK Tryz.prog z116.C λR=>z116.C.inlK 6):Qk z116.C 6 113 0 0 (Qf 0 (ifun Tryz.f113).body) z116.l0sh z116.l0pack:=by
 refine Ql λls p h=>?_
 unfold z116.l0pack at h;split at h<;>cases h
 rename_i a b c e
 exact Wh hI (sh:=z116.l0sh) (so:=z116.l0sh) (so':=z116.l0so1) (F:=λR rec done x=>z116.l0P a b rec done x) (enc:=λ(x':Int)=>Qa z116.l0sh [.li a,.li b,.i c,.i x']) (.exit 0) [3] [3] [0] e (by kernel_rfl) (by kernel_rfl) (λx=>by kernel_rfl) (λo=>by kernel_rfl) (λo=>by kernel_rfl) λR k d x'=>z116.l0_link R k d a b c (x')
theorem Qow:Qm (ifun Tryz.f113).body=true:=by kernel_rfl
theorem z116.loopsT (hI:InlOK Tryz.prog z116.C λR=>z116.C.inlK 6):LoopsOK z116.C (λR=>z116.C.inlK 6) 113 0 (ifun Tryz.f113).body:=by
 intro id b hm st p hp
 obtain rfl:=Qn Qow hm
 unfold z116.C at hp
 simp only at hp
 try split at hp
 all_goals first
  |(simp at hp;done)
  |(exfalso;omega)
  |exact z116.l0_sound hI st p hp
theorem z116.sound:Sn z116.pack 113:=by
 intro vs p h;unfold z116.pack at h;split at h<;>cases h
 exact Qv Qd Qe rfl rfl rfl Qs ⟨Tryz.func113,rfl,by kernel_rfl⟩ z116.loopsT rfl (z116.link _ _) z10.hdec
theorem z117.l0_sound (hI:InlOK Tryz.prog z117.C λR=>z117.C.inlK 6):Qk z117.C 6 114 0 0 (Qf 0 (ifun Tryz.f114).body) z117.l0sh z117.l0pack:=by
 refine Ql λls p h=>?_
 unfold z117.l0pack at h;split at h<;>cases h
 rename_i a b c e g j
 exact Qp hI (sh:=z117.l0sh) (so:=z117.l0sh) (F:=λR rec done x=>z117.l0P a b rec done x) (enc:=λ(x':(Int×Int×J0))=>Qa z117.l0sh [.li a,.li b,.i x'.1,.i x'.2.1,.li g,.li x'.2.2]) [2,3,5] [2,3,5] (c,e,j) (by kernel_rfl) (by kernel_rfl) (λx=>by kernel_rfl) (λo=>by kernel_rfl) λR k d x'=>z117.l0_link R k d a b (x'.1) (x'.2.1) g (x'.2.2)
theorem Qua:Qm (ifun Tryz.f114).body=true:=by kernel_rfl
theorem z117.loopsT (hI:InlOK Tryz.prog z117.C λR=>z117.C.inlK 6):LoopsOK z117.C (λR=>z117.C.inlK 6) 114 0 (ifun Tryz.f114).body:=by
 intro id b hm st p hp
 obtain rfl:=Qn Qua hm
 unfold z117.C at hp
 simp only at hp
 try split at hp
 all_goals first
  |(simp at hp;done)
  |(exfalso;omega)
  |exact z117.l0_sound hI st p hp
theorem z117.sound:Sn z117.pack 114:=by
 intro vs p h;unfold z117.pack at h;split at h<;>cases h
 exact Qv Qd Qe rfl rfl rfl (Qb z114.sound (Qb z107.sound Qi)) ⟨Tryz.func114,rfl,by kernel_rfl⟩ z117.loopsT rfl (z117.link _ _) z105.hdec
theorem z118.sound:Sn z118.pack 58:=by
 intro vs p h;unfold z118.pack at h;split at h<;>cases h
 exact Qj Qd Qe rfl rfl rfl rfl (Qb z115.sound (Qb z104.sound (Qb z116.sound (Qb z117.sound Qi)))) ⟨Tryz.func58,rfl,by kernel_rfl⟩ rfl (z118.link _ _ _ _) z104.hdec
theorem z119.sound:Sn z119.pack 59:=by
 intro vs p h;unfold z119.pack at h;split at h<;>cases h
 exact Qj Qd Qe rfl rfl rfl rfl (Qb z113.sound (Qb z118.sound Qi)) ⟨Tryz.func59,rfl,by kernel_rfl⟩ rfl (z119.link _ _ _ _) z104.hdec
theorem z120.sound:Sn z120.pack 187:=by
 intro vs p h;unfold z120.pack at h;split at h<;>cases h
 exact Qj Qd Qe rfl rfl rfl rfl Qs ⟨Tryz.func187,rfl,by kernel_rfl⟩ rfl (z120.link _ _) z10.hdec
theorem z121.sound:Sn z121.pack 142:=by
 intro vs p h;unfold z121.pack at h;split at h<;>cases h
 exact Qj Qd Qe rfl rfl rfl rfl (Qb z119.sound (Qb z120.sound Qi)) ⟨Tryz.func142,rfl,by kernel_rfl⟩ rfl (z121.link _ _ _ _) z10.hdec
theorem z122.sound:Sn z122.pack 84:=by
 intro vs p h;unfold z122.pack at h;split at h<;>cases h
 exact Qj Qd Qe rfl rfl rfl rfl (Qb z106.sound (Qb z111.sound (Qb z112.sound (Qb z104.sound (Qb z121.sound Qi))))) ⟨Tryz.func84,rfl,by kernel_rfl⟩ rfl (z122.link _) z111.hdec
theorem z123.l0_sound (hI:InlOK Tryz.prog z123.C λR=>z123.C.inlK 6):Qk z123.C 6 131 0 0 (Qf 0 (ifun Tryz.f131).body) z123.l0sh z123.l0pack:=by
 refine Ql λls p h=>?_
 unfold z123.l0pack at h;split at h<;>cases h
 rename_i a c e g j m n q r t u v w y
 exact Wh hI (sh:=z123.l0sh) (so:=z123.l0sh) (so':=z123.l0so1) (F:=λR rec done x=>z123.l0P a rec done x) (enc:=λ(x':(Int×J1×Int×Int×Bool))=>Qa z123.l0sh [.s a,.i c,.b e,.i x'.1,.s x'.2.1,.i x'.2.2.1,.i x'.2.2.2.1,.b x'.2.2.2.2,.li r,.b t,.i u,.li v,.b w,.i y]) (.exit 0) [3,4,5,6,7] [3,4,5,6,7] [0] (g,j,m,n,q) (by kernel_rfl) (by kernel_rfl) (λx=>by kernel_rfl) (λo=>by kernel_rfl) (λo=>by kernel_rfl) λR k d x'=>z123.l0_link R k d a c e (x'.1) (x'.2.1) (x'.2.2.1) (x'.2.2.2.1) (x'.2.2.2.2) r t u v w y
theorem Qrt:Qm (ifun Tryz.f131).body=true:=by kernel_rfl
theorem z123.loopsT (hI:InlOK Tryz.prog z123.C λR=>z123.C.inlK 6):LoopsOK z123.C (λR=>z123.C.inlK 6) 131 0 (ifun Tryz.f131).body:=by
 intro id b hm st p hp
 obtain rfl:=Qn Qrt hm
 unfold z123.C at hp
 simp only at hp
 try split at hp
 all_goals first
  |(simp at hp;done)
  |(exfalso;omega)
  |exact z123.l0_sound hI st p hp
theorem z123.sound:Sn z123.pack 131:=by
 intro vs p h;unfold z123.pack at h;split at h<;>cases h
 exact Qv Qd Qe rfl rfl rfl (Qb z108.sound (Qb z104.sound Qi)) ⟨Tryz.func131,rfl,by kernel_rfl⟩ z123.loopsT rfl (z123.link _) (by intro v r h;unfold z123.dec at h;split at h<;>cases h;exact ⟨rfl,rfl⟩)
theorem z124.l2_sound (hI:InlOK Tryz.prog z124.C λR=>z124.C.inlK 6):Qk z124.C 6 250 2 0 (Qf 2 (ifun Tryz.f250).body) z124.l2sh z124.l2pack:=by
 refine Ql λls p h=>?_
 unfold z124.l2pack at h;split at h<;>cases h
 rename_i a b c e g j m
 exact Qp hI (sh:=z124.l2sh) (so:=z124.l2sh) (F:=λR rec done x=>z124.l2P a b c rec done x) (enc:=λ(x':(Int×Int×J0))=>Qa z124.l2sh [.li a,.li b,.i c,.i x'.1,.i x'.2.1,.li j,.li x'.2.2]) [3,4,6] [3,4,6] (e,g,m) (by kernel_rfl) (by kernel_rfl) (λx=>by kernel_rfl) (λo=>by kernel_rfl) λR k d x'=>z124.l2_link R k d a b c (x'.1) (x'.2.1) j (x'.2.2)
theorem z124.l0_sound (hI:InlOK Tryz.prog z124.C λR=>z124.C.inlK 6):Qk z124.C 6 250 0 0 (Qf 0 (ifun Tryz.f250).body) z124.l0sh z124.l0pack:=by
 refine Ql λls p h=>?_
 unfold z124.l0pack at h;split at h<;>cases h
 rename_i a b c e g
 exact Qp hI (sh:=z124.l0sh) (so:=z124.l0sh) (F:=λR rec done x=>z124.l0P a b rec done x) (enc:=λ(x':(Int×J0))=>Qa z124.l0sh [.li a,.li b,.i x'.1,.li e,.li x'.2]) [2,4] [2,4] (c,g) (by kernel_rfl) (by kernel_rfl) (λx=>by kernel_rfl) (λo=>by kernel_rfl) λR k d x'=>z124.l0_link R k d a b (x'.1) e (x'.2)
theorem Qrp:Qm (ifun Tryz.f250).body=true:=by kernel_rfl
theorem z124.loopsT (hI:InlOK Tryz.prog z124.C λR=>z124.C.inlK 6):LoopsOK z124.C (λR=>z124.C.inlK 6) 250 0 (ifun Tryz.f250).body:=by
 intro id b hm st p hp
 obtain rfl:=Qn Qrp hm
 unfold z124.C at hp
 simp only at hp
 try split at hp
 all_goals first
  |(simp at hp;done)
  |(exfalso;omega)
  |exact z124.l2_sound hI st p hp
  |exact z124.l0_sound hI st p hp
theorem z124.sound:Sn z124.pack 250:=by
 intro vs p h;unfold z124.pack at h;split at h<;>cases h
 exact Qv Qd Qe rfl rfl rfl (Qb z114.sound (Qb z107.sound Qi)) ⟨Tryz.func250,rfl,by kernel_rfl⟩ z124.loopsT rfl (z124.link _ _) z105.hdec
theorem z125.l2_sound (hI:InlOK Tryz.prog z125.C λR=>z125.C.inlK 6):Qk z125.C 6 249 2 0 (Qf 2 (ifun Tryz.f249).body) z125.l2sh z125.l2pack:=by
 refine Ql λls p h=>?_
 unfold z125.l2pack at h;split at h<;>cases h
 rename_i a b c e g j m n q
 exact Qp hI (sh:=z125.l2sh) (so:=z125.l2sh) (F:=λR rec done x=>z125.l2P b c rec done x) (enc:=λ(x':(Int×Int))=>Qa z125.l2sh [.li a,.li b,.li c,.i e,.i x'.1,.i x'.2,.li m,.li n,.li q]) [4,5] [4,5] (g,j) (by kernel_rfl) (by kernel_rfl) (λx=>by kernel_rfl) (λo=>by kernel_rfl) λR k d x'=>z125.l2_link R k d a b c e (x'.1) (x'.2) m n q
theorem z125.l0_sound (hI:InlOK Tryz.prog z125.C λR=>z125.C.inlK 6):Qk z125.C 6 249 0 0 (Qf 0 (ifun Tryz.f249).body) z125.l0sh z125.l0pack:=by
 refine Ql λls p h=>?_
 unfold z125.l0pack at h;split at h<;>cases h
 rename_i a b c e g j m
 exact Qp hI (sh:=z125.l0sh) (so:=z125.l0sh) (F:=λR rec done x=>z125.l0P a b rec done x) (enc:=λ(x':(J0×Int×J0))=>Qa z125.l0sh [.li a,.li b,.li x'.1,.i x'.2.1,.li g,.li j,.li x'.2.2]) [2,3,6] [2,3,6] (c,e,m) (by kernel_rfl) (by kernel_rfl) (λx=>by kernel_rfl) (λo=>by kernel_rfl) λR k d x'=>z125.l0_link R k d a b (x'.1) (x'.2.1) g j (x'.2.2)
theorem Qob:Qm (ifun Tryz.f249).body=true:=by kernel_rfl
theorem z125.loopsT (hI:InlOK Tryz.prog z125.C λR=>z125.C.inlK 6):LoopsOK z125.C (λR=>z125.C.inlK 6) 249 0 (ifun Tryz.f249).body:=by
 intro id b hm st p hp
 obtain rfl:=Qn Qob hm
 unfold z125.C at hp
 simp only at hp
 try split at hp
 all_goals first
  |(simp at hp;done)
  |(exfalso;omega)
  |exact z125.l2_sound hI st p hp
  |exact z125.l0_sound hI st p hp
theorem z125.sound:Sn z125.pack 249:=by
 intro vs p h;unfold z125.pack at h;split at h<;>cases h
 exact Qv Qd Qe rfl rfl rfl (Qb z107.sound (Qb z105.sound (Qb z124.sound (Qb z116.sound (Qb z117.sound Qi))))) ⟨Tryz.func249,rfl,by kernel_rfl⟩ z125.loopsT rfl (z125.link _ _) (by intro v r h;unfold z125.dec at h;split at h<;>cases h;exact ⟨rfl,rfl⟩)
theorem z126.l0_sound (hI:InlOK Tryz.prog z126.C λR=>z126.C.inlK 6):Qk z126.C 6 248 0 0 (Qf 0 (ifun Tryz.f248).body) z126.l0sh z126.l0pack:=by
 refine Ql λls p h=>?_
 unfold z126.l0pack at h;split at h<;>cases h
 rename_i a b c
 exact Qp hI (sh:=z126.l0sh) (so:=z126.l0sh) (F:=λR rec done x=>z126.l0P rec done x) (enc:=λ(x':(J0×J0))=>Qa z126.l0sh [.li x'.1,.li x'.2,.li c]) [0,1] [0,1] (a,b) (by kernel_rfl) (by kernel_rfl) (λx=>by kernel_rfl) (λo=>by kernel_rfl) λR k d x'=>z126.l0_link R k d (x'.1) (x'.2) c
theorem Qpy:Qm (ifun Tryz.f248).body=true:=by kernel_rfl
theorem z126.loopsT (hI:InlOK Tryz.prog z126.C λR=>z126.C.inlK 6):LoopsOK z126.C (λR=>z126.C.inlK 6) 248 0 (ifun Tryz.f248).body:=by
 intro id b hm st p hp
 obtain rfl:=Qn Qpy hm
 unfold z126.C at hp
 simp only at hp
 try split at hp
 all_goals first
  |(simp at hp;done)
  |(exfalso;omega)
  |exact z126.l0_sound hI st p hp
theorem z126.sound:Sn z126.pack 248:=by
 intro vs p h;unfold z126.pack at h;split at h<;>cases h
 exact Qv Qd Qe rfl rfl rfl (Qb z125.sound Qi) ⟨Tryz.func248,rfl,by kernel_rfl⟩ z126.loopsT rfl (z126.link _ _) z105.hdec
theorem z127.hdec:Q5 z128.dec z127.enc:=by
 intro v r h
 unfold z128.dec at h;split at h<;>cases h
 exact ⟨rfl,rfl⟩
theorem z127.sound:Sn z127.pack 226:=by
 intro vs p h;unfold z127.pack at h;split at h<;>cases h
 exact Qj Qd Qe rfl rfl rfl rfl (Qb z126.sound (Qb z125.sound (Qb z104.sound Qi))) ⟨Tryz.func226,rfl,by kernel_rfl⟩ rfl (z127.link _ _ _) z127.hdec
theorem z128.sound:Sn z128.pack 225:=by
 intro vs p h;unfold z128.pack at h;split at h<;>cases h
 exact Qj Qd Qe rfl rfl rfl rfl (Qb z113.sound (Qb z127.sound Qi)) ⟨Tryz.func225,rfl,by kernel_rfl⟩ rfl (z128.link _ _ _ _) z127.hdec
theorem z129.sound:Sn z129.pack 182:=by
 intro vs p h;unfold z129.pack at h;split at h<;>cases h
 exact Qj Qd Qe rfl rfl rfl rfl (Qb z106.sound (Qb z128.sound Qi)) ⟨Tryz.func182,rfl,by kernel_rfl⟩ rfl (z129.link _ _) z127.hdec
theorem z130.sound:Sn z130.pack 183:=by
 intro vs p h;unfold z130.pack at h;split at h<;>cases h
 exact Qj Qd Qe rfl rfl rfl rfl (Qb z112.sound (Qb z127.sound Qi)) ⟨Tryz.func183,rfl,by kernel_rfl⟩ rfl (z130.link _ _ _) z127.hdec
theorem z131.sound:Sn z131.pack 228:=by
 intro vs p h;unfold z131.pack at h;split at h<;>cases h
 exact Qj Qd Qe rfl rfl rfl rfl (Qb z124.sound (Qb z104.sound Qi)) ⟨Tryz.func228,rfl,by kernel_rfl⟩ rfl (z131.link _ _ _ _) z104.hdec
theorem z132.sound:Sn z132.pack 227:=by
 intro vs p h;unfold z132.pack at h;split at h<;>cases h
 exact Qj Qd Qe rfl rfl rfl rfl (Qb z104.sound (Qb z131.sound Qi)) ⟨Tryz.func227,rfl,by kernel_rfl⟩ rfl (z132.link _ _ _ _ _ _) z104.hdec
theorem z133.sound:Sn z133.pack 184:=by
 intro vs p h;unfold z133.pack at h;split at h<;>cases h
 exact Qj Qd Qe rfl rfl rfl rfl (Qb z132.sound (Qb z121.sound Qi)) ⟨Tryz.func184,rfl,by kernel_rfl⟩ rfl (z133.link _ _ _ _ _ _) z10.hdec
theorem z134.sound:Sn z134.pack 185:=by
 intro vs p h;unfold z134.pack at h;split at h<;>cases h
 exact Qj Qd Qe rfl rfl rfl rfl (Qb z132.sound (Qb z104.sound (Qb z131.sound (Qb z128.sound Qi)))) ⟨Tryz.func185,rfl,by kernel_rfl⟩ rfl (z134.link _ _ _ _ _ _) z127.hdec
theorem z135.sound:Sn z135.pack 138:=by
 intro vs p h;unfold z135.pack at h;split at h<;>cases h
 exact Qj Qd Qe rfl rfl rfl rfl (Qb z129.sound (Qb z123.sound (Qb z130.sound (Qb z133.sound (Qb z134.sound Qi))))) ⟨Tryz.func138,rfl,by kernel_rfl⟩ rfl (z135.link _) (by intro v r h;unfold z135.dec at h;split at h<;>cases h;exact ⟨rfl,rfl⟩)
theorem z136.sound:Sn z136.pack 82:=by
 intro vs p h;unfold z136.pack at h;split at h<;>cases h
 exact Qj Qd Qe rfl rfl rfl rfl (Qb z135.sound (Qb z122.sound Qi)) ⟨Tryz.func82,rfl,by kernel_rfl⟩ rfl (z136.link _ _ _ _ _) z10.hdec
theorem z137.sound:Sn z137.pack 77:=by
 intro vs p h;unfold z137.pack at h;split at h<;>cases h
 exact Qj Qd Qe rfl rfl rfl rfl (Qb z80.sound (Qb z74.sound (Qb z70.sound Qi))) ⟨Tryz.func77,rfl,by kernel_rfl⟩ rfl (z137.link _ _ _ _ _ _ _ _) z10.hdec
theorem z138.l0_sound (hI:InlOK Tryz.prog z138.C λR=>z138.C.inlK 6):Qk z138.C 6 30 0 0 (Qf 0 (ifun Tryz.f30).body) z138.l0sh z138.l0pack:=by
 refine Ql λls p h=>?_
 unfold z138.l0pack at h;split at h<;>cases h
 rename_i a b c e g j m n
 exact Wh hI (sh:=z138.l0sh) (so:=z138.l0sh) (so':=z138.l0so1) (F:=λR rec done x=>z138.l0P c e rec done x) (enc:=λ(x':(Int×Int×Int×Int))=>Qa z138.l0sh [.i a,.i b,.lr c,.i e,.i x'.1,.i x'.2.1,.i x'.2.2.1,.i x'.2.2.2]) (.exit 0) [4,5,6,7] [4,5,6,7] [0,1,2,3,4] (g,j,m,n) (by kernel_rfl) (by kernel_rfl) (λx=>by kernel_rfl) (λo=>by kernel_rfl) (λo=>by kernel_rfl) λR k d x'=>z138.l0_link R k d a b c e (x'.1) (x'.2.1) (x'.2.2.1) (x'.2.2.2)
theorem Qwy:Qm (ifun Tryz.f30).body=true:=by kernel_rfl
theorem z138.loopsT (hI:InlOK Tryz.prog z138.C λR=>z138.C.inlK 6):LoopsOK z138.C (λR=>z138.C.inlK 6) 30 0 (ifun Tryz.f30).body:=by
 intro id b hm st p hp
 obtain rfl:=Qn Qwy hm
 unfold z138.C at hp
 simp only at hp
 try split at hp
 all_goals first
  |(simp at hp;done)
  |(exfalso;omega)
  |exact z138.l0_sound hI st p hp
theorem z138.hdec:Q5 z138.dec z138.enc:=by
 intro v r h
 unfold z138.dec at h;split at h<;>cases h
 exact ⟨rfl,rfl⟩
theorem z138.sound:Sn z138.pack 30:=by
 intro vs p h;unfold z138.pack at h;split at h<;>cases h
 exact Qv Qd Qe rfl rfl rfl (Qb z137.sound Qi) ⟨Tryz.func30,rfl,by kernel_rfl⟩ z138.loopsT rfl (z138.link _) z138.hdec
theorem z139.l0_sound (hI:InlOK Tryz.prog z139.C λR=>z139.C.inlK 0):Qk z139.C 0 179 0 2 (Qf 0 (ifun Tryz.f179).body) z139.l0sh z139.l0pack:=by
 refine Ql λls p h=>?_
 unfold z139.l0pack at h;split at h<;>cases h
 rename_i a b c e g j m q
 exact Qp hI (sh:=z139.l0sh) (so:=z139.l0sh) (F:=λR rec done x=>z139.l0P a b rec done x) (enc:=λ(x':(Int×Int×J0))=>Qa z139.l0sh [.n a,.n b,.i x'.1,.i x'.2.1,.i g,.i j,.i m,.li x'.2.2]) [2,3,7] [2,3,7] (c,e,q) (by kernel_rfl) (by kernel_rfl) (λx=>by kernel_rfl) (λo=>by kernel_rfl) λR k d x'=>z139.l0_link R k d a b (x'.1) (x'.2.1) g j m (x'.2.2)
theorem Qtc:Qm (ifun Tryz.f179).body=true:=by kernel_rfl
theorem z139.loops179 (hI:InlOK Tryz.prog z139.C λR=>z139.C.inlK 0) (base:Nat):LoopsOK z139.C (λR=>z139.C.inlK 0) 179 base (ifun Tryz.f179).body:=by
 intro id b hm st p hp
 obtain rfl:=Qn Qtc hm
 unfold z139.C at hp
 simp only at hp
 try split at hp
 all_goals first
  |(simp at hp;done)
  |(exfalso;omega)
  |exact z139.l0_sound hI st p hp
theorem z139.inlF:InlF Tryz.prog z139.C where
 prim g h hp:=by simp [z139.C] at hp
 fn g fn h:=by
  unfold z139.C at h;simp only at h;split at h
  ·simp only [Option.some.injEq] at h;subst h;exact ⟨_,_,⟨Tryz.func179,rfl,by kernel_rfl⟩,rfl⟩
  ·simp at h
 loops g fn h:=by
  unfold z139.C at h;simp only at h;split at h
  ·simp only [Option.some.injEq] at h;subst h;exact λhI base=>z139.loops179 hI base
  ·simp at h
theorem z139.hdec:Q5 z139.dec z139.enc:=by
 intro v r h
 unfold z139.dec at h;split at h<;>cases h
 exact ⟨rfl,rfl⟩
theorem z139.noTop:LoopsOK z139.C (λR=>z139.C.inlK 6) 136 0 (ifun Tryz.f136).body:=by
 intro id b hm st p hp
 exfalso
 unfold z139.C at hp
 simp only at hp
 try split at hp
 all_goals first|(simp at hp;done)|omega
theorem z139.sound:Sn z139.pack 136:=by
 intro vs p h;unfold z139.pack at h;split at h<;>cases h
 exact Wy Qd Qe rfl (Qb z80.sound Qi) z139.inlF ⟨Tryz.func136,rfl,by kernel_rfl⟩ (λ_=>z139.noTop) rfl (z139.link _ _ _) z139.hdec
theorem z140.sound:Sn z140.pack 181:=by
 intro vs p h;unfold z140.pack at h;split at h<;>cases h
 exact Qj Qd Qe rfl rfl rfl rfl (Qb z28.sound (Qb z33.sound (Qb z5.sound Qi))) ⟨Tryz.func181,rfl,by kernel_rfl⟩ rfl (z140.link _ _ _) z26.hdec
theorem z141.sound:Sn z141.pack 137:=by
 intro vs p h;unfold z141.pack at h;split at h<;>cases h
 exact Qj Qd Qe rfl rfl rfl rfl (Qb z52.sound (Qb z140.sound Qi)) ⟨Tryz.func137,rfl,by kernel_rfl⟩ rfl (z141.link _ _) z26.hdec
theorem z142.sound:Sn z142.pack 79:=by
 intro vs p h;unfold z142.pack at h;split at h<;>cases h
 exact Qj Qd Qe rfl rfl rfl rfl (Qb z139.sound (Qb z76.sound (Qb z38.sound (Qb z141.sound (Qb z6.sound Qi))))) ⟨Tryz.func79,rfl,by kernel_rfl⟩ rfl (z142.link _ _ _ _ _) z26.hdec
theorem z143.l0_sound (hI:InlOK Tryz.prog z143.C λR=>z143.C.inlK 6):Qk z143.C 6 31 0 0 (Qf 0 (ifun Tryz.f31).body) z143.l0sh z143.l0pack:=by
 refine Ql λls p h=>?_
 unfold z143.l0pack at h;split at h<;>cases h
 rename_i a b c e g j
 exact Qp hI (sh:=z143.l0sh) (so:=z143.l0sh) (F:=λR rec done x=>z143.l0P c e rec done x) (enc:=λ(x':(Int×J0))=>Qa z143.l0sh [.s a,.i b,.lr c,.i e,.i x'.1,.li x'.2]) [4,5] [4,5] (g,j) (by kernel_rfl) (by kernel_rfl) (λx=>by kernel_rfl) (λo=>by kernel_rfl) λR k d x'=>z143.l0_link R k d a b c e (x'.1) (x'.2)
theorem Qqn:Qm (ifun Tryz.f31).body=true:=by kernel_rfl
theorem z143.loopsT (hI:InlOK Tryz.prog z143.C λR=>z143.C.inlK 6):LoopsOK z143.C (λR=>z143.C.inlK 6) 31 0 (ifun Tryz.f31).body:=by
 intro id b hm st p hp
 obtain rfl:=Qn Qqn hm
 unfold z143.C at hp
 simp only at hp
 try split at hp
 all_goals first
  |(simp at hp;done)
  |(exfalso;omega)
  |exact z143.l0_sound hI st p hp
theorem z143.loops80 (hI:InlOK Tryz.prog z143.C λR=>z143.C.inlK 0) (base:Nat):LoopsOK z143.C (λR=>z143.C.inlK 0) 80 base (ifun Tryz.f80).body:=by
 intro id b hm st p hp
 exfalso
 unfold z143.C at hp
 simp only at hp
 try split at hp
 all_goals first|(simp at hp;done)|omega
theorem z143.loops78 (hI:InlOK Tryz.prog z143.C λR=>z143.C.inlK 1) (base:Nat):LoopsOK z143.C (λR=>z143.C.inlK 1) 78 base (ifun Tryz.f78).body:=by
 intro id b hm st p hp
 exfalso
 unfold z143.C at hp
 simp only at hp
 try split at hp
 all_goals first|(simp at hp;done)|omega
theorem z143.inlF:InlF Tryz.prog z143.C where
 prim g h hp:=by
  unfold z143.C at hp;simp only at hp;split at hp
  ·simp only [Option.some.injEq] at hp;subst hp;exact prim135
  ·simp at hp
 fn g fn h:=by
  unfold z143.C at h;simp only at h;split at h
  ·simp only [Option.some.injEq] at h;subst h;exact ⟨_,_,fun80,rfl⟩
  ·simp only [Option.some.injEq] at h;subst h;exact ⟨_,_,fun78,rfl⟩
  ·simp at h
 loops g fn h:=by
  unfold z143.C at h;simp only at h;split at h
  ·simp only [Option.some.injEq] at h;subst h;exact λhI base=>z143.loops80 hI base
  ·simp only [Option.some.injEq] at h;subst h;exact λhI base=>z143.loops78 hI base
  ·simp at h
theorem z143.sound:Sn z143.pack 31:=by
 intro vs p h;unfold z143.pack at h;split at h<;>cases h
 exact Wy Qd Qe rfl (Qb z138.sound (Qb z142.sound Qi)) z143.inlF ⟨Tryz.func31,rfl,by kernel_rfl⟩ z143.loopsT rfl (z143.link _) z139.hdec
theorem z144.sound:Sn z144.pack 26:=by
 intro vs p h;unfold z144.pack at h;split at h<;>cases h
 exact Qj Qd Qe rfl rfl rfl rfl (Qb z97.sound (Qb z143.sound Qi)) ⟨Tryz.func26,rfl,by kernel_rfl⟩ rfl z144.link z8.hdec
theorem z145.l0_sound (hI:InlOK Tryz.prog z145.C λR=>z145.C.inlK 6):Qk z145.C 6 27 0 0 (Qf 0 (ifun Tryz.f27).body) z145.l0sh z145.l0pack:=by
 refine Ql λls p h=>?_
 unfold z145.l0pack at h;split at h<;>cases h
 rename_i a c e g j
 exact Wh hI (sh:=z145.l0sh) (so:=z145.l0sh) (so':=z145.l0so1) (F:=λR rec done x=>z145.l0P a c g rec done x) (enc:=λ(x':Int)=>Qa z145.l0sh [.lr a,.lr c,.b e,.i g,.i x']) (.exit 0) [4] [4] [0] j (by kernel_rfl) (by kernel_rfl) (λx=>by kernel_rfl) (λo=>by kernel_rfl) (λo=>by kernel_rfl) λR k d x'=>z145.l0_link R k d a c e g (x')
theorem Qse:Qm (ifun Tryz.f27).body=true:=by kernel_rfl
theorem z145.loopsT (hI:InlOK Tryz.prog z145.C λR=>z145.C.inlK 6):LoopsOK z145.C (λR=>z145.C.inlK 6) 27 0 (ifun Tryz.f27).body:=by
 intro id b hm st p hp
 obtain rfl:=Qn Qse hm
 unfold z145.C at hp
 simp only at hp
 try split at hp
 all_goals first
  |(simp at hp;done)
  |(exfalso;omega)
  |exact z145.l0_sound hI st p hp
theorem z145.sound:Sn z145.pack 27:=by
 intro vs p h;unfold z145.pack at h;split at h<;>cases h
 exact Qv Qd Qe rfl rfl rfl Qs ⟨Tryz.func27,rfl,by kernel_rfl⟩ z145.loopsT rfl (z145.link _ _) z8.hdec
theorem z146.hdec:Q5 z146.dec z146.enc:=by
 intro v r h
 unfold z146.dec at h;split at h<;>cases h
 exact ⟨rfl,rfl⟩
theorem z146.sound:Sn z146.pack 46:=by
 intro vs p h;unfold z146.pack at h;split at h<;>cases h
 exact Qj Qd Qe rfl rfl rfl rfl (Qb z99.sound Qi) ⟨Tryz.func46,rfl,by kernel_rfl⟩ rfl (z146.link _ _ _ _) z146.hdec
theorem z147.sound:Sn z147.pack 29:=by
 intro vs p h;unfold z147.pack at h;split at h<;>cases h
 exact Qj Qd Qe rfl rfl rfl rfl (Qb z146.sound Qi) ⟨Tryz.func29,rfl,by kernel_rfl⟩ rfl (z147.link _ _ _ _ _ _) z146.hdec
theorem z148.l0_sound (hI:InlOK Tryz.prog z148.C λR=>z148.C.inlK 6):Qk z148.C 6 32 0 0 (Qf 0 (ifun Tryz.f32).body) z148.l0sh z148.l0pack:=by
 refine Ql λls p h=>?_
 unfold z148.l0pack at h;split at h<;>cases h
 rename_i a b c e
 exact Wh hI (sh:=z148.l0sh) (so:=z148.l0sh) (so':=z148.l0so1) (F:=λR rec done x=>z148.l0P a rec done x) (enc:=λ(x':Int)=>Qa z148.l0sh [.lr a,.i b,.i c,.i x']) (.exit 0) [3] [3] [0,1] e (by kernel_rfl) (by kernel_rfl) (λx=>by kernel_rfl) (λo=>by kernel_rfl) (λo=>by kernel_rfl) λR k d x'=>z148.l0_link R k d a b c (x')
theorem Qws:Qm (ifun Tryz.f32).body=true:=by kernel_rfl
theorem z148.loopsT (hI:InlOK Tryz.prog z148.C λR=>z148.C.inlK 6):LoopsOK z148.C (λR=>z148.C.inlK 6) 32 0 (ifun Tryz.f32).body:=by
 intro id b hm st p hp
 obtain rfl:=Qn Qws hm
 unfold z148.C at hp
 simp only at hp
 try split at hp
 all_goals first
  |(simp at hp;done)
  |(exfalso;omega)
  |exact z148.l0_sound hI st p hp
theorem z148.sound:Sn z148.pack 32:=by
 intro vs p h;unfold z148.pack at h;split at h<;>cases h
 exact Qv Qd Qe rfl rfl rfl (Qb z100.sound (Qb z101.sound (Qb z136.sound Qi))) ⟨Tryz.func32,rfl,by kernel_rfl⟩ z148.loopsT rfl (z148.link _) z138.hdec
theorem z149.l0_sound (hI:InlOK Tryz.prog z149.C λR=>z149.C.inlK 6):Qk z149.C 6 139 0 0 (Qf 0 (ifun Tryz.f139).body) z149.l0sh z149.l0pack:=by
 refine Ql λls p h=>?_
 unfold z149.l0pack at h;split at h<;>cases h
 rename_i a b c e g
 exact Qp hI (sh:=z149.l0sh) (so:=z149.l0sh) (F:=λR rec done x=>z149.l0P b rec done x) (enc:=λ(x':(Int×J1×Int))=>Qa z149.l0sh [.i x'.1,.i b,.s c,.s x'.2.1,.i x'.2.2]) [0,3,4] [0,3,4] (a,e,g) (by kernel_rfl) (by kernel_rfl) (λx=>by kernel_rfl) (λo=>by kernel_rfl) λR k d x'=>z149.l0_link R k d (x'.1) b c (x'.2.1) (x'.2.2)
theorem Qwo:Qm (ifun Tryz.f139).body=true:=by kernel_rfl
theorem z149.loopsT (hI:InlOK Tryz.prog z149.C λR=>z149.C.inlK 6):LoopsOK z149.C (λR=>z149.C.inlK 6) 139 0 (ifun Tryz.f139).body:=by
 intro id b hm st p hp
 obtain rfl:=Qn Qwo hm
 unfold z149.C at hp
 simp only at hp
 try split at hp
 all_goals first
  |(simp at hp;done)
  |(exfalso;omega)
  |exact z149.l0_sound hI st p hp
theorem z149.sound:Sn z149.pack 139:=by
 intro vs p h;unfold z149.pack at h;split at h<;>cases h
 exact Qv Qd Qe rfl rfl rfl Qs ⟨Tryz.func139,rfl,by kernel_rfl⟩ z149.loopsT rfl (z149.link _ _) z26.hdec
theorem z150.sound:Sn z150.pack 83:=by
 intro vs p h;unfold z150.pack at h;split at h<;>cases h
 exact Qj Qd Qe rfl rfl rfl rfl (Qb z149.sound Qi) ⟨Tryz.func83,rfl,by kernel_rfl⟩ rfl (z150.link _ _ _) z26.hdec
theorem z151.l0_sound (hI:InlOK Tryz.prog z151.C λR=>z151.C.inlK 6):Qk z151.C 6 143 0 0 (Qf 0 (ifun Tryz.f143).body) z151.l0sh z151.l0pack:=by
 refine Ql λls p h=>?_
 unfold z151.l0pack at h;split at h<;>cases h
 rename_i a c e g j
 exact Qp hI (sh:=z151.l0sh) (so:=z151.l0sh) (F:=λR rec done x=>z151.l0P j rec done x) (enc:=λ(x':(J1))=>Qa z151.l0sh [.s a,.s x',.li e,.b g,.i j]) [1] [1] c (by kernel_rfl) (by kernel_rfl) (λx=>by kernel_rfl) (λo=>by kernel_rfl) λR k d x'=>z151.l0_link R k d a (x') e g j
theorem Qod:Qm (ifun Tryz.f143).body=true:=by kernel_rfl
theorem z151.loopsT (hI:InlOK Tryz.prog z151.C λR=>z151.C.inlK 6):LoopsOK z151.C (λR=>z151.C.inlK 6) 143 0 (ifun Tryz.f143).body:=by
 intro id b hm st p hp
 obtain rfl:=Qn Qod hm
 unfold z151.C at hp
 simp only at hp
 try split at hp
 all_goals first
  |(simp at hp;done)
  |(exfalso;omega)
  |exact z151.l0_sound hI st p hp
theorem z151.sound:Sn z151.pack 143:=by
 intro vs p h;unfold z151.pack at h;split at h<;>cases h
 exact Qv Qd Qe rfl rfl rfl (Qb z102.sound Qi) ⟨Tryz.func143,rfl,by kernel_rfl⟩ z151.loopsT rfl (z151.link _ _ _) z26.hdec
theorem z152.sound:Sn z152.pack 85:=by
 intro vs p h;unfold z152.pack at h;split at h<;>cases h
 exact Qj Qd Qe rfl rfl rfl rfl (Qb z151.sound Qi) ⟨Tryz.func85,rfl,by kernel_rfl⟩ rfl (z152.link _ _) z26.hdec
theorem z153.l0_sound (hI:InlOK Tryz.prog z153.C λR=>z153.C.inlK 6):Qk z153.C 6 33 0 0 (Qf 0 (ifun Tryz.f33).body) z153.l0sh z153.l0pack:=by
 refine Ql λls p h=>?_
 unfold z153.l0pack at h;split at h<;>cases h
 rename_i a b c e g
 exact Qp hI (sh:=z153.l0sh) (so:=z153.l0sh) (F:=λR rec done x=>z153.l0P a c rec done x) (enc:=λ(x':(J1×Int))=>Qa z153.l0sh [.lr a,.s b,.ls c,.s x'.1,.i x'.2]) [3,4] [3,4] (e,g) (by kernel_rfl) (by kernel_rfl) (λx=>by kernel_rfl) (λo=>by kernel_rfl) λR k d x'=>z153.l0_link R k d a b c (x'.1) (x'.2)
theorem Qv7:Qm (ifun Tryz.f33).body=true:=by kernel_rfl
theorem z153.loopsT (hI:InlOK Tryz.prog z153.C λR=>z153.C.inlK 6):LoopsOK z153.C (λR=>z153.C.inlK 6) 33 0 (ifun Tryz.f33).body:=by
 intro id b hm st p hp
 obtain rfl:=Qn Qv7 hm
 unfold z153.C at hp
 simp only at hp
 try split at hp
 all_goals first
  |(simp at hp;done)
  |(exfalso;omega)
  |exact z153.l0_sound hI st p hp
theorem z153.sound:Sn z153.pack 33:=by
 intro vs p h;unfold z153.pack at h;split at h<;>cases h
 exact Qv Qd Qe rfl rfl rfl (Qb z150.sound (Qb z122.sound (Qb z152.sound Qi))) ⟨Tryz.func33,rfl,by kernel_rfl⟩ z153.loopsT rfl (z153.link _) z26.hdec
theorem z154.sound:Sn z154.pack 47:=by
 intro vs p h;unfold z154.pack at h;split at h<;>cases h
 exact Qj Qd Qe rfl rfl rfl rfl (Qb z99.sound Qi) ⟨Tryz.func47,rfl,by kernel_rfl⟩ rfl (z154.link _ _ _) (by intro v r h;unfold z154.dec at h;split at h<;>cases h;exact ⟨rfl,rfl⟩)
theorem z155.l0_sound (hI:InlOK Tryz.prog z155.C λR=>z155.C.inlK 6):Qk z155.C 6 6 0 0 (Qf 0 (ifun Tryz.f6).body) z155.l0sh z155.l0pack:=by
 refine Ql λls p h=>?_
 unfold z155.l0pack at h;split at h<;>cases h
 rename_i a c e g j m n q r s
 exact Wh hI (sh:=z155.l0sh) (so:=z155.l0sh) (so':=z155.l0so1) (F:=λR rec done x=>z155.l0P a e rec done x) (enc:=λ(x':Int)=>Qa z155.l0sh [.lr a,.b c,.i e,.i x',.i j,.i m,.i n,.li q,.li r,.li s]) (.exit 0) [3] [3] [0] g (by kernel_rfl) (by kernel_rfl) (λx=>by kernel_rfl) (λo=>by kernel_rfl) (λo=>by kernel_rfl) λR k d x'=>z155.l0_link R k d a c e (x') j m n q r s
theorem z155.l2_sound (hI:InlOK Tryz.prog z155.C λR=>z155.C.inlK 0):Qk z155.C 0 28 2 1 (Qf 2 (ifun Tryz.f28).body) z155.l2sh z155.l2pack:=by
 refine Ql λls p h=>?_
 unfold z155.l2pack at h;split at h<;>cases h
 rename_i a c e g j m n q r s t u v w y z A B D E G H I J
 exact Qp hI (sh:=z155.l2sh) (so:=z155.l2sh) (F:=λR rec done x=>z155.l2P a w rec done x) (enc:=λ(x':(Int×Int×Int×Int))=>Qa z155.l2sh [.i a,.i x'.1,.i e,.b g,.i j,.i m,.i n,.li q,.li r,.li s,.i t,.i u,.i v,.li w,.li y,.li z,.i A,.i B,.i D,.lr E,.lr G,.i x'.2.1,.i x'.2.2.1,.i x'.2.2.2]) [1,21,22,23] [1,21,22,23] (c,H,I,J) (by kernel_rfl) (by kernel_rfl) (λx=>by kernel_rfl) (λo=>by kernel_rfl) λR k d x'=>z155.l2_link R k d a (x'.1) e g j m n q r s t u v w y z A B D E G (x'.2.1) (x'.2.2.1) (x'.2.2.2)
theorem z155.l0a_sound (hI:InlOK Tryz.prog z155.C λR=>z155.C.inlK 0):Qk z155.C 0 28 0 1 (Qf 0 (ifun Tryz.f28).body) z155.l0ash z155.l0apack:=by
 refine Ql λls p h=>?_
 unfold z155.l0apack at h;split at h<;>cases h
 rename_i a b c e g j m n q r s t u v w y z A B D E
 exact Qp hI (sh:=z155.l0ash) (so:=z155.l0ash) (F:=λR rec done x=>z155.l0aP s t u rec done x) (enc:=λ(x':(Int×J2×Int×Int×Int))=>Qa z155.l0ash [.i x'.1,.i b,.i c,.i e,.li g,.li j,.li m,.i n,.i q,.i r,.li s,.li t,.li u,.i v,.i w,.i y,.lr z,.lr x'.2.1,.i x'.2.2.1,.i x'.2.2.2.1,.i x'.2.2.2.2]) [0,17,18,19,20] [0,17,18,19,20] (a,A,B,D,E) (by kernel_rfl) (by kernel_rfl) (λx=>by kernel_rfl) (λo=>by kernel_rfl) λR k d x'=>z155.l0a_link R k d (x'.1) b c e g j m n q r s t u v w y z (x'.2.1) (x'.2.2.1) (x'.2.2.2.1) (x'.2.2.2.2)
theorem z155.l2a_sound (hI:InlOK Tryz.prog z155.C λR=>z155.C.inlK 6):Qk z155.C 6 6 2 0 (Qf 2 (ifun Tryz.f6).body) z155.l2ash z155.l2apack:=by
 refine Ql λls p h=>?_
 unfold z155.l2apack at h;split at h<;>cases h
 rename_i a c e g
 exact Wh hI (sh:=z155.l2ash) (so:=z155.l2ash) (so':=z155.l2aso1) (F:=λR rec done x=>z155.l2aP c e rec done x) (enc:=λ(x':Int)=>Qa z155.l2ash [.b a,.lr c,.i e,.i x']) (.exit 2) [3] [3] [0] g (by kernel_rfl) (by kernel_rfl) (λx=>by kernel_rfl) (λo=>by kernel_rfl) (λo=>by kernel_rfl) λR k d x'=>z155.l2a_link R k d a c e (x')
theorem fun6:FunOK Tryz.prog 6 Tryz.f6 (ifun Tryz.f6).body:=⟨Tryz.func6,rfl,by kernel_rfl⟩
theorem Qpw:Qm (ifun Tryz.f6).body=true:=by kernel_rfl
theorem Quv:Qm (ifun Tryz.f28).body=true:=by kernel_rfl
theorem z155.loopsT (hI:InlOK Tryz.prog z155.C λR=>z155.C.inlK 6):LoopsOK z155.C (λR=>z155.C.inlK 6) 6 0 (ifun Tryz.f6).body:=by
 intro id b hm st p hp
 obtain rfl:=Qn Qpw hm
 unfold z155.C at hp
 simp only at hp
 try split at hp
 all_goals first
  |(simp at hp;done)
  |(exfalso;omega)
  |exact z155.l0_sound hI st p hp
  |exact z155.l2a_sound hI st p hp
theorem z155.loops28 (hI:InlOK Tryz.prog z155.C λR=>z155.C.inlK 0) (base:Nat):LoopsOK z155.C (λR=>z155.C.inlK 0) 28 base (ifun Tryz.f28).body:=by
 intro id b hm st p hp
 obtain rfl:=Qn Quv hm
 unfold z155.C at hp
 simp only at hp
 try split at hp
 all_goals first
  |(simp at hp;done)
  |(exfalso;omega)
  |exact z155.l2_sound hI st p hp
  |exact z155.l0a_sound hI st p hp
theorem z155.inlF:InlF Tryz.prog z155.C where
 prim g h hp:=by simp [z155.C] at hp
 fn g fn h:=by
  unfold z155.C at h;simp only at h;split at h
  ·simp only [Option.some.injEq] at h;subst h;exact ⟨_,_,⟨Tryz.func28,rfl,by kernel_rfl⟩,rfl⟩
  ·simp at h
 loops g fn h:=by
  unfold z155.C at h;simp only at h;split at h
  ·simp only [Option.some.injEq] at h;subst h;exact λhI base=>z155.loops28 hI base
  ·simp at h
theorem z155.sound:Sn z155.pack 6:=by
 intro vs p h;unfold z155.pack at h;split at h<;>cases h
 exact Wy Qd Qe rfl (Qb z144.sound (Qb z147.sound (Qb z154.sound (Qb z106.sound (Qb z103.sound (Qb z138.sound (Qb z143.sound (Qb z148.sound (Qb z97.sound (Qb z153.sound (Qb z145.sound Qi))))))))))) z155.inlF fun6 z155.loopsT rfl (z155.link _ _ _ _ _ _ _) z8.hdec
end
end Go.Proofs.YtjfipepaaddlmaaGreatDoor.A
end
section
namespace Go.Proofs.YtjfipepaaddlmaaGreatDoor.A
open Go Go.RowKit Go.ChangeShapes Go.WideShapes
noncomputable section
inductive SC where
 |b
 |i (k:IntKind)
 |s
inductive CT where
 |sc (c:SC)
 |sl (cs:List SC)
def scOf:CT->Option SC
 |.sc c=>some c
 |_=>none
def Jj:List CT->Option (List SC)
 |[]=>some []
 |c::l=>(scOf c).bind λx=>(Jj l).map (x :: ·)
def okS:SC->V->Prop
 |.b,v=>∃x,v=.bool x
 |.i k,v=>∃n,v=.int k n/\(Lit.int k n).wf=true
 |.s,v=>∃l,v=.str l/\l.length<=maxLen
def okSL:List SC->List V->Prop
 |[],vs=>vs=[]
 |c::cs,vs=>∃v l,vs=v::l/\okS c v/\okSL cs l
def okC:CT->V->Prop
 |.sc c,v=>okS c v
 |.sl [.i k],v=>∃l,v=.ints false k l/\(∀n∈l,(Lit.int k n).wf=true)/\l.length<=maxLen
 |.sl [.s],v=>∃l,v=.strs false l/\(∀s∈l,s.length<=maxLen)/\l.length<=maxLen
 |.sl cs,v=>∃l,v=.recs false cs.length l/\(∀r∈l,okSL cs r)/\l.length<=maxLen
def okCL:List CT->List V->Prop
 |[],vs=>vs=[]
 |c::cs,vs=>∃v l,vs=v::l/\okC c v/\okCL cs l
def ctsF (P:Program) (rec:TypeId->Option (List CT)):Nat->List Field->Option (List CT)
 |_,[]=>some []
 |off,f::fs=>if f.offset=off then (rec f.type).bind λl=>if P.cellsOf f.type=l.length then (ctsF P rec (off+l.length) fs).map (l ++ ·) else none else none
def ctsA (l:List CT):Nat->List CT
 |0=>[]
 |n+1=>l++ctsA l n
def cts (P:Program):Nat->TypeId->Option (List CT)
 |0,_=>none
 |
  n+1,t=>
  match P.underlying t with
  |some .bool=>some [.sc .b]
  |some (.int k)=>some [.sc (.i k)]
  |some .string=>some [.sc .s]
  |some (.struct fs)=>(ctsF P (cts P n) 0 fs.toList).bind λl=>if P.cellsOf t=l.length then some l else none
  |some (.array m e)=>(cts P n e).bind λl=>if P.cellsOf e=l.length/\P.cellsOf t=m*l.length then some (ctsA l m) else none
  |some (.slice e)=>(cts P n e).bind λl=>(Jj l).bind λcs=>if P.cellsOf e=cs.length/\0<cs.length then some [.sl cs] else none
  |_=>none
abbrev noO:Nat->Prop:=λ_=>False
def Qnk (W:World) (c:CT) (cv:Value) (v:V):Prop:=okC c v/\Rep0 noO W cv v/\cv.oneCell'=true
def Yv (W:World) (l:List CT) (cs:List Value) (vs:List V):Prop:=
 cs.length=l.length/\vs.length=l.length/\∀(j:Nat) (c:CT) (cv:Value) (v:V),l[j]? = some c->cs[j]? = some cv->vs[j]? = some v->Qnk W c cv v
theorem cellsR_nil (W:World):Yv W [] [] []:=⟨rfl,rfl,λ(j:Nat) c cv v h=>by simp at h⟩
theorem Qbz {W:World} {c:CT} {cv:Value} {v:V} (h:Qnk W c cv v):Yv W [c] [cv] [v]:=by
 refine ⟨rfl,rfl,λj c' cv' v' h1 h2 h3=>?_⟩
 cases j with
 |zero=>simp at h1 h2 h3;subst h1 h2 h3;exact h
 |succ j=>simp at h1
theorem Qlb {W:World} {l l':List CT} {cs cs':List Value} {vs vs':List V} (h:Yv W l cs vs) (h':Yv W l' cs' vs'):Yv W (l++l') (cs++cs') (vs++vs'):=by
 obtain ⟨a1,a2,a3⟩:=h;obtain ⟨b1,b2,b3⟩:=h'
 refine ⟨by simp [a1,b1],by simp [a2,b2],λj c cv v h1 h2 h3=>?_⟩
 by_cases hj:j<l.length
 ·rw [Z35 hj] at h1
  rw [Z35 (by omega)] at h2 h3
  exact a3 j c cv v h1 h2 h3
 ·rw [Z63 (by omega)] at h1 h2 h3
  rw [a1] at h2;rw [a2] at h3
  exact b3 _ c cv v h1 h2 h3
theorem Qfo {W:World}:∀{l:List CT} {cs:List Value} {vs:List V},Yv W l cs vs->okCL l vs
 |[],cs,vs,h=>List.length_eq_zero_iff.1 h.2.1
 |
  c::l,cs,vs,h=>by
  obtain ⟨h1,h2,h3⟩:=h
  match cs,vs,h1,h2 with
  |
   cv::cs,v::vs,h1,h2=>
   exact ⟨v,vs,rfl,(h3 0 c cv v rfl rfl rfl).1,Qfo (cs:=cs) ⟨by simpa using h1,by simpa using h2,λj c' cv' v' a b d=>h3 (j+1) c' cv' v' (by simpa using a) (by simpa using b) (by simpa using d)⟩⟩
theorem Qm3:∀{l:List CT} {ss:List SC} {vs:List V},Jj l=some ss->okCL l vs->okSL ss vs
 |[],ss,vs,h,hv=>by simp [Jj] at h;subst h;exact hv
 |
  c::l,ss,vs,h,hv=>by
  simp only [Jj,Z6,Z20] at h
  obtain ⟨x,hx,y,hy,rfl⟩:=h
  obtain ⟨v,r,rfl,h1,h2⟩:=hv
  refine ⟨v,r,rfl,?_,Qm3 hy h2⟩
  cases c with
  |sc c=>simp [scOf] at hx;subst hx;exact h1
  |sl _=>simp [scOf] at hx
theorem Qi3:∀{l:List CT} {ss:List SC},Jj l=some ss->ss.length=l.length
 |[],ss,h=>by simp [Jj] at h;subst h;rfl
 |
  c::l,ss,h=>by
  simp only [Jj,Z6,Z20] at h
  obtain ⟨x,hx,y,hy,rfl⟩:=h
  simp [Qi3 hy]
theorem Qhk {α:Type} {Q:Nat->α->Prop}:∀{n:Nat},(∀i,i<n->∃x,Q i x)->∃l:List α,l.length=n/\∀(i:Nat) (x:α),l[i]? = some x->Q i x
 |0,_=>⟨[],rfl,λi x h=>by simp at h⟩
 |
  n+1,h=>by
  obtain ⟨l,h1,h2⟩:=Qhk (n:=n) λi hi=>h i (by omega)
  obtain ⟨x,hx⟩:=h n (by omega)
  refine ⟨l++[x],by simp [h1],λi y hy=>?_⟩
  by_cases hi:i<l.length
  ·rw [Z35 hi] at hy;exact h2 i y hy
  ·rw [Z63 (by omega)] at hy
   have:i-l.length=0:=by
    rcases Z53 (i-l.length) 1 with h0|h0
    ·omega
    ·rw [Z10 (by simp;omega)] at hy;simp at hy
   rw [this] at hy;simp at hy;subst hy
   have:i=n:=by omega
   subst this;exact hx
theorem Qje {α:Type} (z:Nat) (hz:0<z):∀(l:List (List α)) (j:Nat),(∀e∈l,e.length=z)->l.flatten[j]? = (l[j/z]?).bind (·[j%z]?)
 |[],j,_=>by simp
 |
  e::l,j,h=>by
  have he:=h e (by simp)
  rw [Z68]
  by_cases hj:j<z
  ·rw [Z35 (by omega),Nat.div_eq_of_lt hj,Nat.mod_eq_of_lt hj];rfl
  ·rw [Z63 (by omega),Qje z hz l _ (λx hx=>h x (by simp [hx])),he]
   have h1:j/z=(j-z)/z+1:=by rw [<-Nat.add_div_right (j-z) hz,Nat.sub_add_cancel (by omega)]
   have h2:j%z=(j-z)%z:=by rw [<-Nat.add_mod_right (j-z) z,Nat.sub_add_cancel (by omega)]
   rw [h1,h2];rfl
theorem ones {α:Type} {c:SC} {f:α->V} {Q:α->Prop} (hc:∀v,okS c v->∃n,v=f n/\Q n):∀vss:J2,(∀r∈vss,okSL [c] r) ->
  ∃zs:List α,vss.flatten=zs.map f/\zs.length=vss.length/\∀n∈zs,Q n
 |[],_=>⟨[],rfl,rfl,by simp⟩
 |
  r::vss,h=>by
  obtain ⟨zs,e1,e2,e3⟩:=ones hc vss λx hx=>h x (by simp [hx])
  obtain ⟨v,l,rfl,hv,hl⟩:=h r (by simp)
  have hl:l=[]:=hl
  subst hl
  obtain ⟨n,rfl,hq⟩:=hc v hv
  exact ⟨n::zs,by simp [e1],by simp [e2],by simpa using ⟨hq,e3⟩⟩
theorem Qwu {W:World} {t e n m:Nat} {ss:List SC} {l:List CT} {a:Addr} {len cap:Nat} (hs:Jj l=some ss) (hz:0<ss.length) (hl:len<=cap) (hm:cap<=maxLen)
  (h:∀i,i<len->∃cs vs,W.cells? 0 (a.add (i*ss.length)) ss.length=some cs/\Yv W l cs vs):∃v,okC (.sl ss) v/\Rep0 noO W (.slice (some a) len cap) v:=by
 obtain ⟨rows,h1,h2⟩:=Qhk h
 have hsl:=Qi3 hs
 have hrow:∀(i:Nat) (r:List Value),rows[i]? = some r->∃vs:List V,r.length=ss.length/\okSL ss vs/\vs.length=ss.length/\∀(j:Nat) (cv:Value) (v:V),r[j]? = some cv->vs[j]? = some v->W.cell? (a.add (i*ss.length+j))=some cv/\Rep0 noO W cv v/\cv.oneCell'=true:=by
  intro i r hr
  obtain ⟨vs,hc,hv⟩:=h2 i r hr
  obtain ⟨_,hlen,hcell⟩:=World.cells?_some hc
  refine ⟨vs,hlen,Qm3 hs (Qfo hv),hv.2.1.trans hsl.symm,λj cv v hj hjv=>?_⟩
  have hjl:j<l.length:=by have:=(List.getElem?_eq_some_iff.1 hj).1;omega
  have:=hv.2.2 j l[j] cv v (by simp) hj hjv
  refine ⟨?_,this.2⟩
  rw [<-Go.Deep.add_add,hcell j (by omega),hj]
 have hall:∀i,i<rows.length->∃vs:List V,okSL ss vs/\vs.length=ss.length/\∀(j:Nat) (v:V),vs[j]? = some v->∃cv,W.cell? (a.add (i*ss.length+j))=some cv/\Rep0 noO W cv v/\cv.oneCell'=true:=by
  intro i hi
  obtain ⟨vs,q1,q2,q3,q4⟩:=hrow i rows[i] (by simp [hi])
  refine ⟨vs,q2,q3,λj v hv=>?_⟩
  have:j<ss.length:=by have:=(List.getElem?_eq_some_iff.1 hv).1;omega
  exact ⟨_,q4 j (rows[i][j]'(by omega)) v (by simp) hv⟩
 obtain ⟨vss,g1,g2⟩:=Qhk hall
 have hvlen:∀e∈vss,e.length=ss.length:=λe he=>by obtain ⟨i,hi,rfl⟩:=Z73 he;exact (g2 i _ (by simp [hi])).2.1
 have gen:∀v:V,flatV v=some (len,vss.flatten)->isExact v=false->Rep0 noO W (.slice (some a) len cap) v:=by
  intro v hf hx
  have hcell:∀(j:Nat) (v:V),vss.flatten[j]? = some v->∃cv,W.cell? (a.add j)=some cv/\Rep0 noO W cv v/\cv.oneCell'=true:=by
   intro j v hv
   rw [Qje ss.length hz vss j hvlen] at hv
   obtain ⟨r,hr,hv⟩:=Z6.1 hv
   obtain ⟨cv,k1,k2⟩:=(g2 _ r hr).2.2 _ v hv
   refine ⟨cv,?_,k2⟩
   rw [show j=j/ss.length*ss.length+j%ss.length by rw [Z33];exact (Z58 j ss.length).symm]
   exact k1
  refine .slice (some a) len cap v vss.flatten (λj=>(W.cell? (a.add j)).getD Go.undef) hf (by simp [hx]) hl (by simp) (λj hj=>?_) (λj hj=>?_) (λj hj=>?_)
  ·obtain ⟨cv,k1,k2,k3⟩:=hcell j _ (Z1 hj)
   exact ⟨a,rfl,λh=>h.elim,by rw [k1];rfl⟩
  ·obtain ⟨cv,k1,k2,k3⟩:=hcell j _ (Z1 hj)
   rw [k1];exact k3
  ·obtain ⟨cv,k1,k2,k3⟩:=hcell j _ (Z1 hj)
   rw [k1];exact k2
 have hlen':vss.length=len:=by omega
 have recs:∃v,(∃l,v=V.recs false ss.length l/\(∀r∈l,okSL ss r)/\l.length<=maxLen)/\Rep0 noO W (.slice (some a) len cap) v:=by
  refine ⟨.recs false ss.length vss,⟨vss,rfl,λr hr=>?_,by omega⟩,gen _ ?_ rfl⟩
  ·obtain ⟨i,hi,rfl⟩:=Z73 hr;exact (g2 i _ (by simp [hi])).1
  ·simp only [flatV];rw [if_pos ⟨hz,hvlen⟩,hlen']
 match ss,hs,hz,recs,g2,gen,hvlen with
 |[],_,hz,_,_,_,_=>simp at hz
 |[.b],_,_,recs,_,_,_=>exact recs
 |x::y::_,_,_,recs,_,_,_=>exact by cases x<;>exact recs
 |
  [.i k],_,_,recs,g2,gen,hvlen=>
  obtain ⟨zs,e1,e2,e3⟩:=ones (c:=.i k) (f:=V.int k) (λv h=>h) vss λr hr=>by
   obtain ⟨i,hi,rfl⟩:=Z73 hr;exact (g2 i _ (by simp [hi])).1
  refine ⟨.ints false k zs,⟨zs,rfl,e3,by omega⟩,gen _ ?_ rfl⟩
  simp only [flatV];rw [e1,e2,hlen']
 |
  [.s],_,_,recs,g2,gen,hvlen=>
  obtain ⟨zs,e1,e2,e3⟩:=ones (c:=.s) (f:=V.str) (λv h=>h) vss λr hr=>by
   obtain ⟨i,hi,rfl⟩:=Z73 hr;exact (g2 i _ (by simp [hi])).1
  refine ⟨.strs false zs,⟨zs,rfl,e3,by omega⟩,gen _ ?_ rfl⟩
  simp only [flatV];rw [e1,e2,hlen']
theorem Qo6 {W:World} {ss:List SC} (hz:0<ss.length):∃v,okC (.sl ss) v/\Rep0 noO W (.slice none 0 0) v:=by
 have gen:∀v:V,flatV v=some (0,[])->isExact v=false->Rep0 noO W (.slice none 0 0) v:=λv hf hx=>
  .slice none 0 0 v [] (λ_=>Go.undef) hf (by simp [hx]) (Z5 _) (λ_=>rfl) (λj hj=>by simp at hj) (λj hj=>by simp at hj) (λj hj=>by simp at hj)
 match ss,hz with
 |[.i k],_=>exact ⟨.ints false k [],⟨[],rfl,by simp,by simp⟩,gen _ rfl rfl⟩
 |[.s],_=>exact ⟨.strs false [],⟨[],rfl,by simp,by simp⟩,gen _ rfl rfl⟩
 |[.b],_=>exact ⟨.recs false 1 [],⟨[],rfl,by simp,by simp⟩,gen _ (by simp [flatV]) rfl⟩
 |a::a'::ss,_=>exact ⟨.recs false (a::a'::ss).length [],by cases a<;>exact ⟨[],rfl,by simp,by simp⟩,gen _ (by simp [flatV]) rfl⟩
section
variable {H:Type} {enc:TypeId×Value->H} {P:Program} {W:World}
theorem Qex:∀(n:Nat) (t:TypeId) (l:List CT),cts P n t=some l->∀(fuel:Nat) (cs:List Value) (x:DataW H×List MemPlace),DataW.trod enc P W 0 (λ_=>true) true fuel t cs=some x ->
  ∃vs,Yv W l cs vs
 |0,t,l,h,_,_,_,_=>by simp [cts] at h
 |
  n+1,t,l,h,fuel,cs,x,hx=>by
  unfold cts at h
  split at h
  ·rename_i ht
   simp at h;subst h
   obtain ⟨bb,rfl,_⟩:=DataW.trod_bool ht hx
   exact ⟨[.bool bb],Qbz ⟨⟨bb,rfl⟩,.bool bb,rfl⟩⟩
  ·rename_i k ht
   simp at h;subst h
   obtain ⟨b,rfl,_,hw⟩:=DataW.trod_int ht hx
   exact ⟨[.int k b],Qbz ⟨⟨b,rfl,hw⟩,.int k b,rfl⟩⟩
  ·rename_i ht
   simp at h;subst h
   obtain ⟨b,rfl,_,hw⟩:=DataW.trod_string ht hx
   exact ⟨[.str b.data.toList],Qbz ⟨⟨_,rfl,by simpa using hw⟩,.str _ _ rfl,rfl⟩⟩
  ·rename_i fs ht
   obtain ⟨l',h1,h2⟩:=Z6.1 h
   split at h2
   case isFalse=>simp at h2
   rename_i hsz
   simp at h2;subst h2
   obtain ⟨xs,m,_,_,hlen,hxl,hf⟩:=DataW.trod_struct ht hx
   have key:∀(gs:List Field) (off:Nat) (l':List CT),ctsF P (cts P n) off gs=some l'->(∀f∈gs,∃y,DataW.trod enc P W 0 (λ_=>true) true m f.type ((cs.drop f.offset).take (P.cellsOf f.type))=some y) ->
     ∃vs,Yv W l' ((cs.drop off).take l'.length) vs:=by
    intro gs
    induction gs with
    |nil=>intro off l' h _;simp [ctsF] at h;subst h;exact ⟨[],by simpa using cellsR_nil W⟩
    |
     cons f gs ih=>
     intro off l' h hg
     unfold ctsF at h
     split at h
     case isFalse=>simp at h
     rename_i hoff
     obtain ⟨lf,h1,h2⟩:=Z6.1 h
     split at h2
     case isFalse=>simp at h2
     rename_i hsz
     obtain ⟨l2,h3,rfl⟩:=Z20.1 h2
     obtain ⟨y,hy⟩:=hg f (by simp)
     obtain ⟨vs1,c1⟩:=Qex n f.type lf h1 m _ y hy
     obtain ⟨vs2,c2⟩:=ih _ _ h3 λf' hf'=>hg f' (by simp [hf'])
     refine ⟨vs1++vs2,?_⟩
     have hc:=Qlb c1 c2
     rw [hoff,hsz] at hc
     have hl1:lf.length<=(cs.drop off).length:=by
      have:=c1.1;rw [hoff,hsz,Z13] at this;omega
     rw [Z3,List.take_add,Z95]
     exact hc
   have hall:∀f∈fs.toList,∃y,DataW.trod enc P W 0 (λ_=>true) true m f.type ((cs.drop f.offset).take (P.cellsOf f.type))=some y:=by
    intro f hf'
    obtain ⟨i,hi,rfl⟩:=Z73 hf'
    have hi':i<fs.size:=by simpa using hi
    have:=hf i (fs.toList[i]) (by simp [hi'])
    rw [Z1 (by omega)] at this
    exact ⟨_,this⟩
   obtain ⟨vs,hv⟩:=key fs.toList 0 _ h1 hall
   refine ⟨vs,?_⟩
   rwa [Z45,Z28 (by omega)] at hv
  ·rename_i m e ht
   obtain ⟨l',h1,h2⟩:=Z6.1 h
   split at h2
   case isFalse=>simp at h2
   rename_i hsz
   simp at h2;subst h2
   obtain ⟨xs,q,_,_,hlen,hxl,hf⟩:=DataW.trod_array ht hx
   have key:∀(k:Nat),k<=m->∃vs,Yv W (ctsA l' k) ((cs.drop ((m-k)*l'.length)).take (k*l'.length)) vs:=by
    intro k
    induction k with
    |zero=>intro _;exact ⟨[],by simpa [ctsA] using cellsR_nil W⟩
    |
     succ k ih=>
     intro hk
     obtain ⟨vs2,c2⟩:=ih (by omega)
     have h3:=hf (m-(k+1)) (by omega)
     rw [Z1 (by omega)] at h3
     obtain ⟨vs1,c1⟩:=Qex n e l' h1 q _ _ h3
     refine ⟨vs1++vs2,?_⟩
     have hc:=Qlb c1 c2
     rw [hsz.1] at hc
     have e1:(m-k)*l'.length=(m-(k+1))*l'.length+l'.length:=by
      rw [<-Nat.succ_mul];congr 1;omega
     have e2:(k+1)*l'.length=l'.length+k*l'.length:=by rw [Nat.succ_mul,Nat.add_comm]
     rw [e1,<-Z95] at hc
     rw [e2,List.take_add]
     exact hc
   obtain ⟨vs,hv⟩:=key m (Z5 _)
   refine ⟨vs,?_⟩
   rwa [Nat.sub_self,Nat.zero_mul,Z45,Z28 (by omega)] at hv
  ·rename_i e ht
   obtain ⟨l',h1,h2⟩:=Z6.1 h
   obtain ⟨ss,h3,h4⟩:=Z6.1 h2
   split at h4
   case isFalse=>simp at h4
   rename_i hsz
   simp at h4;subst h4
   rcases Go.Deep.open_slice ht hx with ⟨rfl,_⟩|⟨a,len,cap,m,q,D,Pl,rfl,_,hl,hm,hmm,_,hi⟩
   ·obtain ⟨v,k1,k2⟩:=Qo6 (W:=W) hsz.2
    exact ⟨[v],Qbz ⟨k1,k2,rfl⟩⟩
   ·simp only [if_true] at hmm
    subst hmm
    rw [hsz.1] at hi
    obtain ⟨v,k1,k2⟩:=Qwu (t:=0) (e:=0) (n:=0) (m:=0) h3 hsz.2 hl hm λi hi'=>by
     obtain ⟨cs',c1,c2⟩:=hi i (by omega)
     obtain ⟨vs,c3⟩:=Qex n e l' h1 q _ _ c2
     exact ⟨cs',vs,c1,c3⟩
    exact ⟨[v],Qbz ⟨k1,k2,rfl⟩⟩
  ·simp at h
inductive AT where
 |one (c:CT)
 |agg (l:List CT)
def okA:AT->V->Prop
 |.one c,v=>okC c v
 |.agg l,v=>∃vs,v=.agg vs/\okCL l vs
def okAL:List AT->List V->Prop
 |[],vs=>vs=[]
 |c::cs,vs=>∃v l,vs=v::l/\okA c v/\okAL cs l
def atOf (P:Program) (n:Nat) (t:TypeId):Option AT:=
 (cts P n t).bind λl=>match P.underlying t with
  |some (.struct _)|some (.array _ _)=>some (.agg l)
  |
   _=>match l with
   |[c]=>some (.one c)
   |_=>none
def Qa4 (P:Program) (n:Nat):List TypeId->Option (List AT)
 |[]=>some []
 |t::ts=>(atOf P n t).bind λx=>(Qa4 P n ts).map (x :: ·)
theorem Qv8 {n:Nat} {t:TypeId} {q:AT} (hq:atOf P n t=some q) {base:Nat} {v:Value} {d:DataW H} {ps:List MemPlace} (hval:Value.okWide P W .any base t v) (h:DataW.Trod enc P W 0 (λ_=>true) true t v d ps) :
  ∃x,okA q x/\Rep0 noO W v x:=by
 obtain ⟨l,h1,h2⟩:=Z6.1 hq
 obtain ⟨fuel,hf⟩:=h
 obtain ⟨vs,hv⟩:=Qex n t l h1 fuel _ _ hf
 have aggCase:(∃cs,v=.agg cs)->∃x,okA (.agg l) x/\Rep0 noO W v x:=by
  rintro ⟨cs,rfl⟩
  have hc:(Value.agg cs).cells.toList=cs.toList:=rfl
  rw [hc] at hv
  refine ⟨.agg vs,⟨vs,rfl,Qfo hv⟩,.agg cs vs (by have:=hv.1;have:=hv.2.1;simp at *;omega) (λj hj=>?_) (λj hj=>?_)⟩ <;>
  ·have hj1:j<cs.size:=by have:=hv.1;have:=hv.2.1;simp at *;omega
   have:=hv.2.2 j (l[j]'(by have:=hv.2.1;omega)) cs[j] vs[j] (by simp) (by simp [hj1]) (by simp)
   have e:cs.getD j Go.undef=cs[j]:=by simp [Array.getD,hj1]
   rw [e]
   first|exact this.2.2|exact this.2.1
 split at h2
 ·rename_i fs ht
  simp at h2;subst h2
  obtain ⟨cs,rfl,_⟩:=okWide_struct ht hval
  exact aggCase ⟨cs,rfl⟩
 ·rename_i m e ht
  simp at h2;subst h2
  unfold Value.okWide at hval
  rw [ht] at hval
  obtain ⟨cs,rfl,_⟩:=hval
  exact aggCase ⟨cs,rfl⟩
 ·rename_i hns hna
  split at h2
  case h_2=>simp at h2
  rename_i c
  simp at h2;subst h2
  obtain ⟨a1,a2,a3⟩:=hv
  match vs,a2 with
  |
   [x],_=>
   have hcells:v.cells = #[v]:=by
    cases v with
    |
     agg cs=>
     exfalso
     unfold Value.okWide at hval
     cases n with
     |zero=>simp [cts] at h1
     |
      succ n=>
      unfold cts at h1
      split at h1<;>rename_i ht
      ·rw [ht] at hval;simp [Cell.okWide,Cell.ok,ht] at hval
      ·rw [ht] at hval;simp [Cell.okWide,Cell.ok,ht] at hval
      ·rw [ht] at hval;simp [Cell.okWide,Cell.ok,ht] at hval
      ·exact hns _ ht
      ·exact hna _ _ ht
      ·rw [ht] at hval;simp [Cell.okWide,Cell.ok,ht] at hval
      ·simp at h1
    |_=>rfl
   rw [hcells] at a3
   have:=a3 0 c v x rfl rfl rfl
   exact ⟨x,this.1,this.2.1⟩
theorem Ql1 {n:Nat}:∀{ts:List TypeId} {qs:List AT} {args:List Value} {ds:List (DataW H)} {ps:List MemPlace} {base:Nat},Qa4 P n ts=some qs->DataW.TrodAll enc P W 0 (λ_=>true) true ts args ds ps ->
  (∀(j:Nat) t v,ts[j]? = some t->args[j]? = some v->Value.okWide P W .any base t v) ->
  ∃vs,args.length=vs.length/\okAL qs vs/\∀j (h:j<vs.length),Rep0 noO W (args.getD j Go.undef) vs[j]
 |
  [],qs,args,ds,ps,base,hq,h,_=>by
  simp [Qa4] at hq;subst hq
  obtain ⟨rfl,rfl,rfl⟩:=trodAll_nil h
  exact ⟨[],rfl,rfl,λj h=>by simp at h⟩
 |
  t::ts,qs,args,ds,ps,base,hq,h,hval=>by
  simp only [Qa4,Z6,Z20] at hq
  obtain ⟨q,hq1,qs',hq2,rfl⟩:=hq
  obtain ⟨v,vs,d,ds',p,p',rfl,rfl,rfl,h1,h2⟩:=trodAll_cons h
  obtain ⟨x,k1,k2⟩:=Qv8 hq1 (hval 0 t v rfl rfl) h1
  obtain ⟨xs,l1,l2,l3⟩:=Ql1 hq2 h2 λj t v a b=>hval (j+1) t v (by simpa using a) (by simpa using b)
  refine ⟨x::xs,by simp [l1],⟨x,xs,rfl,k1,l2⟩,λj hj=>?_⟩
  cases j with
  |zero=>exact k2
  |succ j=>simpa using l3 j (by simpa using hj)
theorem Qou {ts:List TypeId} (hl:laidOutB P=true) (hr:ts.all (λt=>P.readableRec t&&decide (t<P.types.size))=true) {W':World} (hb:Below W.heap.size W W') {sp:Nat->Bool} :
  ∀
   {vs:List Value} {ds:List (DataW H)} {ps:List MemPlace},DataW.TrodAll enc P W 0 (λ_=>true) true ts vs ds ps->(∀x∈ps,x.block<W.heap.size)->(∀x∈ps,sp x.block=true) ->
   DataW.TrodAll enc P W' 0 sp true ts vs ds ps:=by
 induction ts with
 |
  nil=>
  intro vs ds ps h _ _
  obtain ⟨rfl,rfl,rfl⟩:=trodAll_nil h
  exact trodAll_mk0
 |
  cons t ts ih=>
  intro vs ds ps h hlt hsp
  obtain ⟨v,vs',d,ds',p,p',rfl,rfl,rfl,h1,h2⟩:=trodAll_cons h
  simp only [List.all_cons,Z4,decide_eq_true_eq] at hr
  exact trodAll_cons_mk (WideElems.Trod_stays hl hr.1.1 hr.1.2 h1 (λx hx=>hb.same (hlt x (by simp [hx]))) (λx hx=>hsp x (by simp [hx])))
   (ih hr.2 h2 (λx hx=>hlt x (by simp [hx])) (λx hx=>hsp x (by simp [hx])))
theorem Qrw {f:Func} {s:ChangeSpec} {apart fresh handsOn again:Bool} {W W':World} {args:Array Value} {v:Value} {ds gs:List (DataW H)} {before pa pv:List MemPlace}
  (hW:DataW.Whole enc P f.params.toList s.vars apart W args.toList ds gs before)
  (hres:∀(b:Nat) (sp:Nat->Bool) (hd:Bool),DataW.TrodAll enc P W' b sp hd f.resultTypes.toList (v.resultList f.resultTypes.size) (s.fn H (ds++gs)).results [])
  (hargs:∀sp:Nat->Bool,(∀p∈before,sp p.block=true)->DataW.TrodAll enc P W' 0 sp true f.params.toList args.toList (s.fn H (ds++gs)).args pa)
  (hvars:∀sp:Nat->Bool,(∀p∈before,sp p.block=true)->DataW.TrodVars enc P W' sp s.vars (s.fn H (ds++gs)).vars pv)
  (hps:before=pa++pv) (hb:Below W.heap.size W W')
  (hok:∀(j:Nat) (t:TypeId) (r:Value),f.resultTypes[j]? = some t->(v.resultList f.resultTypes.size)[j]? = some r->Value.okWide P W' .any 0 t r) :
  s.post enc P f apart fresh handsOn again W args v W':=by
 have hlt:∀p∈before,p.block<W.heap.size:=λp hp=>hW.lt p hp
 have hold:∀p∈before,(λb=>decide (b<W.heap.size)) p.block=true:=λp hp=>by simpa using hlt p hp
 refine ⟨ds,gs,before,[],pa,pv,hW,hres _ _ _,hargs _ hold,hvars _ hold,World.keptBut_mono (λp hp=>⟨hp,?_⟩) (hb.frame (·∈before)),λ_=>?_⟩
 ·rw [hps,Z41] at hp
  exact Or.inr hp
 ·obtain ⟨_,_,_,_,_,hz,hn⟩:=hW
  refine ⟨hok,_,_,([]++pa)++pv,⟨[]++pa,pv,trodAll_append (hargs _ (λ_ _=>rfl)) (hres _ _ _),hvars _ (λ_ _=>rfl),rfl,?_,?_⟩,?_⟩
  ·intro b off hp
   have hin:MemPlace.cell b off∈before:=by rw [hps];simpa using hp
   rw [hb.frozen (hlt _ hin)]
   exact hz b off hin
  ·intro ha
   have:=hn ha
   rw [hps] at this
   simpa using this
  ·intro p hp _
   rw [hps]
   simpa using hp
theorem Qo5 {g:Nat} {f:Func} {c:Code} (hf:FunOK P g f c) {s:ChangeSpec} {n:Nat} {qs:List AT} {tb:TypeId} (hl:laidOutB P=true) (hr:f.params.toList.all (λt=>P.readableRec t&&decide (t<P.types.size))=true)
  (hq:Qa4 P n f.params.toList=some qs) (hres:f.resultTypes = #[tb]) (htb:P.underlying tb=some .bool) (hv:s.vars=[])
  (hs:∀ds:List (DataW H),ds.length=f.params.toList.length->s.fn H ds={results:=[.lit (.bool true)],args:=ds})
  (plain:∀vs,okAL qs vs->∃p r,SoundC P g vs p/\p.m=some r/\p.enc r=.bool true)
  (W:World) (base:Nat) (args:Array Value) (ds gs:List (DataW H)) (before:List MemPlace)
  (hval:∀(j:Nat) t v,f.params[j]? = some t->args[j]? = some v->Value.okWide P W .any base t v)
  (hW:DataW.Whole enc P f.params.toList s.vars false W args.toList ds gs before) :
  Calls P g args W λe W'=>∃v,e=.returned v/\s.post enc P f false true false false W args v W':=by
 have hW':=hW
 have hlt:∀p∈before,p.block<W.heap.size:=λp hp=>hW.lt p hp
 obtain ⟨p,q,hA,hV,rfl,hfz,hnd⟩:=hW
 have hA:DataW.TrodAll enc P W 0 (λ_=>true) true f.params.toList args.toList ds p:=hA
 rw [hv] at hV
 obtain ⟨rfl,rfl⟩:=trodVars_none hV
 obtain ⟨vs,h1,h2,h3⟩:=Ql1 hq hA λj t v a b=>hval j t v (by simpa using a) (by simpa using b)
 obtain ⟨pk,r,hsound,hm,he⟩:=plain vs h2
 have hcall:=hsound noO W args r hm (by simpa using h1) (λj hj=>by
  have h4:=h3 j hj
  have:args.getD j Go.undef=args.toList.getD j Go.undef:=by
   have hj':j<args.size:=by rw [<-Z25,h1];exact hj
   simp [Array.getD,List.getD,hj']
  rwa [this]) (λb h=>h.elim)
 unfold CallR at hcall
 rw [hf.enters] at hcall
 have hlen:∀{ts:List TypeId} {vs:List Value} {ds:List (DataW H)} {ps:List MemPlace},DataW.TrodAll enc P W 0 (λ_=>true) true ts vs ds ps->ds.length=ts.length:=by
  intro ts
  induction ts with
  |nil=>intro vs ds ps h;obtain ⟨_,rfl,_⟩:=trodAll_nil h;rfl
  |cons t ts ih=>intro vs ds ps h;obtain ⟨_,_,_,_,_,_,_,rfl,_,_,h2⟩:=trodAll_cons h;simp [ih h2]
 refine hcall.mono λe W' h=>?_
 cases e with
 |
  returned cv=>
  obtain ⟨hg,hrep⟩:=h
  rw [he] at hrep
  obtain rfl:cv=.bool true:=by
   cases hrep
   ·rfl
   ·rename_i hf _;cases hf
  have hb:Below W.heap.size W W':=⟨hg.os,hg.tape,hg.output,hg.size,λk hk=>hg.block k hk (by simp)⟩
  have hfn:=hs ds (hlen hA)
  refine ⟨_,rfl,Qrw (pa:=p) (pv:=[]) hW' ?_ ?_ ?_ rfl hb ?_⟩
  ·intro b sp hd
   rw [Z42,hfn,hres]
   exact trodAll_cons_mk (shut_bool htb _) trodAll_mk0
  ·intro sp hsp
   rw [Z42,hfn]
   exact Qou hl hr hb hA (λx hx=>hlt x (by simp [hx])) (λx hx=>hsp x (by simp [hx]))
  ·intro sp hsp
   rw [Z42,hfn,hv]
   rfl
  ·exact ok_one hres rfl (okWide_bool_mk htb _)
 |_=>exact h.elim
end
end
end Go.Proofs.YtjfipepaaddlmaaGreatDoor.A
end
section
namespace Go.Proofs.YtjfipepaaddlmaaGreatDoor.A
open Go
theorem own:ownKnob Tryz.prog.godebug=none:=by kernel_rfl
theorem laidOut:laidOutB Tryz.prog=true:=by kernel_rfl
theorem rowed:mapsRowed Tryz.prog=true:=by kernel_rfl
theorem Qu8:(Tryz.prog.stops == [])=true:=by kernel_rfl
theorem Qte:(Tryz.prog.stopKnobs == [])=true:=by kernel_rfl
theorem Qt2:Tryz.prog.stopsHeard=true:=by kernel_rfl
theorem Qpv:Tryz.prog.mayEnter=true:=by kernel_rfl
theorem Qs5:false=Tryz.prog.looks []:=by kernel_rfl
theorem main:Tryz.pinned.checked.prog.mainIs=some (true,("cfe5d7253a358151c2ab5ce2983a554a030f76eb31568c1f02fd0fb291c53683":String).toList):=by kernel_rfl
noncomputable def relay (l:J0):Obj->Obj
 |.cells _ t fz=>.cells (l.map λn=>Value.int .u8 n).toArray t fz
 |o=>o
noncomputable def accept:J0:=[128,191,160,191,128,159,144,191,128,143,0,0,0,0,0,0,0,0,0,0,0,0,0,0,0,0,0,0,0,0,0,0]
noncomputable def Qf9 (os:Os):World:=
 let w:=World.holding Tryz.prog os ⟨#[],#[],[]⟩
 {w with heap:=(w.heap.modify 3 (relay (Go.Pinned.utf8FirstZ.map Int.ofNat))).modify 4 (relay accept)}
def Runs {σ R:Type} (F:(σ->Option R)->σ->Option R) (x:σ) (r:R):Prop:=
 (∃n,Q8 F n x=some r)/\∀n,Q8 F n x=none\/Q8 F n x=some r
theorem Runs.done {σ R:Type} {F:(σ->Option R)->σ->Option R} {x:σ} {r:R} (h:∀rec,F rec x=some r):Runs F x r:=by
 refine ⟨⟨1,h _⟩,λn=>?_⟩
 cases n with
 |zero=>exact .inl rfl
 |succ n=>exact .inr (h _)
theorem Runs.step {σ R:Type} {F:(σ->Option R)->σ->Option R} {x y:σ} {r:R} (h:∀rec,F rec x=rec y) (hy:Runs F y r):Runs F x r:=by
 obtain ⟨⟨m,hm⟩,ha⟩:=hy
 refine ⟨⟨m+1,by rw [<-hm];exact h _⟩,λn=>?_⟩
 cases n with
 |zero=>exact .inl rfl
 |succ n=>have:=ha n;rw [<-h (Q8 F n)] at this;exact this
theorem Runs.lfp {σ R:Type} {F:(σ->Option R)->σ->Option R} {x:σ} {r:R} (h:Runs F x r):A.lfp F x=some r:=by
 obtain ⟨⟨m,hm⟩,ha⟩:=h
 unfold A.lfp
 have hex:∃n,(Q8 F n x).isSome:=⟨m,by rw [hm];rfl⟩
 rw [dif_pos hex]
 rcases ha (Classical.choose hex) with h0|h0
 ·have:=Classical.choose_spec hex
  rw [h0] at this;simp at this
 ·exact h0
theorem Qg {n:Int} (h1:-9223372036854775808<=n) (h2:n<9223372036854775808):wr .i64 n=n:=by
 simp only [wr,IntKind.wrap,IntKind.signed,IntKind.bits]
 simp;omega
theorem Qq {n:Int} (h1:0<=n) (h2:n<18446744073709551616):wr .u64 n=n:=by
 simp only [wr,IntKind.wrap,IntKind.signed,IntKind.bits]
 simp;omega
theorem Yc (n:Int):wr .u64 n=n%18446744073709551616:=by
 simp [wr,IntKind.wrap,IntKind.signed,IntKind.bits]
theorem Qaj {n:Int} (h1:0<=n) (h2:n<256):wr .u8 n=n:=by
 simp only [wr,IntKind.wrap,IntKind.signed,IntKind.bits]
 simp;omega
theorem Qr8 {n:Int} (h:(Lit.int .u32 n).wf=true):0<=n/\n<4294967296:=by
 simp [Lit.wf,IntKind.min,IntKind.max,IntKind.signed,IntKind.bits] at h;omega
theorem Qln {n:Int} (h:(Lit.int .u8 n).wf=true):0<=n/\n<256:=by
 simp [Lit.wf,IntKind.min,IntKind.max,IntKind.signed,IntKind.bits] at h;omega
theorem J5 {a b:Int} (h:0<=a):Int.tdiv a b=a/b:=Int.tdiv_eq_ediv_of_nonneg h
theorem Qae {a b:Int} (h:0<=a):Int.tmod a b=a%b:=Z64 h
def toB (B n:Nat):J0:=if h:2<=B/\0<n then ((n%B:Nat):Int)::toB B (n/B) else []
termination_by n
decreasing_by exact Z93 h.2 h.1
def valB (B:Nat):J0->Int
 |[]=>0
 |x::l=>x+B*valB B l
theorem toB_zero (B:Nat):toB B 0=[]:=by unfold toB;rw [dif_neg];omega
theorem Wv {B n:Nat} (hB:2<=B) (hn:0<n):toB B n=((n%B:Nat):Int)::toB B (n/B):=by
 rw [toB];rw [dif_pos ⟨hB,hn⟩]
def inB (B:Nat) (l:J0):Prop:=∀x∈l,0<=x/\x<B
theorem Yo {B:Nat} {x:Int} {l:J0}:inB B (x::l)↔(0<=x/\x<B)/\inB B l:=by simp [inB]
theorem Y6 (B:Nat):inB B []:=by simp [inB]
theorem Qf5 {B:Nat} {l l':J0}:inB B (l++l')↔inB B l/\inB B l':=by
 simp only [inB,Z41]
 exact ⟨λh=>⟨λx hx=>h x (.inl hx),λx hx=>h x (.inr hx)⟩,λh x hx=>hx.elim (h.1 x) (h.2 x)⟩
theorem Q1 {B:Nat} (hB:2<=B) (n:Nat):inB B (toB B n):=by
 induction n using Nat.strongRecOn with
 |
  _ n ih=>
  rcases Z15 n with rfl|hn
  ·rw [toB_zero];exact Y6 B
  ·rw [Wv hB hn,Yo]
   refine ⟨⟨by omega,?_⟩,ih _ (Z93 hn hB)⟩
   exact_mod_cast Z88 n (by omega)
theorem Q4 {B:Nat} (hB:2<=B) (n:Nat):valB B (toB B n)=n:=by
 induction n using Nat.strongRecOn with
 |
  _ n ih=>
  rcases Z15 n with rfl|hn
  ·rw [toB_zero];rfl
  ·rw [Wv hB hn,valB,ih _ (Z93 hn hB)]
   exact_mod_cast Nat.mod_add_div n B
theorem J3 {B:Nat}:∀{l:J0},inB B l->0<=valB B l
 |[],_=>Int.le_refl 0
 |
  x::l,h=>by
  rw [Yo] at h
  have:=J3 h.2
  have:=Z60 (Z89 B) this
  unfold valB;omega
theorem Qao {B:Nat} (hB:2<=B):∀{l:J0},inB B l->valB B l<(B^l.length:Nat)
 |[],_=>by simp [valB]
 |
  x::l,h=>by
  rw [Yo] at h
  have h1:=Qao hB h.2
  have h2:(B:Int)*(valB B l+1)<=B*(B^l.length:Nat):=Int.mul_le_mul_of_nonneg_left (by omega) (by omega)
  have h3:(B:Int)*(valB B l+1)=B*valB B l+B:=by rw [Int.mul_add,Int.mul_one]
  have h4:((B^(x::l).length:Nat):Int)=B*(B^l.length:Nat):=by
   rw [Z8,Z38,Z33];exact_mod_cast rfl
  rw [h4];unfold valB;omega
theorem Qef (B:Nat):∀(l l':J0),valB B (l++l')=valB B l+(B^l.length:Nat)*valB B l'
 |[],l'=>by simp [valB]
 |
  x::l,l'=>by
  rw [List.cons_append,valB,valB,Qef B l l',Z8,Z38,Z33 (B^l.length) B,Z26,Int.mul_add,Int.mul_assoc,Int.add_assoc]
theorem Qey {B:Nat} (hB:2<=B):∀{l:J0},inB B l->(∀h:l≠[],l.getLast h≠0)->l=toB B (valB B l).toNat
 |[],_,_=>by simp [valB,toB_zero]
 |
  x::l,h,hl=>by
  rw [Yo] at h
  have hn:=J3 h.2
  have ih:=Qey hB h.2 λhne=>by have:=hl (by simp);rwa [List.getLast_cons hne] at this
  have hpos:0<(valB B (x::l)).toNat:=by
   have hm:=Z60 (Z89 B) hn
   unfold valB
   by_cases hx:x=0
   ·have hne:l≠[]:=λe=>by subst e;exact hl (by simp) (by simpa using hx)
    have:0<valB B l:=by
     rcases Int.lt_or_eq_of_le hn with h0|h0
     ·exact h0
     ·rw [<-h0] at ih;simp [toB_zero] at ih;exact absurd ih hne
    have:=Int.mul_pos (show (0:Int)<B by omega) this
    omega
   ·omega
  have e1:(valB B (x::l)).toNat=x.toNat+B*(valB B l).toNat:=by
   have hv:valB B (x::l)=x+B*valB B l:=rfl
   rw [hv]
   have hm:=Z60 (Z89 B) hn
   have:((B*(valB B l).toNat:Nat):Int)=B*valB B l:=by rw [Z26,Int.toNat_of_nonneg hn]
   omega
  have hx:x.toNat<B:=by omega
  rw [Wv hB hpos,e1,Z77,Nat.mod_eq_of_lt hx,Nat.add_mul_div_left _ _ (by omega),Nat.div_eq_of_lt hx,Z29,<-ih,Int.toNat_of_nonneg h.1.1]
theorem Qpc {B:Nat} (hB:2<=B) (n:Nat):∀h:toB B n≠[],(toB B n).getLast h≠0:=by
 induction n using Nat.strongRecOn with
 |
  _ n ih=>
  intro h
  rcases Z15 n with rfl|hn
  ·exact absurd (toB_zero B) h
  ·have e:=Wv hB hn
   simp only [e]
   by_cases hq:toB B (n/B)=[]
   ·simp only [hq,List.getLast_singleton]
    have h0:n/B=0:=by
     rcases Z15 (n/B) with h0|h0
     ·exact h0
     ·rw [Wv hB h0] at hq;simp at hq
    have:n<B:=by
     rcases Z53 n B with h1|h1
     ·exact h1
     ·have:=Nat.div_pos h1 (by omega);omega
    rw [Nat.mod_eq_of_lt this];omega
   ·rw [List.getLast_cons hq]
    exact ih _ (Z93 hn hB) hq
theorem toB_nil {B n:Nat} (hB:2<=B):toB B n=[]↔n=0:=by
 constructor
 ·intro h
  rcases Z15 n with h0|h0
  ·exact h0
  ·rw [Wv hB h0] at h;simp at h
 ·rintro rfl;exact toB_zero B
theorem Qfn {B n:Nat} (hB:2<=B):n<B^(toB B n).length:=by
 have:=Qao hB (Q1 hB n)
 rw [Q4 hB] at this
 exact_mod_cast this
theorem Ji {B:Nat} (hB:2<=B):∀{k n:Nat},n<B^k->(toB B n).length<=k
 |0,n,h=>by
         have:n=0:=by simpa using h
         subst this;simp [toB_zero]
 |
  k+1,n,h=>by
  rcases Z15 n with rfl|hn
  ·simp [toB_zero]
  ·rw [Wv hB hn,Z8]
   have:n/B<B^k:=Nat.div_lt_of_lt_mul (by rw [Z38,Z33] at h;exact h)
   have:=Ji hB this
   omega
theorem Qwl {B n:Nat} (hB:2<=B) (hn:0<n):B^((toB B n).length-1)<=n:=by
 rcases Z53 n (B^((toB B n).length-1)) with h|h
 ·have h1:=Ji hB h
  have h2:toB B n≠[]:=λe=>by rw [toB_nil hB] at e;omega
  have:=Z21.2 h2
  omega
 ·exact h
theorem bif_t {α:Type} {p:Prop} [Decidable p] {a b:α} (h:p):(bif decide p then a else b)=a:=by simp [h]
theorem Qc {α:Type} {p:Prop} [Decidable p] {a b:α} (h:¬p):(bif decide p then a else b)=b:=by simp [h]
abbrev J8 {α:Type} (l:List α):Prop:=l.length<=1000000000
abbrev dg (n:Nat):J0:=toB 10000 n
theorem b4:2<=10000:=by decide
theorem Yf {B:Nat} {l:J0} {n:Nat} (h:n<l.length):valB B (l.take (n+1))=valB B (l.take n)+(B^n:Nat)*l[n]:=by
 rw [List.take_succ_eq_append_getElem h,Qef,Z13,Nat.min_eq_left (by omega)]
 simp [valB]
theorem Q2 {l:J0} {n:Nat} (h:n<l.length):l.getD n 0=l[n]:=by simp [List.getD,h]
theorem Qmu {B:Nat} (hB:2<=B) {l:J0} (hl:inB B l) (hs:J8 l):z107.F l=some (toB B (valB B l).toNat):=by
 have key:∀n:Nat,n<=l.length->∃m:Nat,m<=n/\Runs (λrec x=>z107.l0P l rec some x) (n:Int) (m:Int)/\valB B (l.take m)=valB B (l.take n)/\(m=0\/l.getD (m-1) 0≠0):=by
  intro n
  induction n with
  |zero=>exact λ_=>⟨0,Z5 0,.done λrec=>by simp [z107.l0P],rfl,.inl rfl⟩
  |
   succ n ih=>
   intro hn
   have hs':l.length<=1000000000:=hs
   have e:wr .i64 (((n+1:Nat):Int)-1)=(n:Int):=by rw [Qg]<;>omega
   have e0:((n+1:Nat):Int)>0:=by omega
   have e1:(0:Int)<=(n:Int)/\(n:Int)<(l.length:Int):=by omega
   by_cases hz:l.getD n 0=0
   ·obtain ⟨m,h1,h2,h3,h4⟩:=ih (by omega)
    refine ⟨m,by omega,.step (λrec=>?_) h2,?_,h4⟩
    ·unfold z107.l0P
     rw [bif_t e0,e,if_pos e1,Zi,bif_t hz]
    ·rw [h3,Yf (show n<l.length by omega),<-Q2,hz];simp
   ·refine ⟨n+1,Z5 _,.done λrec=>?_,rfl,.inr (by simpa using hz)⟩
    unfold z107.l0P
    rw [bif_t e0,e,if_pos e1,Zi,Qc hz]
 obtain ⟨m,h1,h2,h3,h4⟩:=key l.length (Z5 _)
 unfold z107.F z107.l0
 rw [h2.lfp]
 simp only [Zb]
 rw [if_pos (by omega),Zi]
 rw [Z61] at h3
 rw [<-h3]
 congr 1
 apply Qey hB (λx hx=>hl x (Z52 hx))
 intro hne
 rcases h4 with rfl|h4
 ·simp at hne
 ·rw [List.getLast_eq_getElem]
  have hm:0<m:=by
   rcases Z15 m with h0|h0
   ·subst h0;simp at hne
   ·exact h0
  rw [Q2 (by omega)] at h4
  simp only [Z13,List.getElem_take]
  have:min m l.length-1=m-1:=by omega
  simp only [this]
  exact h4
theorem Qaz {l:J0} (hl:inB 10000 l) (hs:J8 l):z107.F l=some (dg (valB 10000 l).toNat):=Qmu b4 hl hs
theorem Qen {l:J0} {i:Nat}:z114.F l (i:Int)=some (l.getD i 0):=by
 unfold z114.F
 by_cases h:(i:Int)>=(l.length:Int)
 ·rw [bif_t h]
  have:l.getD i 0=0:=by simp [List.getD,Z10 (show l.length<=i by omega)]
  rw [this]
 ·rw [Qc h,if_pos (by omega),Zi]
theorem Qd9 {n:Nat} (hn:n<9223372036854775808):z105.F (n:Int)=some (dg n):=by
 have key:∀(n:Nat),n<9223372036854775808->∀s:J0,J8 s->(s.length+(dg n).length<=1000000000)->Runs (λrec x=>z105.l0P rec some x) ((n:Int),s) ((0:Int),s++dg n):=by
  intro n
  induction n using Nat.strongRecOn with
  |
   _ n ih=>
   intro hn s hs hl
   rcases Z15 n with rfl|h0
   ·refine .done λrec=>?_
    simp [z105.l0P,toB_zero]
   ·have e:dg n=((n%10000:Nat):Int)::dg (n/10000):=Wv b4 h0
    have hd:n/10000<n:=Z93 h0 (by decide)
    rw [e] at hl ⊢
    have h2:=ih (n/10000) hd (by omega) (s++[((n%10000:Nat):Int)]) (by simp at *;omega) (by simp at *;omega)
    rw [Z51,List.singleton_append] at h2
    refine .step (λrec=>?_) h2
    unfold z105.l0P
    simp only
    have e1:Int.tmod (n:Int) 10000=((n%10000:Nat):Int):=by rw [Qae (by omega)];rfl
    have e2:wr .i64 (Int.tdiv (n:Int) 10000)=((n/10000:Nat):Int):=by rw [J5 (by omega),Qg (by omega) (by omega)];rfl
    rw [bif_t (by omega),if_pos (by simp at *;omega),e1,e2]
 unfold z105.F z105.l0
 have hl:(dg n).length<=5:=Ji b4 (by omega)
 rw [(key n hn [] (by simp) (by simp;omega)).lfp]
 simp
def ch (d:Int):UInt8:=UInt8.ofNat (48+d.toNat)
def txt (n:Nat):J1:=if n=0 then [48] else (toB 10 n).reverse.map ch
theorem b10:2<=10:=by decide
theorem Qdg {d:Int} (h0:0<=d) (h:d<10):(ch d).toNat=48+d.toNat:=by
 unfold ch;rw [UInt8.toNat_ofNat'];omega
def dig4 (d:Int):J0:=[d%10,d/10%10,d/100%10,d/1000%10]
theorem Qqm {d:Int} (h0:0<=d):inB 10 (dig4 d):=by
 intro x hx;simp [dig4] at hx;rcases hx with rfl|rfl|rfl|rfl<;>omega
theorem Qq1 {d:Int} (h0:0<=d) (h:d<10000):valB 10 (dig4 d)=d:=by simp [dig4,valB];omega
theorem Qme:∀{l:J0},inB 10000 l->inB 10 (l.flatMap dig4)
 |[],_=>Y6 10
 |x::l,h=>by rw [Yo] at h;rw [Z92,Qf5];exact ⟨Qqm h.1.1,Qme h.2⟩
theorem Qku:∀{l:J0},inB 10000 l->valB 10 (l.flatMap dig4)=valB 10000 l
 |[],_=>rfl
 |
  x::l,h=>by
  rw [Yo] at h
  rw [Z92,Qef,Qq1 h.1.1 h.1.2,Qku h.2]
  simp [dig4,valB]
theorem Qg9:∀(l:J0),(l.flatMap dig4).length=4*l.length
 |[]=>rfl
 |x::l=>by rw [Z92,Z3,Qg9 l];simp [dig4];omega
theorem Qop (s:J1) (hs:J8 s) (d:Int) (h0:0<=d) (hd:d<10000):∃d',z102.l2 (s,d,(0:Int))=some (((dig4 d).reverse.map ch)++s,d',4):=by
 have hs':s.length<=1000000000:=hs
 have one:∀(s:J1) (d:Int) (k:Nat),s.length<=1000000004->0<=d->d<10000->k<4->∀rec,z102.l2P rec some (s,d,(k:Int))=rec (ch (d%10)::s,d/10,((k+1:Nat):Int)):=by
  intro s d k hs h0 hd hk rec
  unfold z102.l2P
  simp only
  rw [bif_t (by omega),if_pos (by simp;omega),Qae h0,J5 h0,Qg (n:=48+d%10) (by omega) (by omega),Qaj (by omega) (by omega),Qg (n:=d/10) (by omega) (by omega),Qg (by omega) (by omega)]
  have:(48+d%10).toNat=48+(d%10).toNat:=by omega
  simp [ch,this]
 refine ⟨d/10/10/10/10,?_⟩
 unfold z102.l2
 refine Runs.lfp (.step (one s d 0 (by omega) h0 hd (by decide)) (.step (one _ (d/10) 1 (by simp;omega) (by omega) (by omega) (by decide)) (.step (one _ (d/10/10) 2 (by simp;omega) (by omega) (by omega) (by decide)) (.step (one _ (d/10/10/10) 3 (by simp;omega) (by omega) (by omega) (by decide)) (.done λrec=>?_)))))
 unfold z102.l2P
 simp only
 rw [Qc (by omega)]
 have e1:d/10/10=d/100:=by omega
 have e2:d/10/10/10=d/1000:=by omega
 simp [dig4,e1,show d/100/10=d/1000 by omega]
theorem Qtu {l:J0} (hl:inB 10000 l) (hs:4*l.length<=1000000000):z102.l0 l ([],(0:Int))=some ((l.flatMap dig4).reverse.map ch,(l.length:Int)):=by
 have key:∀(k:Nat),k<=l.length->Runs (λrec x=>z102.l0P l rec some x) (((l.take (l.length-k)).flatMap dig4).reverse.map ch,((l.length-k:Nat):Int)) ((l.flatMap dig4).reverse.map ch,(l.length:Int)):=by
  intro k
  induction k with
  |
   zero=>
   intro _
   refine .done λrec=>?_
   unfold z102.l0P
   simp
  |
   succ k ih=>
   intro hk
   have hi:l.length-(k+1)<l.length:=by omega
   have hm:=hl l[l.length-(k+1)] (Z9 hi)
   obtain ⟨d',h2⟩:=Qop (((l.take (l.length-(k+1))).flatMap dig4).reverse.map ch) (by
    show List.length _<=_;rw [Z34,List.length_reverse,Qg9,Z13];omega) _ hm.1 hm.2
   refine .step (λrec=>?_) (ih (by omega))
   unfold z102.l0P
   simp only
   rw [bif_t (by omega),if_pos (by omega),Zi,Q2 hi,h2]
   simp only [Zb]
   rw [Qg (by omega) (by omega)]
   have e:l.take (l.length-k)=l.take (l.length-(k+1))++[l[l.length-(k+1)]]:=by
    rw [<-List.take_succ_eq_append_getElem hi];congr 1;omega
   have e2:((l.length-(k+1):Nat):Int)+1=((l.length-k:Nat):Int):=by omega
   rw [e,e2,List.flatMap_append]
   simp only [Z92,List.flatMap_nil,Z42,List.reverse_append,Z87]
 have:=key l.length (Z5 _)
 simp only [Nat.sub_self,List.take_zero,List.flatMap_nil,List.reverse_nil,List.map_nil] at this
 exact this.lfp
theorem Ql4 {d:Int} (h0:0<=d) (h:d<10):((ch d).toNat:Int)=48↔d=0:=by rw [Qdg h0 h];omega
theorem Qjg {n:Nat} (hs:4*(dg n).length<=1000000000):z102.F (dg n)=some (txt n):=by
 unfold z102.F txt
 by_cases hn:n=0
 ·subst hn;simp [dg,toB_zero]
 ·have hne:dg n≠[]:=λe=>hn ((toB_nil b4).1 e)
  have hlen:=Z21.2 hne
  rw [Qc (by omega),if_neg hn,Qtu (Q1 b4 n) hs]
  simp only [Zb]
  generalize hfl:(dg n).flatMap dig4=fl
  have hin:inB 10 fl:=by rw [<-hfl];exact Qme (Q1 b4 n)
  have hv:valB 10 fl=n:=by rw [<-hfl,Qku (Q1 b4 n),Q4 b4]
  have hl:fl.length<=1000000000:=by rw [<-hfl,Qg9];exact hs
  have key:∀k:Nat,k<=fl.length->valB 10 (fl.take k)=n->∃m:Nat,m<=k/\Runs (λrec x=>z102.l4P (fl.reverse.map ch) rec some x) ((fl.length-k:Nat):Int) ((fl.length-m:Nat):Int)/\valB 10 (fl.take m)=n/\(m=0\/fl.getD (m-1) 0≠0):=by
   intro k
   induction k with
   |zero=>intro _ h;simp [valB] at h;omega
   |
    succ k ih=>
    intro hk h
    have hi:fl.length-(k+1)<(fl.reverse.map ch).length:=by simp;omega
    have hk':k<fl.length:=by omega
    have hm:=hin fl[k] (Z9 hk')
    have eg:(fl.reverse.map ch).getD (fl.length-(k+1)) 0=ch fl[k]:=by
     have e0:fl.length-1-(fl.length-(k+1))=k:=by omega
     simp only [List.getD,Z1 hi,Z39,Z18,List.getElem_reverse,e0]
    by_cases hz:fl[k]=0
    ·obtain ⟨m,h1,h2,h3,h4⟩:=ih (by omega) (by rw [Yf hk',hz] at h;simpa using h)
     refine ⟨m,by omega,.step (λrec=>?_) h2,h3,h4⟩
     unfold z102.l4P
     rw [if_pos (by simp;omega),Zi,eg,bif_t ((Ql4 hm.1 hm.2).2 hz),Qg (by omega) (by omega)]
     congr 1;omega
    ·refine ⟨k+1,Z5 _,.done λrec=>?_,h,.inr (by rw [Nat.add_sub_cancel,Q2 hk'];exact hz)⟩
     unfold z102.l4P
     rw [if_pos (by simp;omega),Zi,eg,Qc (λe=>hz ((Ql4 hm.1 hm.2).1 e))]
  obtain ⟨m,h1,h2,h3,h4⟩:=key fl.length (Z5 _) (by rw [Z61];exact hv)
  rw [Nat.sub_self] at h2
  unfold z102.l4
  rw [show (0:Int)=((0:Nat):Int) from rfl,h2.lfp]
  simp only [Zb]
  rw [if_pos (by rw [Z34,List.length_reverse];omega),Zi]
  have hm:m≠0:=by rintro rfl;simp [valB] at h3;omega
  have e:fl.take m=toB 10 n:=by
   have:=Qey b10 (l:=fl.take m) (λx hx=>hin x (Z52 hx)) λhne=>by
    rcases h4 with h4|h4
    ·exact absurd h4 hm
    ·rw [List.getLast_eq_getElem]
     rw [Q2 (by omega)] at h4
     simp only [Z13,List.getElem_take]
     have:min m fl.length-1=m-1:=by omega
     simp only [this];exact h4
   rwa [h3,Zi] at this
  rw [<-e,<-List.map_drop,List.reverse_take]
theorem Qa8 {B:Nat}:∀{l:J0} {j:Nat} {x:Int},j<l.length->valB B (l.set j x)=valB B l+(x-l.getD j 0)*(B^j:Nat)
 |y::l,0,x,_=>by simp [valB];omega
 |
  y::l,j+1,x,h=>by
  have:=Qa8 (B:=B) (l:=l) (j:=j) (x:=x) (by simpa using h)
  rw [List.set_cons_succ,valB,valB,this,Z72,Z38,Z33 (B^j) B,Z26,Int.mul_add,Int.add_assoc]
  congr 2
  rw [Int.mul_left_comm]
theorem J6 {B:Nat} {l:J0} {j:Nat} {x:Int} (h:inB B l) (hx:0<=x/\x<B):inB B (l.set j x):=λy hy=>by
 rcases List.mem_or_eq_of_mem_set hy with h1|rfl
 ·exact h y h1
 ·exact hx
theorem Yl {B:Nat}:∀(l:J0) (k:Nat),valB B (l.drop k)=l.getD k 0+B*valB B (l.drop (k+1))
 |[],k=>by simp [valB]
 |x::l,0=>by simp [valB]
 |x::l,k+1=>by rw [List.drop_succ_cons,List.drop_succ_cons,Z72];exact Yl l k
theorem Q6 {B:Nat} (hB:0<B) {l:J0} (h:inB B l) (k:Nat):0<=l.getD k 0/\l.getD k 0<B:=by
 by_cases hk:k<l.length
 ·rw [Q2 hk];exact h _ (Z9 hk)
 ·simp [List.getD,Z10 (show l.length<=k by omega)];omega
theorem Qpd {B:Nat} {l:J0} (h:inB B l) (k:Nat):inB B (l.drop k):=λx hx=>h x (Z70 hx)
theorem Qdm {B:Nat} {l:J0} (h:inB B l) (k:Nat):inB B (l.take k):=λx hx=>h x (Z52 hx)
theorem Qta {a b s:J0} {i k:Nat} {c:Int} (ha:inB 10000 a) (hb:inB 10000 b) (hs:inB 10000 s) (hi:i<a.length) (hk:i+k<s.length) (hsl:s.length<=4000000000) (hc:0<=c/\c<10000) (hgo:k<b.length\/0<c)
  (rec:Int×Int×J0->Option (Int×Int×J0)) :
  z124.l2P a b (i:Int) rec some (c,(k:Int),s) =
   rec ((s.getD (i+k) 0+a.getD i 0*b.getD k 0+c)/10000,((k+1:Nat):Int),s.set (i+k) ((s.getD (i+k) 0+a.getD i 0*b.getD k 0+c)%10000)):=by
 have h1:=Q6 (by decide) ha i
 have h2:=Q6 (by decide) hb k
 have h3:=Q6 (by decide) hs (i+k)
 have h4:0<=a.getD i 0*b.getD k 0:=Z60 h1.1 h2.1
 have h5:a.getD i 0*b.getD k 0<=9999*9999:=Z96 (by omega) (by omega) h2.1 (by decide)
 have e1:wr .i64 ((i:Int)+k)=((i+k:Nat):Int):=by rw [Qg (by omega) (by omega)];omega
 have e2:wr .i64 (a.getD i 0*b.getD k 0)=a.getD i 0*b.getD k 0:=Qg (by omega) (by omega)
 have e3:wr .i64 (s.getD (i+k) 0+a.getD i 0*b.getD k 0)=s.getD (i+k) 0+a.getD i 0*b.getD k 0:=Qg (by omega) (by omega)
 have e4:wr .i64 (s.getD (i+k) 0+a.getD i 0*b.getD k 0+c)=s.getD (i+k) 0+a.getD i 0*b.getD k 0+c:=Qg (by omega) (by omega)
 have e5:wr .i64 ((k:Int)+1)=((k+1:Nat):Int):=by rw [Qg (by omega) (by omega)];omega
 unfold z124.l2P
 simp only [Qen,Zb,e1,Zi,e2,e3,e4,e5]
 rw [J5 (by omega),Qae (by omega),Qg (n:=(_:Int)/10000) (by omega) (by omega)]
 have c1:(0:Int)<=((i+k:Nat):Int)/\((i+k:Nat):Int)<(s.length:Int):=by omega
 have c2:(0:Int)<=(i:Int)/\(i:Int)<(a.length:Int):=by omega
 simp only [if_pos c1,if_pos hk,if_pos c2]
 by_cases hkb:(k:Int)<(b.length:Int)
 ·rw [bif_t hkb]
 ·rw [Qc hkb,bif_t (show c>0 by omega)]
theorem Qh8 {a b:J0} {i:Nat} {T:Int} (ha:inB 10000 a) (hb:inB 10000 b) (hi:i<a.length) (hT:T<(10000^(i+1+b.length):Nat)) :
  ∀
   (f k:Nat) (c:Int) (s:J0),inB 10000 s->i+1+b.length<s.length->s.length<=4000000000->0<=c/\c<10000->b.length+2<=k+f ->
   valB 10000 s+(c+a.getD i 0*valB 10000 (b.drop k))*(10000^(i+k):Nat)=T ->
   ∃k' s',Runs (λrec x=>z124.l2P a b (i:Int) rec some x) (c,(k:Int),s) ((0:Int),k',s')/\inB 10000 s'/\s'.length=s.length/\valB 10000 s'=T
 |
  f,k,c,s,hs,hl,hl',hc,hf,hv=>by
  have hbd:=J3 (Qpd hb k)
  have h1:=Q6 (B:=10000) (by decide) ha i
  have hsv:=J3 hs
  have hab:=Z60 h1.1 hbd
  by_cases hgo:k<b.length\/0<c
  ·have hk:k<=b.length:=by
    rcases hgo with h|h
    ·omega
    ·rcases Z53 b.length k with hlt|hge
     ·exfalso
      have h2:(10000^(i+1+b.length):Nat)<=10000^(i+k):=Z54 (by decide) (by omega)
      have h3:(1:Int)*(10000^(i+k):Nat)<=(c+a.getD i 0*valB 10000 (b.drop k))*(10000^(i+k):Nat):=Int.mul_le_mul_of_nonneg_right (by omega) (Z89 _)
      have h4:((10000^(i+1+b.length):Nat):Int)<=(10000^(i+k):Nat):=by exact_mod_cast h2
      omega
     ·exact hge
   match f,hf with
   |0,hf=>omega
   |
    f+1,hf=>
    have h2:=Q6 (B:=10000) (by decide) hb k
    have h3:=Q6 (B:=10000) (by decide) hs (i+k)
    have h4:0<=a.getD i 0*b.getD k 0:=Z60 h1.1 h2.1
    have h5:a.getD i 0*b.getD k 0<=9999*9999:=Z96 (by omega) (by omega) h2.1 (by decide)
    obtain ⟨k',s',r1,r2,r3,r4⟩:=Qh8 ha hb hi hT f (k+1) ((s.getD (i+k) 0+a.getD i 0*b.getD k 0+c)/10000) (s.set (i+k) ((s.getD (i+k) 0+a.getD i 0*b.getD k 0+c)%10000))
     (J6 hs (by omega)) (by rw [Z86];exact hl) (by rw [Z86];exact hl') (by omega) (by omega) (by
      rw [Qa8 (by omega),<-hv,Yl b k]
      generalize hx:s.getD (i+k) 0+a.getD i 0*b.getD k 0+c=x
      have e1:(10000^(i+(k+1)):Nat)=10000*10000^(i+k):=by rw [<-Z43,Z38,Z33]
      rw [e1,Z26]
      have e2:x=10000*(x/10000)+x%10000:=(Int.mul_ediv_add_emod x 10000).symm
      generalize x/10000=q at *
      generalize x%10000=m at *
      subst e2
      generalize ((10000^(i+k):Nat):Int)=p
      generalize valB 10000 (b.drop (k+1))=w
      generalize a.getD i 0=u at *
      generalize b.getD k 0=v at *
      generalize s.getD (i+k) 0=z at *
      have hc':c=10000*q+m-z-u*v:=by omega
      subst hc'
      grind)
    refine ⟨k',s',.step (λrec=>Qta ha hb hs hi (by omega) hl' hc hgo rec) r1,r2,by rw [r3,Z86],r4⟩
  ·have hc0:c=0:=by omega
   have hkb:b.length<=k:=by omega
   subst hc0
   refine ⟨k,s,.done λrec=>?_,hs,rfl,?_⟩
   ·unfold z124.l2P
    simp only
    rw [Qc (by omega),Qc (by omega)]
   ·rw [Z27 hkb] at hv
    simpa [valB] using hv
theorem Qjw {a b:J0} (ha:inB 10000 a) (hb:inB 10000 b) (hal:a.length+b.length<=3000000000) :
  ∀
   (f i:Nat) (s:J0),i+f=a.length->inB 10000 s->s.length=a.length+b.length+1->valB 10000 s=valB 10000 (a.take i)*valB 10000 b ->
   ∃s',Runs (λrec x=>z124.l0P a b rec some x) ((i:Int),s) ((a.length:Int),s')/\inB 10000 s'/\s'.length=s.length/\valB 10000 s'=valB 10000 a*valB 10000 b
 |
  0,i,s,hf,hs,hl,hv=>by
  have:i=a.length:=by omega
  subst this
  refine ⟨s,.done λrec=>?_,hs,rfl,by rwa [Z61] at hv⟩
  unfold z124.l0P
  simp
 |
  f+1,i,s,hf,hs,hl,hv=>by
  have hi:i<a.length:=by omega
  have hT:valB 10000 (a.take (i+1))*valB 10000 b<(10000^(i+1+b.length):Nat):=by
   have h1:=Qao b4 (Qdm ha (i+1))
   have h2:=Qao b4 hb
   have h3:=J3 (Qdm ha (i+1))
   have h4:=J3 hb
   rw [Z13,Nat.min_eq_left (by omega)] at h1
   rw [Z91,Z26]
   rcases Int.lt_or_eq_of_le h4 with h0|h0
   ·exact Int.mul_lt_mul h1 (Int.le_of_lt h2) h0 (by omega)
   ·rw [<-h0,Int.mul_zero];exact Int.mul_pos (by omega) (by omega)
  obtain ⟨k',s',r1,r2,r3,r4⟩:=Qh8 ha hb hi hT (b.length+2) 0 0 s hs (by omega) (by omega) (by omega) (by omega) (by
   rw [hv,Yf hi,Z45,Int.zero_add,Z79,Q2 hi];grind)
  obtain ⟨s2,q1,q2,q3,q4⟩:=Qjw ha hb hal f (i+1) s' (by omega) r2 (by omega) r4
  refine ⟨s2,.step (λrec=>?_) q1,q2,by omega,q4⟩
  have e:z124.l2 a b (i:Int) ((0:Int),(0:Int),s)=some ((0:Int),k',s'):=r1.lfp
  unfold z124.l0P
  simp only
  rw [bif_t (by omega),e]
  simp only [Zb]
  rw [Qg (by omega) (by omega)]
  rfl
theorem Qc3 (B:Nat):∀n:Nat,valB B (List.replicate n (0:Int))=0
 |0=>rfl
 |n+1=>by rw [List.replicate_succ,valB,Qc3 B n];simp
theorem Qbj {B:Nat} (hB:0<B) (n:Nat):inB B (List.replicate n (0:Int)):=λx hx=>by
 rw [List.mem_replicate] at hx;rw [hx.2];omega
theorem Qrj {a b:J0} (ha:inB 10000 a) (hb:inB 10000 b) (hal:a.length+b.length<=900000000):z124.F a b=some (dg (valB 10000 a*valB 10000 b).toNat):=by
 unfold z124.F z124.l0
 have e:wr .i64 (wr .i64 ((a.length:Int)+(b.length:Int))+1)=((a.length+b.length+1:Nat):Int):=by
  rw [Qg (n:=(a.length:Int)+b.length) (by omega) (by omega),Qg (by omega) (by omega)];omega
 rw [e,if_pos (by omega),Zi]
 obtain ⟨s',r1,r2,r3,r4⟩:=Qjw ha hb (by omega) a.length 0 (List.replicate (a.length+b.length+1) 0) (by omega) (Qbj (by decide) _) (by simp) (by rw [Qc3];simp [valB])
 rw [show ((0:Int),List.replicate (a.length+b.length+1) (0:Int))=(((0:Nat):Int),List.replicate (a.length+b.length+1) (0:Int)) from rfl,r1.lfp]
 simp only [Zb]
 rw [Qaz r2 (by show List.length _<=_;rw [r3];simp;omega),r4]
 rfl
theorem Qe7 {m n:Nat} (hl:(dg m).length+(dg n).length<=900000000):z124.F (dg m) (dg n)=some (dg (m*n)):=by
 rw [Qrj (Q1 b4 m) (Q1 b4 n) hl,Q4 b4,Q4 b4]
 congr 2
theorem Qce (B:Nat) (l:J0) (x:Int):valB B (l++[x])=valB B l+(B^l.length:Nat)*x:=by
 rw [Qef];simp [valB]
theorem Qb8 {B:Nat} {l:J0} {x:Int} (h:inB B l) (hx:0<=x/\x<B):inB B (l++[x]):=Qf5.2 ⟨h,Yo.2 ⟨hx,Y6 B⟩⟩
theorem Qoz {a b s:J0} {i:Nat} {c:Int} (ha:inB 10000 a) (hb:inB 10000 b) (hsl:s.length<=4000000000) (hil:i<=4000000000) (hc:0<=c/\c<10000) (hgo:i<a.length\/i<b.length\/0<c)
  (rec:Int×Int×J0->Option (Int×Int×J0)) :
  z115.l0P a b rec some (c,(i:Int),s)=rec ((a.getD i 0+b.getD i 0+c)/10000,((i+1:Nat):Int),s++[(a.getD i 0+b.getD i 0+c)%10000]):=by
 have h1:=Q6 (B:=10000) (by decide) ha i
 have h2:=Q6 (B:=10000) (by decide) hb i
 have e1:wr .i64 (a.getD i 0+b.getD i 0)=a.getD i 0+b.getD i 0:=Qg (by omega) (by omega)
 have e2:wr .i64 (a.getD i 0+b.getD i 0+c)=a.getD i 0+b.getD i 0+c:=Qg (by omega) (by omega)
 have e3:wr .i64 ((i:Int)+1)=((i+1:Nat):Int):=by rw [Qg (by omega) (by omega)];omega
 unfold z115.l0P
 simp only [Qen,Zb,e1,e2,e3]
 rw [J5 (by omega),Qae (by omega),Qg (n:=(_:Int)/10000) (by omega) (by omega)]
 have c1:∀x:Int,(s.length+[x].length)*8<=140737488355328:=λx=>by simp;omega
 simp only [if_pos (c1 _)]
 by_cases h3:(i:Int)<(a.length:Int)
 ·rw [bif_t h3]
 ·rw [Qc h3]
  by_cases h4:(i:Int)<(b.length:Int)
  ·rw [bif_t h4]
  ·rw [Qc h4,bif_t (show c>0 by omega)]
theorem Qit {a b:J0} (ha:inB 10000 a) (hb:inB 10000 b) (hal:a.length+b.length<=900000000) :
  ∀
   (f i:Nat) (c:Int) (s:J0),a.length+b.length+1<=i+f->i<=a.length+b.length+1->s.length=i->inB 10000 s->0<=c/\c<=1->(i=a.length+b.length+1->c=0) ->
   valB 10000 s+(c+valB 10000 (a.drop i)+valB 10000 (b.drop i))*(10000^i:Nat)=valB 10000 a+valB 10000 b ->
   ∃i' s',Runs (λrec x=>z115.l0P a b rec some x) (c,(i:Int),s) ((0:Int),i',s')/\inB 10000 s'/\s'.length<=a.length+b.length+1/\valB 10000 s'=valB 10000 a+valB 10000 b
 |
  f,i,c,s,hf,hi,hl,hs,hc,he,hv=>by
  by_cases hgo:i<a.length\/i<b.length\/0<c
  ·match f,hf with
   |
    0,hf=>
    have:i=a.length+b.length+1:=by omega
    have:=he this
    omega
   |
    f+1,hf=>
    have hi':i<a.length+b.length+1:=by
     rcases Z53 i (a.length+b.length+1) with h|h
     ·exact h
     ·have:=he (by omega);omega
    have h1:=Q6 (B:=10000) (by decide) ha i
    have h2:=Q6 (B:=10000) (by decide) hb i
    obtain ⟨i',s',r1,r2,r3,r4⟩:=Qit ha hb hal f (i+1) ((a.getD i 0+b.getD i 0+c)/10000) (s++[(a.getD i 0+b.getD i 0+c)%10000]) (by omega) (by omega) (by simp [hl]) (Qb8 hs (by omega)) (by omega)
     (λe=>by
      have h3:a.getD i 0=0\/b.getD i 0=0:=by
       by_cases ha':i<a.length
       ·right;simp [List.getD,Z10 (show b.length<=i by omega)]
       ·left;simp [List.getD,Z10 (show a.length<=i by omega)]
      have h5:a.getD i 0=0:=by
       by_cases ha':i<a.length
       ·have:b.length=0:=by omega
        exfalso
        have h6:i=a.length+b.length:=by omega
        omega
       ·simp [List.getD,Z10 (show a.length<=i by omega)]
      have h6:b.getD i 0=0:=by simp [List.getD,Z10 (show b.length<=i by omega)]
      omega)
     (by
      rw [Qce,<-hv,Yl a i,Yl b i,hl,Z38,Z33 (10000^i) 10000,Z26]
      generalize hx:a.getD i 0+b.getD i 0+c=x
      have e2:x=10000*(x/10000)+x%10000:=(Int.mul_ediv_add_emod x 10000).symm
      generalize x/10000=q at *
      generalize x%10000=m at *
      subst e2
      generalize ((10000^i:Nat):Int)=p
      generalize valB 10000 (a.drop (i+1))=w
      generalize valB 10000 (b.drop (i+1))=w'
      generalize a.getD i 0=u at *
      generalize b.getD i 0=v at *
      have hc':c=10000*q+m-u-v:=by omega
      subst hc'
      grind)
    exact ⟨i',s',.step (λrec=>Qoz ha hb (by omega) (by omega) (by omega) hgo rec) r1,r2,r3,r4⟩
  ·have hc0:c=0:=by omega
   subst hc0
   refine ⟨i,s,.done λrec=>?_,hs,by omega,?_⟩
   ·unfold z115.l0P
    simp only
    rw [Qc (by omega),Qc (by omega),Qc (by omega)]
   ·rw [Z27 (by omega),Z27 (by omega)] at hv
    simpa [valB] using hv
theorem Qv0 {a b:J0} (ha:inB 10000 a) (hb:inB 10000 b) (hal:a.length+b.length<=900000000):z115.F a b=some (dg (valB 10000 a+valB 10000 b).toNat):=by
 obtain ⟨i',s',r1,r2,r3,r4⟩:=Qit ha hb hal (a.length+b.length+1) 0 0 [] (by omega) (by omega) rfl (Y6 _) (by omega) (by omega) (by simp [valB])
 have e:z115.l0 a b ((0:Int),(0:Int),[])=some ((0:Int),i',s'):=r1.lfp
 unfold z115.F
 rw [e]
 simp only [Zb]
 rw [Qaz r2 (by show List.length _<=_;omega),r4]
 rfl
theorem Qwf {m n:Nat} (hl:(dg m).length+(dg n).length<=900000000):z115.F (dg m) (dg n)=some (dg (m+n)):=by
 rw [Qv0 (Q1 b4 m) (Q1 b4 n) hl,Q4 b4,Q4 b4]
 congr 2
def cmpI (m n:Int):Int:=if m<n then -1 else if m=n then 0 else 1
theorem Qtw {B:Nat} (hB:2<=B) {l:J0} (h:inB B l) {k:Nat} (hk:k<=l.length):valB B (l.take k)<(B^k:Nat):=by
 have:=Qao hB (Qdm h k)
 rwa [Z13,Nat.min_eq_left hk] at this
theorem Qda {B:Nat} (hB:2<=B) {a b:J0} (ha:inB B a) (hb:inB B b) {k:Nat} (hka:k<a.length) (hkb:k<b.length) :
  (a[k]<b[k]->valB B (a.take (k+1))<valB B (b.take (k+1)))/\(a[k]=b[k]->(valB B (a.take (k+1))-valB B (b.take (k+1))=valB B (a.take k)-valB B (b.take k))):=by
 rw [Yf hka,Yf hkb]
 have h1:=Qtw hB ha (k:=k) (by omega)
 have h2:=J3 (Qdm hb k)
 refine ⟨λh=>?_,λh=>by rw [h];omega⟩
 have h3:((B^k:Nat):Int)*(a[k]+1)<=(B^k:Nat)*b[k]:=Int.mul_le_mul_of_nonneg_left (by omega) (by omega)
 rw [Int.mul_add,Int.mul_one] at h3
 omega
theorem Qkg {a b:J0} (ha:inB 10000 a) (hb:inB 10000 b) (hl:a.length=b.length) (hal:a.length<=900000000):∀k:Nat,k<=a.length ->
  ∃o:Int⊕Int,Runs (λrec x=>z116.l0P a b rec some x) ((k:Int)-1) o/\(match o with | .inl _=>(0:Int) | .inr q=>q)=cmpI (valB 10000 (a.take k)) (valB 10000 (b.take k))
 |0,_=>⟨.inl (-1),.done λrec=>by unfold z116.l0P;rw [Qc (by omega)];rfl,by simp [cmpI,valB]⟩
 |
  k+1,hk=>by
  have hka:k<a.length:=by omega
  have hkb:k<b.length:=by omega
  have e0:((k+1:Nat):Int)-1=(k:Int):=by omega
  obtain ⟨p1,p2⟩:=Qda b4 ha hb hka hkb
  obtain ⟨p3,_⟩:=Qda b4 hb ha hkb hka
  have c1:(0:Int)<=(k:Int)/\(k:Int)<(a.length:Int):=by omega
  have c2:(0:Int)<=(k:Int)/\(k:Int)<(b.length:Int):=by omega
  rw [e0]
  rcases Z76 a[k] b[k] with h|h|h
  ·refine ⟨.inr (-1),.done λrec=>?_,?_⟩
   ·unfold z116.l0P
    rw [bif_t (by omega),if_pos c1,if_pos c2,Zi,Q2 hka,Q2 hkb,bif_t h]
   ·have:=p1 h
    unfold cmpI;rw [if_pos this]
  ·obtain ⟨o,r1,r2⟩:=Qkg ha hb hl hal k (by omega)
   refine ⟨o,.step (λrec=>?_) r1,?_⟩
   ·unfold z116.l0P
    rw [bif_t (by omega),Zi,Q2 hka,Q2 hkb]
    simp only [if_pos c1,if_pos c2]
    rw [Qc (by omega),Qc (by omega),Qg (by omega) (by omega)]
   ·rw [r2]
    have:=p2 h
    unfold cmpI
    split<;>split<;>(try split)<;>(try split)<;>first|rfl|omega
  ·refine ⟨.inr 1,.done λrec=>?_,?_⟩
   ·unfold z116.l0P
    rw [bif_t (by omega),Zi,Q2 hka,Q2 hkb]
    simp only [if_pos c1,if_pos c2]
    rw [Qc (by omega),bif_t h]
   ·have:=p3 h
    unfold cmpI;rw [if_neg (by omega),if_neg (by omega)]
theorem Qas {B m n:Nat} (hB:2<=B) (h:(toB B m).length<(toB B n).length):m<n:=by
 have h1:=Qfn (n:=m) hB
 have hn:0<n:=by
  rcases Z15 n with rfl|h0
  ·rw [toB_zero] at h;simp at h
  ·exact h0
 have h2:=Qwl hB hn
 have h3:B^(toB B m).length<=B^((toB B n).length-1):=Z54 (by omega) (by omega)
 omega
theorem Qn6 {m n:Nat} (hl:(dg m).length<=900000000):z116.F (dg m) (dg n)=some (cmpI m n):=by
 unfold z116.F
 by_cases he:(dg m).length=(dg n).length
 ·have e1:((dg m).length:Int)=((dg n).length:Int):=by omega
  rw [Zt e1]
  simp only [Zn,Zc]
  obtain ⟨o,r1,r2⟩:=Qkg (Q1 b4 m) (Q1 b4 n) he hl (dg m).length (Z5 _)
  rw [Qg (by omega) (by omega)]
  unfold z116.l0
  rw [r1.lfp]
  simp only [Zb]
  rw [Z61,he,Z61,Q4 b4,Q4 b4] at r2
  rw [<-r2]
  cases o<;>rfl
 ·have e1:¬((dg m).length:Int)=((dg n).length:Int):=by omega
  rw [Zf e1]
  simp only [Zo,Zd]
  rcases Nat.lt_or_gt_of_ne he with h|h
  ·have:=Qas b4 h
   rw [bif_t (by omega)];unfold cmpI;rw [if_pos (by omega)]
  ·have:=Qas b4 h
   rw [Qc (by omega)];unfold cmpI;rw [if_neg (by omega),if_neg (by omega)]
theorem Qh2 {a b:J0} (ha:inB 10000 a) (hb:inB 10000 b) (hal:a.length<=900000000) :
  ∀
   (f i:Nat) (c:Int) (s:J0),i+f=a.length->s.length=i->inB 10000 s->0<=c/\c<=1 ->
   valB 10000 s-c*(10000^i:Nat)=valB 10000 (a.take i)-valB 10000 (b.take i) ->
   ∃c' s',Runs (λrec x=>z117.l0P a b rec some x) (c,(i:Int),s) (c',(a.length:Int),s')/\inB 10000 s'/\s'.length=a.length/\(0<=c'/\c'<=1)/\valB 10000 s'-c'*(10000^a.length:Nat)=valB 10000 a-valB 10000 (b.take a.length)
 |
  0,i,c,s,hf,hl,hs,hc,hv=>by
  have:i=a.length:=by omega
  subst this
  refine ⟨c,s,.done λrec=>?_,hs,hl,hc,by rwa [Z61] at hv⟩
  unfold z117.l0P
  simp only
  rw [Qc (by omega)]
 |
  f+1,i,c,s,hf,hl,hs,hc,hv=>by
  have hi:i<a.length:=by omega
  have h1:=Q6 (B:=10000) (by decide) ha i
  have h2:=Q6 (B:=10000) (by decide) hb i
  have eb:valB 10000 (b.take (i+1))=valB 10000 (b.take i)+(10000^i:Nat)*b.getD i 0:=by
   by_cases hb':i<b.length
   ·rw [Yf hb',Q2 hb']
   ·rw [Z28 (by omega),Z28 (by omega)]
    simp [List.getD,Z10 (show b.length<=i by omega)]
  have e1:wr .i64 (a.getD i 0-b.getD i 0)=a.getD i 0-b.getD i 0:=Qg (by omega) (by omega)
  have e2:wr .i64 (a.getD i 0-b.getD i 0-c)=a.getD i 0-b.getD i 0-c:=Qg (by omega) (by omega)
  have e3:wr .i64 ((i:Int)+1)=((i+1:Nat):Int):=by rw [Qg (by omega) (by omega)];omega
  have e4:wr .i64 (a.getD i 0-b.getD i 0-c+10000)=a.getD i 0-b.getD i 0-c+10000:=Qg (by omega) (by omega)
  have c1:∀x:Int,(s.length+[x].length)*8<=140737488355328:=λx=>by simp;omega
  have c2:(0:Int)<=(i:Int)/\(i:Int)<(a.length:Int):=by omega
  by_cases hd:a.getD i 0-b.getD i 0-c<0
  ·obtain ⟨c',s',r1,r2,r3,r4,r5⟩:=Qh2 ha hb hal f (i+1) 1 (s++[a.getD i 0-b.getD i 0-c+10000]) (by omega) (by simp [hl]) (Qb8 hs (by omega)) (by omega) (by
    rw [Qce,Yf hi,eb,hl,Z38,Z33 (10000^i) 10000,Z26,<-Q2 hi]
    generalize ((10000^i:Nat):Int)=p at *
    grind)
   refine ⟨c',s',.step (λrec=>?_) r1,r2,r3,r4,r5⟩
   unfold z117.l0P
   simp only [Qen,Zb,Zi,e1,e2,e3,e4]
   rw [bif_t (by omega),if_pos c2,bif_t hd,if_pos (c1 _)]
  ·obtain ⟨c',s',r1,r2,r3,r4,r5⟩:=Qh2 ha hb hal f (i+1) 0 (s++[a.getD i 0-b.getD i 0-c]) (by omega) (by simp [hl]) (Qb8 hs (by omega)) (by omega) (by
    rw [Qce,Yf hi,eb,hl,Z38,Z33 (10000^i) 10000,Z26,<-Q2 hi]
    generalize ((10000^i:Nat):Int)=p at *
    grind)
   refine ⟨c',s',.step (λrec=>?_) r1,r2,r3,r4,r5⟩
   unfold z117.l0P
   simp only [Qen,Zb,Zi,e1,e2,e3,e4]
   rw [bif_t (by omega),if_pos c2,Qc hd,if_pos (c1 _)]
theorem Qg0 {m n:Nat} (hmn:n<=m) (hl:(dg m).length<=900000000):z117.F (dg m) (dg n)=some (dg (m-n)):=by
 obtain ⟨c',s',r1,r2,r3,r4,r5⟩:=Qh2 (a:=dg m) (b:=dg n) (Q1 b4 m) (Q1 b4 n) hl (dg m).length 0 0 [] (by omega) rfl (Y6 _) (by omega) (by simp [valB])
 have hlen:(dg n).length<=(dg m).length:=by
  rcases Z53 (dg m).length (dg n).length with h|h
  ·have:=Qas b4 h;omega
  ·exact h
 rw [Z28 hlen,Q4 b4,Q4 b4] at r5
 have h1:=Qao b4 r2
 rw [r3] at h1
 have hc:c'=0:=by
  rcases (show c'=0\/c'=1 by omega) with h|h
  ·exact h
  ·subst h;omega
 subst hc
 have e:z117.l0 (dg m) (dg n) ((0:Int),(0:Int),[])=some ((0:Int),((dg m).length:Int),s'):=r1.lfp
 unfold z117.F
 rw [e]
 simp only [Zb]
 rw [Qaz r2 (by show List.length _<=_;omega)]
 simp only [Zb]
 congr 2;omega
def tv:Int->J1->Int
 |acc,[]=>acc
 |acc,b::s=>tv (10*acc+(b.toNat:Int)-48) s
def digit (b:UInt8):Prop:=48<=b.toNat/\b.toNat<=57
def Qu (s:J1):Prop:=∀b∈s,digit b
theorem Qcy:∀(s t:J1) (a:Int),tv a (s++t)=tv (tv a s) t
 |[],_,_=>rfl
 |b::s,t,a=>Qcy s t _
theorem Qbu:∀(s:J1) (a:Int),tv a s=a*(10^s.length:Nat)+tv 0 s
 |[],a=>by simp [tv]
 |
  b::s,a=>by
  have h1:=Qbu s (10*a+(b.toNat:Int)-48)
  have h2:=Qbu s (10*0+(b.toNat:Int)-48)
  show tv (10*a+(b.toNat:Int)-48) s=a*_+tv (10*0+(b.toNat:Int)-48) s
  rw [h1,h2,Z8,Z38,Z26]
  generalize ((10^s.length:Nat):Int)=p
  grind
theorem W6:∀{s:J1},Qu s->0<=tv 0 s/\tv 0 s<(10^s.length:Nat)
 |[],_=>by simp [tv]
 |
  b::s,h=>by
  have hb:=h b (by simp)
  have ih:=W6 (s:=s) λx hx=>h x (by simp [hx])
  have e:tv 0 (b::s)=((b.toNat:Int)-48)*(10^s.length:Nat)+tv 0 s:=by
   show tv (10*0+(b.toNat:Int)-48) s=_
   rw [Qbu];simp
  have hp:(0:Int)<=(10^s.length:Nat):=Z89 _
  unfold digit at hb
  have h1:0<=((b.toNat:Int)-48)*(10^s.length:Nat):=Z60 (by omega) hp
  have h2:((b.toNat:Int)-48)*(10^s.length:Nat)<=9*(10^s.length:Nat):=Int.mul_le_mul_of_nonneg_right (by omega) hp
  rw [e,Z8,Z38,Z26]
  omega
theorem Qmm {s:J1} (hs:Qu s) (hl:s.length<=900000000) (e:Nat) (he:e<=s.length):∀(f i:Nat) (d:Int),i+f=e->f<=4->0<=d/\d<10^12/(10^f:Nat) ->
  Runs (λrec x=>z108.l2P s (e:Int) rec some x) (d,(i:Int)) (tv d ((s.take e).drop i),(e:Int))
 |
  0,i,d,hf,_,_=>by
  have:i=e:=by omega
  subst this
  refine .done λrec=>?_
  unfold z108.l2P
  simp only
  rw [Qc (by omega),Z27 (by simp;omega)]
  rfl
 |
  f+1,i,d,hf,h4,hd=>by
  have hi:i<s.length:=by omega
  have hb:=hs s[i] (Z9 hi)
  unfold digit at hb
  have hd':d<10^11:=by
   have:f=0\/f=1\/f=2\/f=3:=by omega
   rcases this with rfl|rfl|rfl|rfl<;>simp at hd ⊢<;>omega
  have hn:0<=10*d+(s[i].toNat:Int)-48/\10*d+(s[i].toNat:Int)-48<10^12/(10^f:Nat):=by
   have:f=0\/f=1\/f=2\/f=3:=by omega
   rcases this with rfl|rfl|rfl|rfl<;>simp at hd ⊢<;>omega
  have ih:=Qmm hs hl e he f (i+1) (10*d+(s[i].toNat:Int)-48) (by omega) (by omega) hn
  have hlt:i<(s.take e).length:=by simp;omega
  rw [Z17 hlt,List.getElem_take]
  refine .step (λrec=>?_) ih
  unfold z108.l2P
  simp only
  have eg:s.getD i 0=s[i]:=by simp [List.getD,hi]
  rw [bif_t (by omega),if_pos (by omega),Zi,eg,Qg (n:=10*d) (by omega) (by omega),Qg (n:=(s[i].toNat:Int)) (by omega) (by omega),Qg (n:=10*d+(s[i].toNat:Int)) (by omega) (by omega),Qg (n:=10*d+(s[i].toNat:Int)-48) (by omega) (by omega),Qg (n:=(i:Int)+1) (by omega) (by omega)]
  rfl
theorem Qj1 {s:J1} (hs:Qu s) (hl:s.length<=900000000):∀(f e:Nat) (out:J0),e<=4*f->e<=s.length->out.length<=900000000-e->inB 10000 out->valB 10000 out+(10000^out.length:Nat)*tv 0 (s.take e)=tv 0 s ->
  ∃e' out',Runs (λrec x=>z108.l0P s rec some x) ((e:Int),out) (e',out')/\inB 10000 out'/\out'.length<=900000004/\valB 10000 out'=tv 0 s
 |
  0,e,out,hf,he,ho,hi,hv=>by
  have:e=0:=by omega
  subst this
  refine ⟨0,out,.done λrec=>?_,hi,by omega,by simpa [tv] using hv⟩
  unfold z108.l0P;simp
 |
  f+1,e,out,hf,he,ho,hi,hv=>by
  rcases Z15 e with rfl|h0
  ·refine ⟨0,out,.done λrec=>?_,hi,by omega,by simpa [tv] using hv⟩
   unfold z108.l0P;simp
  ·have hds:Qu ((s.take e).drop (e-4)):=λb hb=>hs b (Z52 (Z70 hb))
   have hlen:((s.take e).drop (e-4)).length<=4:=by rw [Z22,Z13];omega
   have htb:=W6 hds
   have hlt:tv 0 ((s.take e).drop (e-4))<10000:=by
    have h1:(10^((s.take e).drop (e-4)).length:Nat)<=10^4:=Z54 (by decide) hlen
    have h2:((10^((s.take e).drop (e-4)).length:Nat):Int)<=10000:=Int.ofNat_le.2 h1
    omega
   have r:=Qmm hs hl e he (e-(e-4)) (e-4) 0 (by omega) (by omega) ⟨Int.le_refl 0,by
    have:e-(e-4)=1\/e-(e-4)=2\/e-(e-4)=3\/e-(e-4)=4:=by omega
    rcases this with h|h|h|h<;>rw [h]<;>omega⟩
   have er:z108.l2 s (e:Int) ((0:Int),((e-4:Nat):Int))=some (tv 0 ((s.take e).drop (e-4)),(e:Int)):=r.lfp
   have e1:wr .i64 ((e:Int)-4)=(e:Int)-4:=Qg (by omega) (by omega)
   have e2:(if (e:Int)-4>0 then (e:Int)-4 else 0)=((e-4:Nat):Int):=by split<;>omega
   have c1:∀x:Int,(out.length+[x].length)*8<=140737488355328:=λx=>by simp;omega
   have step:∀rec,z108.l0P s rec some ((e:Int),out)=rec ((e:Int)-4,out++[tv 0 ((s.take e).drop (e-4))]):=λrec=>by
    unfold z108.l0P
    simp only [e1,e2]
    rw [bif_t (by omega),er]
    simp only [Zb]
    rw [if_pos (c1 _)]
   by_cases h4:4<=e
   ·obtain ⟨e',out',r1,r2,r3,r4⟩:=Qj1 hs hl f (e-4) (out++[tv 0 ((s.take e).drop (e-4))]) (by omega) (by omega) (by rw [Z3,Z16];omega) (Qb8 hi (by omega)) (by
     rw [Qce,<-hv]
     have e3:s.take e=s.take (e-4)++(s.take e).drop (e-4):=by
      have:=List.take_append_drop (e-4) (s.take e)
      rw [List.take_take,Nat.min_eq_left (by omega)] at this
      exact this.symm
     have e4:tv 0 (s.take e)=tv 0 (s.take (e-4))*10000+tv 0 ((s.take e).drop (e-4)):=by
      conv=>lhs;rw [e3]
      rw [Qcy,Qbu]
      have:((s.take e).drop (e-4)).length=4:=by rw [Z22,Z13];omega
      rw [this];rfl
     rw [e4,Z3,Z16,Z38,Z26]
     generalize ((10000^out.length:Nat):Int)=p
     grind)
    have e5:(e:Int)-4=((e-4:Nat):Int):=by omega
    exact ⟨e',out',.step (λrec=>by rw [step rec,e5]) r1,r2,r3,r4⟩
   ·refine ⟨(e:Int)-4,out++[tv 0 ((s.take e).drop (e-4))],.step step (.done λrec=>?_),Qb8 hi (by omega),by rw [Z3,Z16];omega,?_⟩
    ·unfold z108.l0P
     simp only
     rw [Qc (by omega)]
    ·have e6:e-4=0:=by omega
     rw [Qce,<-hv,e6,Z45]
theorem Qd3 {s:J1} (hs:Qu s) (hl:s.length<=800000000):z108.F s=some (dg (tv 0 s).toNat):=by
 obtain ⟨e',out',r1,r2,r3,r4⟩:=Qj1 hs (by omega) s.length s.length [] (by omega) (Z5 _) (Z65 _) (Y6 _) (by simp [valB])
 have e:z108.l0 s ((s.length:Int),[])=some (e',out'):=r1.lfp
 unfold z108.F
 rw [e]
 simp only [Zb]
 rw [Qaz r2 (by show List.length _<=_;omega),r4]
 rfl
theorem Qns:∀{l:J0},inB 10 l->tv 0 (l.reverse.map ch)=valB 10 l
 |[],_=>rfl
 |
  x::l,h=>by
  rw [Yo] at h
  rw [List.reverse_cons,Z87,Qcy,Qns h.2]
  show 10*valB 10 l+((ch x).toNat:Int)-48=x+10*valB 10 l
  rw [Qdg h.1.1 h.1.2];omega
theorem Qck (n:Nat):Qu (txt n):=by
 unfold txt
 split
 ·intro b hb;simp at hb;subst hb;unfold digit;decide
 ·intro b hb
  rw [List.mem_map] at hb
  obtain ⟨d,hd,rfl⟩:=hb
  have:=Q1 b10 n d (List.mem_reverse.1 hd)
  unfold digit
  rw [Qdg this.1 this.2];omega
theorem Qko (n:Nat):tv 0 (txt n)=n:=by
 unfold txt
 split
 ·rename_i h;subst h;decide
 ·rw [Qns (Q1 b10 n),Q4 b10]
theorem Qsu (n:Nat):txt n≠[]:=by
 unfold txt
 split
 ·simp
 ·rename_i h
  simp only [ne_eq,List.map_eq_nil_iff,List.reverse_eq_nil_iff]
  exact λe=>h ((toB_nil b10).1 e)
theorem Qk9 {n:Nat} (hn:n≠0):∃b s,txt n=b::s/\b.toNat≠48:=by
 have h:=Qpc b10 n (λe=>hn ((toB_nil b10).1 e))
 have hne:toB 10 n≠[]:=λe=>hn ((toB_nil b10).1 e)
 have hin:=Q1 b10 n _ (List.getLast_mem hne)
 refine ⟨ch ((toB 10 n).getLast hne),((toB 10 n).dropLast.reverse.map ch),?_,?_⟩
 ·unfold txt
  rw [if_neg hn]
  conv=>lhs;rw [<-List.dropLast_concat_getLast hne]
  rw [List.reverse_append];rfl
 ·rw [Qdg hin.1 hin.2];omega
theorem Qbh {n k:Nat} (h:n<10^k) (hk:0<k):(txt n).length<=k:=by
 unfold txt
 split
 ·show 1<=k;omega
 ·rw [Z34,List.length_reverse];exact Ji b10 h
abbrev neg (z:Int):Bool:=decide (z<0)
theorem dg_len0 (n:Nat):(((dg n).length:Nat):Int)=0↔n=0:=by
 constructor
 ·intro h;exact (toB_nil b4).1 (List.length_eq_zero_iff.1 (Int.ofNat_eq_zero.1 h))
 ·rintro rfl;simp [dg,toB_zero]
theorem Qli (n:Nat):(((dg n).length:Nat):Int)>0↔0<n:=by
 have:=dg_len0 n;omega
theorem Qb1 (n:Nat) (b:Bool):z104.F (dg n) b=some (dg n,b&&decide (0<n)):=by
 unfold z104.F
 cases b
 ·rfl
 ·simp only [Zd,Z24]
  congr 2
  exact decide_eq_decide.2 (Qli n)
theorem ref04_Of' {z:Int} {b:Bool} (h:(b=true/\z<=0)\/(b=false/\0<=z)):z104.F (dg z.natAbs) b=some (dg z.natAbs,neg z):=by
 rw [Qb1]
 congr 2
 rcases h with ⟨rfl,h⟩|⟨rfl,h⟩
 ·rw [Z24];exact decide_eq_decide.2 (by omega)
 ·rw [Z37];symm;exact Zf (by omega)
theorem Qac {z:Int} (h:-9223372036854775808<z/\z<9223372036854775808):z106.F z=some (dg z.natAbs,neg z):=by
 unfold z106.F
 by_cases hz:z<0
 ·have e:wr .i64 (0-z)=((z.natAbs:Nat):Int):=by rw [Qg (by omega) (by omega)];omega
  rw [bif_t hz,e,Qd9 (by omega)]
  simp only [Zb]
  rw [ref04_Of' (z:=z) (.inl ⟨rfl,by omega⟩)];rfl
 ·have e:z=((z.natAbs:Nat):Int):=by omega
  rw [Qc hz]
  conv=>lhs;rw [e]
  rw [Qd9 (by omega)]
  simp only [Zb]
  rw [ref04_Of' (z:=z) (.inr ⟨rfl,by omega⟩)];rfl
theorem Qih (z:Int):z113.F (dg z.natAbs) (neg z)=some (dg (-z).natAbs,neg (-z)):=by
 unfold z113.F
 have e:z.natAbs=(-z).natAbs:=by omega
 rw [e,Qb1]
 simp only [Zb]
 congr 2
 show (!decide (z<0)&&_)=decide (-z<0)
 by_cases h:z<0
 ·rw [Zt h];symm;simp;omega
 ·rw [Zf h,Zo,Z24];exact decide_eq_decide.2 (by omega)
theorem Qni {x y:Int} (hl:(dg x.natAbs).length+(dg y.natAbs).length<=900000000):z131.F (dg x.natAbs) (neg x) (dg y.natAbs) (neg y)=some (dg (x*y).natAbs,neg (x*y)):=by
 unfold z131.F
 rw [Qe7 hl,<-Z78]
 simp only [Zb]
 rw [Qb1]
 simp only [Zb]
 congr 2
 have h0:0<(x*y).natAbs↔x≠0/\y≠0:=by
  rw [Z78]
  constructor
  ·intro h;exact ⟨by rintro rfl;simp at h,by rintro rfl;simp at h⟩
  ·rintro ⟨h1,h2⟩;exact Nat.mul_pos (by omega) (by omega)
 rw [Z59]
 simp only [Z4,Z47,decide_eq_true_eq,decide_eq_false_iff_not,h0]
 rcases Z76 x 0 with hx|hx|hx<;>rcases Z76 y 0 with hy|hy|hy
 ·have:=Int.mul_pos_of_neg_of_neg hx hy;simp [hx,hy];omega
 ·subst hy;simp
 ·have:=Int.mul_neg_of_neg_of_pos hx hy;simp [hx];omega
 ·subst hx;simp
 ·subst hx;simp
 ·subst hx;simp
 ·have:=Int.mul_neg_of_pos_of_neg hx hy;simp [hy];omega
 ·subst hy;simp
 ·have:=Int.mul_pos hx hy;simp;omega
theorem Qto {z:Int} (hs:4*(dg z.natAbs).length<=1000000000) (hl:(txt z.natAbs).length<=1000000000):z103.F (dg z.natAbs) (neg z)=some (if z<0 then 45::txt z.natAbs else txt z.natAbs):=by
 unfold z103.F
 rw [Qjg hs]
 simp only [Zb]
 by_cases h:z<0
 ·rw [bif_t h,if_pos (by simp;omega),if_pos h];rfl
 ·rw [Qc h,if_neg h]
theorem Y5 {z:Int} {n:Nat} {b:Bool} (hn:n=z.natAbs) (h:(b=true/\z<=0)\/(b=false/\0<=z)):z104.F (dg n) b=some (dg z.natAbs,neg z):=by
 subst hn;exact ref04_Of' h
theorem Qi1 {m n:Int}:cmpI m n>=0↔n<=m:=by unfold cmpI;split<;>(try split)<;>omega
theorem Qt9 {x y:Int} (hl:(dg x.natAbs).length+(dg y.natAbs).length<=900000000):z118.F (dg x.natAbs) (neg x) (dg y.natAbs) (neg y)=some (dg (x+y).natAbs,neg (x+y)):=by
 unfold z118.F
 by_cases hs:neg x=neg y
 ·have hs':(x<0↔y<0):=by simpa [neg] using hs
  rw [bif_t hs,Qwf hl]
  simp only [Zb]
  rw [Y5 (z:=x+y) (by omega) (by by_cases hx:x<0;exact .inl ⟨Zt hx,by omega⟩;exact .inr ⟨Zf hx,by omega⟩)]
  rfl
 ·have hs':¬(x<0↔y<0):=by simpa [neg] using hs
  rw [Qc hs,Qn6 (by omega)]
  simp only [Zb]
  by_cases hc:cmpI (x.natAbs:Int) (y.natAbs:Int)>=0
  ·have hc':=Qi1.1 hc
   rw [bif_t hc,Qg0 (by omega) (by omega)]
   simp only [Zb]
   rw [Y5 (z:=x+y) (by omega) (by by_cases hx:x<0;exact .inl ⟨Zt hx,by omega⟩;exact .inr ⟨Zf hx,by omega⟩)]
   rfl
  ·have hc':¬((y.natAbs:Int)<=x.natAbs):=λh=>hc (Qi1.2 h)
   rw [Qc hc,Qg0 (by omega) (by omega)]
   simp only [Zb]
   rw [Y5 (z:=x+y) (by omega) (by by_cases hy:y<0;exact .inl ⟨Zt hy,by omega⟩;exact .inr ⟨Zf hy,by omega⟩)]
   rfl
theorem Qu6 {x y:Int} (hl:(dg x.natAbs).length+(dg y.natAbs).length<=900000000):z119.F (dg x.natAbs) (neg x) (dg y.natAbs) (neg y)=some (dg (x-y).natAbs,neg (x-y)):=by
 unfold z119.F
 rw [Qih]
 simp only [Zb]
 rw [Qt9 (by rw [Int.natAbs_neg];exact hl)]
 rfl
theorem Qn8 (z:Int):z120.F (dg z.natAbs) (neg z)=some (cmpI z 0):=by
 unfold z120.F cmpI
 by_cases h0:z=0
 ·subst h0;rw [bif_t ((dg_len0 (Int.natAbs 0)).2 rfl)];rfl
 ·rw [Qc (λh=>h0 (by have:=(dg_len0 _).1 h;omega))]
  by_cases h:z<0
  ·rw [bif_t h,if_pos h]
  ·rw [Qc h,if_neg h,if_neg h0]
theorem Qld (x y:Int):cmpI (x-y) 0=cmpI x y:=by
 unfold cmpI;split<;>split<;>(try split)<;>(try split)<;>first|rfl|omega
theorem Qjf {x y:Int} (hl:(dg x.natAbs).length+(dg y.natAbs).length<=900000000):z121.F (dg x.natAbs) (neg x) (dg y.natAbs) (neg y)=some (cmpI x y):=by
 unfold z121.F
 rw [Qu6 hl]
 simp only [Zb]
 rw [Qn8,Qld]
 rfl
abbrev LB:Nat:=18446744073709551616
abbrev lb (n:Nat):J0:=toB LB n
theorem bL:2<=LB:=by decide
theorem Qvm (n:Nat):(((lb n).length:Nat):Int)=0↔n=0:=by
 constructor
 ·intro h;exact (toB_nil bL).1 (List.length_eq_zero_iff.1 (Int.ofNat_eq_zero.1 h))
 ·rintro rfl;simp [lb,toB_zero]
theorem Wx (n:Nat):z8.F (lb n)=some (decide (n=0)):=by
 unfold z8.F;congr 1;exact decide_eq_decide.2 (Qvm n)
theorem Qj0 {l:J0} {i:Nat}:z34.F l (i:Int)=some (l.getD i 0):=by
 unfold z34.F
 by_cases h:(i:Int)>=(l.length:Int)
 ·rw [bif_t h]
  have:l.getD i 0=0:=by simp [List.getD,Z10 (show l.length<=i by omega)]
  rw [this]
 ·rw [Qc h,if_pos (by omega),Zi]
theorem Qdz {l:J0} (hl:inB LB l) (hs:J8 l):z14.F l=some (lb (valB LB l).toNat):=by
 have h:=Qmu bL hl hs
 unfold z107.F at h
 unfold z14.F
 have e:z14.l0 l=z107.l0 l:=rfl
 rw [e]
 revert h
 cases z107.l0 l ((l.length:Nat):Int) with
 |none=>exact id
 |
  some o=>
  simp only [Zb]
  intro h
  split at h
  ·rename_i hc
   rw [if_pos ⟨hc.1,Int.le_refl _,hc.2⟩];exact h
  ·simp at h
theorem Qb9 (x y:Int):z10.F x y=some (cmpI x y):=by
 unfold z10.F z9.F cmpI
 simp only [Zb,decide_true,Zn,Zc]
 by_cases h:x<y
 ·rw [bif_t h,if_pos h]
 ·rw [Qc h,if_neg h]
  by_cases h':x>y
  ·rw [bif_t h',if_neg (by omega)]
  ·rw [Qc h',if_pos (by omega)]
theorem Qla (x y:Int):z12.F x y=some (cmpI x y):=Qb9 x y
theorem Qjr {a b:J0} (ha:inB LB a) (hb:inB LB b) (hl:a.length=b.length) (hal:a.length<=900000000):∀k:Nat,k<=a.length ->
  ∃o:Int⊕Int,Runs (λrec x=>z13.l0P a b rec some x) ((k:Int)-1) o/\(match o with | .inl _=>(0:Int) | .inr q=>q)=cmpI (valB LB (a.take k)) (valB LB (b.take k))
 |0,_=>⟨.inl (-1),.done λrec=>by unfold z13.l0P;rw [Qc (by omega)];rfl,by simp [cmpI,valB]⟩
 |
  k+1,hk=>by
  have hka:k<a.length:=by omega
  have hkb:k<b.length:=by omega
  have e0:((k+1:Nat):Int)-1=(k:Int):=by omega
  obtain ⟨p1,p2⟩:=Qda bL ha hb hka hkb
  obtain ⟨p3,_⟩:=Qda bL hb ha hkb hka
  have c1:(0:Int)<=(k:Int)/\(k:Int)<(a.length:Int):=by omega
  have c2:(0:Int)<=(k:Int)/\(k:Int)<(b.length:Int):=by omega
  rw [e0]
  by_cases h:a[k]=b[k]
  ·obtain ⟨o,r1,r2⟩:=Qjr ha hb hl hal k (by omega)
   refine ⟨o,.step (λrec=>?_) r1,?_⟩
   ·unfold z13.l0P
    rw [bif_t (by omega),Zi,Q2 hka,Q2 hkb,if_pos c1,if_pos c2,Qla]
    simp only [Zb]
    have:cmpI a[k] b[k]=0:=by unfold cmpI;rw [if_neg (by omega),if_pos h]
    rw [this,Qg (by omega) (by omega)]
    rfl
   ·rw [r2]
    have:=p2 h
    unfold cmpI
    split<;>split<;>(try split)<;>(try split)<;>first|rfl|omega
  ·refine ⟨.inr (cmpI a[k] b[k]),.done λrec=>?_,?_⟩
   ·unfold z13.l0P
    rw [bif_t (by omega),Zi,Q2 hka,Q2 hkb,if_pos c1,if_pos c2,Qla]
    simp only [Zb]
    have:¬cmpI a[k] b[k]=0:=by unfold cmpI;split<;>(try split)<;>omega
    rw [Zf this]
    rfl
   ·rcases Int.lt_or_gt_of_ne h with h'|h'
    ·have:=p1 h'
     unfold cmpI;rw [if_pos h',if_pos this]
    ·have:=p3 h'
     unfold cmpI;rw [if_neg (by omega),if_neg (by omega),if_neg (by omega),if_neg (by omega)]
theorem Qeh {m n:Nat} (hl:(lb m).length<=900000000):z13.F (lb m) (lb n)=some (cmpI m n):=by
 unfold z13.F
 rw [Qb9]
 simp only [Zb]
 by_cases he:(lb m).length=(lb n).length
 ·have e1:cmpI ((lb m).length:Int) ((lb n).length:Int)=0:=by unfold cmpI;rw [if_neg (by omega),if_pos (by omega)]
  rw [e1]
  simp only [decide_true,Zn,Zc]
  obtain ⟨o,r1,r2⟩:=Qjr (a:=lb m) (b:=lb n) (Q1 bL m) (Q1 bL n) he hl (lb m).length (Z5 _)
  rw [Qg (by omega) (by omega)]
  unfold z13.l0
  rw [r1.lfp]
  simp only [Zb]
  rw [Z61,he,Z61,Q4 bL,Q4 bL] at r2
  rw [<-r2]
  cases o<;>rfl
 ·rcases Nat.lt_or_gt_of_ne he with h|h
  ·have:=Qas bL h
   have e1:cmpI ((lb m).length:Int) ((lb n).length:Int) = -1:=by unfold cmpI;rw [if_pos (by omega)]
   have e2:cmpI (m:Int) n = -1:=by unfold cmpI;rw [if_pos (by omega)]
   rw [e1,e2];rfl
  ·have:=Qas bL h
   have e1:cmpI ((lb m).length:Int) ((lb n).length:Int)=1:=by unfold cmpI;rw [if_neg (by omega),if_neg (by omega)]
   have e2:cmpI (m:Int) n=1:=by unfold cmpI;rw [if_neg (by omega),if_neg (by omega)]
   rw [e1,e2];rfl
theorem Qgw (a:Int) (h0:0<=a):wr .u64 ((BitVec.ofInt (IntKind.bits .u64) a &&& BitVec.ofInt (IntKind.bits .u64) (4294967295:Int)).toNat:Int)=a%4294967296:=by
 have e:(BitVec.ofInt (IntKind.bits .u64) a &&& BitVec.ofInt (IntKind.bits .u64) (4294967295:Int)).toNat=(a%4294967296).toNat:=by
  rw [BitVec.toNat_and]
  have e1:(BitVec.ofInt (IntKind.bits .u64) (4294967295:Int)).toNat=2^32-1:=rfl
  have e2:(BitVec.ofInt (IntKind.bits .u64) a).toNat=(a%18446744073709551616).toNat:=by
   rw [BitVec.toNat_ofInt];rfl
  rw [e1,Nat.and_two_pow_sub_one_eq_mod,e2]
  omega
 rw [e,Qq (by omega) (by omega)];omega
theorem Qvq (a:Int):Int.fdiv a (2^(min 32 (64:Nat)))=a/4294967296:=by
 rw [Int.fdiv_eq_ediv_of_nonneg _ (by decide)];rfl
theorem Qv6 {a b:Int} (ha:0<=a/\a<18446744073709551616) (hb:0<=b/\b<18446744073709551616):z21.F a b=some (a*b/18446744073709551616,a*b%18446744073709551616):=by
 unfold z21.F
 simp only [Qvq]
 rw [Qgw a ha.1,Qgw b hb.1]
 generalize hx1:a/4294967296=x1
 generalize hx0:a%4294967296=x0
 generalize hy1:b/4294967296=y1
 generalize hy0:b%4294967296=y0
 have ea:a=4294967296*x1+x0:=by omega
 have eb:b=4294967296*y1+y0:=by omega
 have bx1:0<=x1/\x1<=4294967295:=by omega
 have bx0:0<=x0/\x0<=4294967295:=by omega
 have by1:0<=y1/\y1<=4294967295:=by omega
 have by0:0<=y0/\y0<=4294967295:=by omega
 have m00:0<=x0*y0/\x0*y0<=4294967295*4294967295:=⟨Z60 bx0.1 by0.1,Z96 bx0.2 by0.2 by0.1 (by decide)⟩
 have m10:0<=x1*y0/\x1*y0<=4294967295*4294967295:=⟨Z60 bx1.1 by0.1,Z96 bx1.2 by0.2 by0.1 (by decide)⟩
 have m01:0<=x0*y1/\x0*y1<=4294967295*4294967295:=⟨Z60 bx0.1 by1.1,Z96 bx0.2 by1.2 by1.1 (by decide)⟩
 have m11:0<=x1*y1/\x1*y1<=4294967295*4294967295:=⟨Z60 bx1.1 by1.1,Z96 bx1.2 by1.2 by1.1 (by decide)⟩
 have eab:a*b=18446744073709551616*(x1*y1)+4294967296*(x1*y0)+4294967296*(x0*y1)+x0*y0:=by rw [ea,eb];grind
 rw [eab]
 generalize x0*y0=p00 at *
 generalize x1*y0=p10 at *
 generalize x0*y1=p01 at *
 generalize x1*y1=p11 at *
 rw [Qq (n:=p00) (by omega) (by omega),Qq (n:=p10) (by omega) (by omega),Qq (n:=p01) (by omega) (by omega),Qq (n:=p11) (by omega) (by omega)]
 rw [Qq (n:=p10+p00/4294967296) (by omega) (by omega)]
 rw [Qgw _ (by omega)]
 rw [Qq (n:=p11+(p10+p00/4294967296)/4294967296) (by omega) (by omega)]
 rw [Qq (n:=(p10+p00/4294967296)%4294967296+p01) (by omega) (by omega)]
 rw [Qq (n:=p11+(p10+p00/4294967296)/4294967296+((p10+p00/4294967296)%4294967296+p01)/4294967296) (by omega) (by omega)]
 rw [Yc]
 congr 2;omega
theorem Qfp {x y c:Int} (hx:0<=x) (hy:0<=y) (hc:0<=c/\c<=1):z0.F x y c=some ((x+y+c)%18446744073709551616,(x+y+c)/18446744073709551616):=by
 unfold z0.F;rw [if_pos (by omega)]
theorem Qdi {s:J0} {i j:Nat} {x:Int} (h:i≠j):(s.set i x).getD j 0=s.getD j 0:=by
 simp [List.getD,List.getElem?_set_ne h]
theorem Qfi (n j:Nat):(List.replicate n (0:Int)).getD j 0=0:=by
 simp only [List.getD,List.getElem?_replicate];split<;>rfl
theorem Qj6 {a b:J0} {n:Nat} (ha:inB LB a) (hb:inB LB b) (hn:n<=900000000) (han:a.length<n) (hbn:b.length<n) :
  ∀
   (f i:Nat) (c:Int) (s:J0),i+f=n->s.length=n->inB LB s->(∀j,i<=j->s.getD j 0=0)->0<=c/\c<=1 ->
   valB LB s+(c+valB LB (a.drop i)+valB LB (b.drop i))*(LB^i:Nat)=valB LB a+valB LB b ->
   ∃c' s',Runs (λrec x=>z35.l0P (n:Int) a b rec some x) (c,(i:Int),s) (c',(n:Int),s')/\inB LB s'/\s'.length=n/\(0<=c'/\c'<=1)/\valB LB s'+c'*(LB^n:Nat)=valB LB a+valB LB b
 |
  0,i,c,s,hf,hl,hs,hz,hc,hv=>by
  have:i=n:=by omega
  subst this
  refine ⟨c,s,.done λrec=>?_,hs,hl,hc,?_⟩
  ·unfold z35.l0P
   simp only
   rw [Qc (by omega)]
  ·rw [Z27 (by omega),Z27 (by omega)] at hv
   simpa [valB] using hv
 |
  f+1,i,c,s,hf,hl,hs,hz,hc,hv=>by
  have hLB:((LB:Nat):Int)=18446744073709551616:=rfl
  have h1:=Q6 (B:=LB) (by decide) ha i
  have h2:=Q6 (B:=LB) (by decide) hb i
  have hi:i<s.length:=by omega
  obtain ⟨c',s',r1,r2,r3,r4,r5⟩:=Qj6 ha hb hn han hbn f (i+1) ((a.getD i 0+b.getD i 0+c)/18446744073709551616) (s.set i ((a.getD i 0+b.getD i 0+c)%18446744073709551616)) (by omega) (by simp [hl]) (J6 hs (by omega))
   (λj hj=>by rw [Qdi (by omega)];exact hz j (by omega)) (by omega) (by
    rw [Qa8 hi,hz i (Z5 _),<-hv,Yl a i,Yl b i,Z38,Z33 (LB^i) LB,Z26]
    generalize hx:a.getD i 0+b.getD i 0+c=x
    have e2:x=18446744073709551616*(x/18446744073709551616)+x%18446744073709551616:=(Int.mul_ediv_add_emod x _).symm
    have e3:((LB:Nat):Int)=18446744073709551616:=rfl
    rw [e3]
    generalize x/18446744073709551616=q at *
    generalize x%18446744073709551616=m at *
    subst e2
    generalize ((LB^i:Nat):Int)=p
    generalize valB LB (a.drop (i+1))=w
    generalize valB LB (b.drop (i+1))=w'
    generalize a.getD i 0=u at *
    generalize b.getD i 0=v at *
    have hc':c=18446744073709551616*q+m-u-v:=by omega
    subst hc'
    grind)
  refine ⟨c',s',.step (λrec=>?_) r1,r2,r3,r4,r5⟩
  unfold z35.l0P
  simp only [Qj0,Zb]
  rw [bif_t (by omega),Qfp h1.1 h2.1 hc]
  simp only [Zb]
  rw [if_pos (by omega),Zi,if_pos hi,Qg (by omega) (by omega)]
  rfl
theorem Qh9 {n k:Nat} (h:(lb n).length<=k):n<LB^k:=Z11 (Qfn bL) (Z54 (by decide) h)
theorem Qe8 {m n:Nat} (hl:(lb m).length+(lb n).length<=800000000):z35.F (lb m) (lb n)=some (lb (m+n)):=by
 unfold z35.F
 generalize hk:max (lb m).length (lb n).length=k
 have e0:(if (((lb n).length:Nat):Int)>(((lb m).length:Nat):Int) then (((lb n).length:Nat):Int) else (((lb m).length:Nat):Int))=(k:Int):=by split<;>omega
 have e1:wr .i64 ((k:Int)+1)=((k+1:Nat):Int):=by rw [Qg (by omega) (by omega)];omega
 rw [e0,e1,if_pos (by omega),Zi,List.length_replicate]
 obtain ⟨c',s',r1,r2,r3,r4,r5⟩:=Qj6 (a:=lb m) (b:=lb n) (n:=k+1) (Q1 bL m) (Q1 bL n) (by omega) (by omega) (by omega) (k+1) 0 0 (List.replicate (k+1) 0) (by omega) (by simp) (Qbj (by decide) _)
  (λj _=>Qfi _ j) (by omega) (by rw [Qc3];simp)
 have e:z35.l0 ((k+1:Nat):Int) (lb m) (lb n) ((0:Int),(0:Int),List.replicate (k+1) 0)=some (c',((k+1:Nat):Int),s'):=r1.lfp
 rw [e]
 simp only [Zb]
 rw [Q4 bL,Q4 bL] at r5
 have hm:m<LB^k:=Qh9 (by omega)
 have hn:n<LB^k:=Qh9 (by omega)
 have hc:c'=0:=by
  rcases (show c'=0\/c'=1 by omega) with h|h
  ·exact h
  ·exfalso
   subst h
   have:=J3 r2
   have e3:((LB^(k+1):Nat):Int)=(LB^k:Nat)*18446744073709551616:=by rw [Z38,Z26];rfl
   rw [e3] at r5
   omega
 subst hc
 rw [Qdz r2 (by show List.length _<=_;omega)]
 simp only [Zb]
 congr 2;omega
theorem Qju {a b:J0} (ha:inB LB a) (hb:inB LB b) (hal:a.length<=900000000) :
  ∀
   (f i:Nat) (c:Int) (s:J0),i+f=a.length->s.length=a.length->inB LB s->(∀j,i<=j->s.getD j 0=0)->0<=c/\c<=1 ->
   valB LB s-c*(LB^i:Nat)=valB LB (a.take i)-valB LB (b.take i) ->
   ∃c' s',Runs (λrec x=>z39.l0P (a.length:Int) a b rec some x) (c,(i:Int),s) (c',(a.length:Int),s')/\inB LB s'/\s'.length=a.length/\(0<=c'/\c'<=1)/\valB LB s'-c'*(LB^a.length:Nat)=valB LB a-valB LB (b.take a.length)
 |
  0,i,c,s,hf,hl,hs,hz,hc,hv=>by
  have:i=a.length:=by omega
  subst this
  refine ⟨c,s,.done λrec=>?_,hs,hl,hc,by rwa [Z61] at hv⟩
  unfold z39.l0P
  simp only
  rw [Qc (by omega)]
 |
  f+1,i,c,s,hf,hl,hs,hz,hc,hv=>by
  have hi:i<a.length:=by omega
  have his:i<s.length:=by omega
  have hLB:((LB:Nat):Int)=18446744073709551616:=rfl
  have h1:=Q6 (B:=LB) (by decide) ha i
  have h2:=Q6 (B:=LB) (by decide) hb i
  have eb:valB LB (b.take (i+1))=valB LB (b.take i)+(LB^i:Nat)*b.getD i 0:=by
   by_cases hb':i<b.length
   ·rw [Yf hb',Q2 hb']
   ·rw [Z28 (by omega),Z28 (by omega)]
    simp [List.getD,Z10 (show b.length<=i by omega)]
  have hsub:z1.F (a.getD i 0) (b.getD i 0) c=some ((a.getD i 0-b.getD i 0-c)%18446744073709551616,if a.getD i 0<b.getD i 0+c then 1 else 0):=by
   unfold z1.F;rw [if_pos (by omega)]
  obtain ⟨c',s',r1,r2,r3,r4,r5⟩:=Qju ha hb hal f (i+1) (if a.getD i 0<b.getD i 0+c then 1 else 0) (s.set i ((a.getD i 0-b.getD i 0-c)%18446744073709551616)) (by omega) (by simp [hl]) (J6 hs (by omega))
   (λj hj=>by rw [Qdi (by omega)];exact hz j (by omega)) (by split<;>omega) (by
    rw [Qa8 his,hz i (Z5 _),Yf hi,eb,Z38,Z33 (LB^i) LB,Z26,<-Q2 hi]
    have e3:((LB:Nat):Int)=18446744073709551616:=rfl
    rw [e3]
    have e4:(a.getD i 0-b.getD i 0-c)%18446744073709551616=a.getD i 0-b.getD i 0-c+(if a.getD i 0<b.getD i 0+c then 1 else 0)*18446744073709551616:=by split<;>omega
    rw [e4]
    generalize (if a.getD i 0<b.getD i 0+c then (1:Int) else 0)=q
    generalize ((LB^i:Nat):Int)=p at *
    grind)
  refine ⟨c',s',.step (λrec=>?_) r1,r2,r3,r4,r5⟩
  unfold z39.l0P
  simp only [Qj0,Zb]
  rw [bif_t (by omega),if_pos (by omega),Zi,hsub]
  simp only [Zb]
  rw [if_pos (by omega),if_pos his,Qg (by omega) (by omega)]
  rfl
theorem Qgi {m n:Nat} (hl:(lb m).length<=800000000):z39.F (lb m) (lb n)=some (if n<=m then (lb (m-n),true) else ([],false)):=by
 unfold z39.F
 rw [Qeh (by omega)]
 simp only [Zb]
 by_cases h:n<=m
 ·have h0:¬cmpI (m:Int) n<0:=by unfold cmpI;split<;>(try split)<;>omega
  rw [Qc h0,if_pos h,if_pos (by omega),Zi,List.length_replicate]
  obtain ⟨c',s',r1,r2,r3,r4,r5⟩:=Qju (a:=lb m) (b:=lb n) (Q1 bL m) (Q1 bL n) (by omega) (lb m).length 0 0 (List.replicate (lb m).length 0) (by omega) (by simp) (Qbj (by decide) _)
   (λj _=>Qfi _ j) (by omega) (by rw [Qc3];simp [valB])
  have hlen:(lb n).length<=(lb m).length:=by
   rcases Z53 (lb m).length (lb n).length with h'|h'
   ·have:=Qas bL h';omega
   ·exact h'
  rw [Z28 hlen,Q4 bL,Q4 bL] at r5
  have h1:=Qao bL r2
  rw [r3] at h1
  have hc:c'=0:=by
   rcases (show c'=0\/c'=1 by omega) with h|h
   ·exact h
   ·subst h;omega
  subst hc
  have e:z39.l0 ((lb m).length:Int) (lb m) (lb n) ((0:Int),(0:Int),List.replicate (lb m).length 0)=some ((0:Int),((lb m).length:Int),s'):=r1.lfp
  rw [e]
  simp only [Zb]
  rw [Qdz r2 (by show List.length _<=_;omega)]
  simp only [Zb]
  congr 3;omega
 ·have h0:cmpI (m:Int) n<0:=by unfold cmpI;rw [if_pos (by omega)];decide
  rw [bif_t h0,if_neg h]
theorem Qjp {l:J0} (hl:inB LB l) (hs:J8 l):z15.F l=some (lb (valB LB l).toNat):=by
 have hs':l.length<=1000000000:=hs
 unfold z15.F
 rw [if_pos (by omega),Qdz hl hs];rfl
theorem Yb {x:Int} (h:0<=x/\x<18446744073709551616):z15.F [x]=some (lb x.toNat):=by
 rw [Qjp (Yo.2 ⟨h,Y6 _⟩) (by show [x].length<=_;simp)]
 simp [valB]
theorem Qc0 {l:J0} (hs:J8 l):z16.F l=some l:=by
 have hs':l.length<=1000000000:=hs
 unfold z16.F
 rw [if_pos (by omega)]
theorem Qnv {x:Int} {a:J0} {off tot:Nat} (hx:0<=x/\x<18446744073709551616) (ha:inB LB a) (ht:tot<=1800000000) (hot:off+a.length<tot) :
  ∀
   (f i:Nat) (c:Int) (s:J0),i+f=a.length->s.length=tot->inB LB s->0<=c/\c<18446744073709551616 ->
   ∃
    c' s',Runs (λrec y=>z36.l0aP x off (tot-off) a (a.length:Int) rec some y) (c,(i:Int),s) (c',(a.length:Int),s')/\inB LB s'/\s'.length=tot/\(0<=c'/\c'<18446744073709551616) /\
    (∀j,off+a.length<=j->s'.getD j 0=s.getD j 0)/\valB LB s'+c'*(LB^(off+a.length):Nat)=valB LB s+(c+x*valB LB (a.drop i))*(LB^(off+i):Nat)
 |
  0,i,c,s,hf,hl,hs,hc=>by
  have:i=a.length:=by omega
  subst this
  refine ⟨c,s,.done λrec=>?_,hs,hl,hc,λj _=>rfl,?_⟩
  ·unfold z36.l0aP
   simp only
   rw [Qc (by omega)]
  ·rw [Z27 (Z5 _)];simp [valB]
 |
  f+1,i,c,s,hf,hl,hs,hc=>by
  have hi:i<a.length:=by omega
  have his:off+i<s.length:=by omega
  have h1:=Q6 (B:=LB) (by decide) ha i
  have h2:=Q6 (B:=LB) (by decide) hs (off+i)
  have h1':0<=a.getD i 0/\a.getD i 0<18446744073709551616:=h1
  have h2':0<=s.getD (off+i) 0/\s.getD (off+i) 0<18446744073709551616:=h2
  have hp:0<=x*a.getD i 0/\x*a.getD i 0<=18446744073709551615*18446744073709551615:=⟨Z60 hx.1 h1'.1,Z96 (by omega) (by omega) h1'.1 (by decide)⟩
  obtain ⟨c',s',r1,r2,r3,r4,r5,r6⟩:=Qnv hx ha ht hot f (i+1) ((x*a.getD i 0+c+s.getD (off+i) 0)/18446744073709551616) (s.set (off+i) ((x*a.getD i 0+c+s.getD (off+i) 0)%18446744073709551616))
   (by omega) (by simp [hl]) (J6 hs (by show 0<=_/\_<(18446744073709551616:Int);omega)) (by omega)
  refine ⟨c',s',.step (λrec=>?_) r1,r2,r3,r4,λj hj=>?_,?_⟩
  ·unfold z36.l0aP
   simp only
   rw [bif_t (by omega),if_pos (by omega),Zi,Qv6 hx h1']
   simp only [Zb]
   rw [Qfp (by omega) hc.1 (by omega)]
   simp only [Zb]
   rw [if_pos (by omega),if_pos his,Qfp h2'.1 (by omega) (by omega)]
   simp only [Zb]
   rw [if_pos (by omega),if_pos his]
   generalize x*a.getD i 0=p at hp ⊢
   generalize s.getD (off+i) 0=u at h2' ⊢
   rw [Qq (n:=p/18446744073709551616+_) (by omega) (by omega),Qq (by omega) (by omega),Qg (by omega) (by omega)]
   congr 2
   ·omega
   ·congr 2;omega
  ·rw [r5 j hj,Qdi (by omega)]
  ·rw [r6,Qa8 his,Yl a i]
   have e1:((LB^(off+(i+1)):Nat):Int)=18446744073709551616*(LB^(off+i):Nat):=by
    rw [<-Z43,Z38,Z33,Z26];rfl
   rw [e1]
   have e3:((LB:Nat):Int)=18446744073709551616:=rfl
   rw [e3]
   generalize hy:x*a.getD i 0+c+s.getD (off+i) 0=y
   have e2:y=18446744073709551616*(y/18446744073709551616)+y%18446744073709551616:=(Int.mul_ediv_add_emod y _).symm
   generalize y/18446744073709551616=q at *
   generalize y%18446744073709551616=m at *
   generalize ((LB^(off+i):Nat):Int)=p
   generalize valB LB (a.drop (i+1))=w
   generalize valB LB s=z
   generalize s.getD (off+i) 0=u at *
   generalize a.getD i 0=v at *
   have hc':c=18446744073709551616*q+m-u-x*v:=by omega
   subst hc'
   grind
theorem Qkp {a b:J0} {tot:Nat} (ha:inB LB a) (hb:inB LB b) (ht:tot<=1800000000) (hab:tot=a.length+b.length+1) :
  ∀
   (f i:Nat) (s:J0),i+f=b.length->s.length=tot->inB LB s->(∀j,i+a.length<=j->s.getD j 0=0)->valB LB s=valB LB a*valB LB (b.take i) ->
   ∃s',Runs (λrec y=>z36.l0P b (b.length:Int) a rec some y) ((i:Int),s) ((b.length:Int),s')/\inB LB s'/\s'.length=tot/\valB LB s'=valB LB a*valB LB b
 |
  0,i,s,hf,hl,hs,hz,hv=>by
  have:i=b.length:=by omega
  subst this
  refine ⟨s,.done λrec=>?_,hs,hl,by rwa [Z61] at hv⟩
  unfold z36.l0P
  simp only
  rw [Qc (by omega)]
 |
  f+1,i,s,hf,hl,hs,hz,hv=>by
  have hi:i<b.length:=by omega
  have hx:=Q6 (B:=LB) (by decide) hb i
  have hx':0<=b.getD i 0/\b.getD i 0<18446744073709551616:=hx
  obtain ⟨c,s1,r1,r2,r3,r4,r5,r6⟩:=Qnv (x:=b.getD i 0) (a:=a) (off:=i) (tot:=tot) hx' ha ht (by omega) a.length 0 0 s (by omega) hl hs (by omega)
  have e0:z36.l0a (b.getD i 0) i (tot-i) a (a.length:Int) ((0:Int),(0:Int),s)=some (c,(a.length:Int),s1):=r1.lfp
  have hz1:s1.getD (i+a.length) 0=0:=by rw [r5 _ (Z5 _)];exact hz _ (Z5 _)
  have hi1:i+a.length<s1.length:=by omega
  obtain ⟨s',q1,q2,q3,q4⟩:=Qkp ha hb ht hab f (i+1) (s1.set (i+a.length) c) (by omega) (by simp [r3]) (J6 r2 r4)
   (λj hj=>by rw [Qdi (by omega),r5 j (by omega)];exact hz j (by omega)) (by
    rw [Qa8 hi1,hz1,Yf hi,Int.mul_add,<-hv,<-Q2 hi]
    simp only [Z45,Z79,Int.zero_add] at r6
    generalize ((LB^(i+a.length):Nat):Int)=p at *
    generalize ((LB^i:Nat):Int)=p2 at *
    grind)
  refine ⟨s',.step (λrec=>?_) q1,q2,q3,q4⟩
  unfold z36.l0P
  simp only
  rw [bif_t (by omega),if_pos (by omega),if_pos (by omega),Zi,hl,e0]
  simp only [Zb,Zi]
  rw [if_pos (by omega),if_pos hi1,if_pos (by omega),if_pos hi1,hz1,Qg (by omega) (by omega),Qq (by omega) (by omega),Int.zero_add]
  rfl
theorem Qt8 {a b:J0} (ha:inB LB a) (hb:inB LB b) (hl:a.length+b.length<=800000000):z36.F a b=some (lb (valB LB a*valB LB b).toNat):=by
 obtain ⟨s',r1,r2,r3,r4⟩:=Qkp (tot:=a.length+b.length+1) ha hb (by omega) rfl b.length 0 (List.replicate (a.length+b.length+1) 0) (by omega) (by simp) (Qbj (by decide) _)
  (λj _=>Qfi _ j) (by rw [Qc3];simp [valB])
 have e0:z36.l0 b (b.length:Int) a ((0:Int),List.replicate (a.length+b.length+1) 0)=some ((b.length:Int),s'):=r1.lfp
 have e1:wr .i64 (wr .i64 ((a.length:Int)+(b.length:Int))+1)=((a.length+b.length+1:Nat):Int):=by
  rw [Qg (n:=(a.length:Int)+(b.length:Int)) (by omega) (by omega),Qg (by omega) (by omega)];omega
 unfold z36.F
 rw [e1,if_pos (by omega),Zi,e0]
 simp only [Zb]
 rw [Qdz r2 (by show List.length _<=_;omega),r4]
 rfl
theorem Qbb {m n:Nat} (hl:(lb m).length+(lb n).length<=800000000):z36.F (lb m) (lb n)=some (lb (m*n)):=by
 rw [Qt8 (Q1 bL m) (Q1 bL n) hl,Q4 bL,Q4 bL]
 congr 2
theorem whole_Of (n:Nat) (b:Bool):z30.F (lb n) b=some (lb n,b&&decide (0<n)):=by
 unfold z30.F
 cases b
 ·rfl
 ·rw [Wx]
  simp only [Zd,Z24,Zb]
  congr 2
  by_cases h:n=0
  ·subst h;rfl
  ·rw [Zf h,Zt (by omega:0<n)];rfl
theorem whole_Of' {z:Int} {b:Bool} (h:(b=true/\z<=0)\/(b=false/\0<=z)):z30.F (lb z.natAbs) b=some (lb z.natAbs,neg z):=by
 rw [whole_Of]
 congr 2
 rcases h with ⟨rfl,h⟩|⟨rfl,h⟩
 ·rw [Z24];exact decide_eq_decide.2 (by omega)
 ·rw [Z37];symm;exact Zf (by omega)
theorem Yr {z:Int} {n:Nat} {b:Bool} (hn:n=z.natAbs) (h:(b=true/\z<=0)\/(b=false/\0<=z)):z30.F (lb n) b=some (lb z.natAbs,neg z):=by
 subst hn;exact whole_Of' h
theorem whole_From {z:Int} (h:-9223372036854775808<=z/\z<9223372036854775808):z55.F z=some (lb z.natAbs,neg z):=by
 unfold z55.F
 by_cases hz:z<0
 ·have e:wr .u64 (0-wr .u64 z)=((z.natAbs:Nat):Int):=by rw [Yc z,Yc];omega
  rw [bif_t hz,e,Yb (by omega)]
  simp only [Zb,Zi]
  rw [whole_Of' (z:=z) (.inl ⟨rfl,by omega⟩)];rfl
 ·have e:wr .u64 z=((z.natAbs:Nat):Int):=by rw [Qq (by omega) (by omega)];omega
  rw [Qc hz,e,Yb (by omega)]
  simp only [Zb,Zi]
  rw [whole_Of' (z:=z) (.inr ⟨rfl,by omega⟩)];rfl
theorem Qn0 (z:Int):z41.F (lb z.natAbs) (neg z)=some (lb (-z).natAbs,neg (-z)):=by
 unfold z41.F
 rw [Yr (z:=-z) (by omega) (by by_cases h:z<0;exact .inr ⟨by simp [neg,h],by omega⟩;exact .inl ⟨by simp [neg,h],by omega⟩)]
 rfl
theorem Qa3 (z:Int):z29.F (lb z.natAbs) (neg z)=some (cmpI z 0):=by
 unfold z29.F cmpI
 rw [Wx]
 simp only [Zb]
 by_cases h0:z=0
 ·subst h0;rfl
 ·rw [Qc (by omega)]
  by_cases h:z<0
  ·rw [bif_t h,if_pos h]
  ·rw [Qc h,if_neg h,if_neg h0]
theorem Qn9 {x y:Int} (hl:(lb x.natAbs).length+(lb y.natAbs).length<=800000000):z40.F (lb x.natAbs) (neg x) (lb y.natAbs) (neg y)=some (lb (x+y).natAbs,neg (x+y)):=by
 unfold z40.F
 by_cases hs:neg x=neg y
 ·have hs':(x<0↔y<0):=by simpa [neg] using hs
  rw [bif_t hs,Qe8 hl]
  simp only [Zb]
  rw [Yr (z:=x+y) (by omega) (by by_cases hx:x<0;exact .inl ⟨Zt hx,by omega⟩;exact .inr ⟨Zf hx,by omega⟩)]
  rfl
 ·have hs':¬(x<0↔y<0):=by simpa [neg] using hs
  rw [Qc hs,Qgi (by omega)]
  simp only [Zb]
  by_cases hc:y.natAbs<=x.natAbs
  ·rw [if_pos hc]
   simp only [Zd]
   rw [Yr (z:=x+y) (by omega) (by by_cases hx:x<0;exact .inl ⟨Zt hx,by omega⟩;exact .inr ⟨Zf hx,by omega⟩)]
   rfl
  ·rw [if_neg hc]
   simp only [Zc]
   rw [Qgi (by omega),if_pos (by omega)]
   simp only [Zb]
   rw [Yr (z:=x+y) (by omega) (by by_cases hy:y<0;exact .inl ⟨Zt hy,by omega⟩;exact .inr ⟨Zf hy,by omega⟩)]
   rfl
theorem Qv9 {x y:Int} (hl:(lb x.natAbs).length+(lb y.natAbs).length<=800000000):z42.F (lb x.natAbs) (neg x) (lb y.natAbs) (neg y)=some (lb (x-y).natAbs,neg (x-y)):=by
 unfold z42.F
 rw [Qn0]
 simp only [Zb]
 rw [Qn9 (by rw [Int.natAbs_neg];exact hl)]
 rfl
theorem Qk3 {x y:Int} (hl:(lb x.natAbs).length+(lb y.natAbs).length<=800000000):z43.F (lb x.natAbs) (neg x) (lb y.natAbs) (neg y)=some (cmpI x y):=by
 unfold z43.F
 rw [Qv9 hl]
 simp only [Zb]
 rw [Qa3,Qld]
 rfl
theorem Qpr (x y:Int):((!decide (neg x=neg y))&&decide (0<x.natAbs*y.natAbs))=neg (x*y):=by
 have h0:0<x.natAbs*y.natAbs↔x≠0/\y≠0:=by
  constructor
  ·intro h;exact ⟨by rintro rfl;simp at h,by rintro rfl;simp at h⟩
  ·rintro ⟨h1,h2⟩;exact Nat.mul_pos (by omega) (by omega)
 rw [Z59]
 simp only [Z4,Z47,decide_eq_true_eq,decide_eq_false_iff_not,h0]
 rcases Z76 x 0 with hx|hx|hx<;>rcases Z76 y 0 with hy|hy|hy
 ·have:=Int.mul_pos_of_neg_of_neg hx hy;simp [hx,hy];omega
 ·subst hy;simp
 ·have:=Int.mul_neg_of_neg_of_pos hx hy;simp [hx];omega
 ·subst hx;simp
 ·subst hx;simp
 ·subst hx;simp
 ·have:=Int.mul_neg_of_pos_of_neg hx hy;simp [hy];omega
 ·subst hy;simp
 ·have:=Int.mul_pos hx hy;simp;omega
theorem Qhb {x y:Int} (hl:(lb x.natAbs).length+(lb y.natAbs).length<=800000000):z57.F (lb x.natAbs) (neg x) (lb y.natAbs) (neg y)=some (lb (x*y).natAbs,neg (x*y)):=by
 unfold z57.F
 rw [Qbb hl]
 simp only [Zb]
 rw [whole_Of,Qpr,Z78]
 rfl
end Go.Proofs.YtjfipepaaddlmaaGreatDoor.A
end
