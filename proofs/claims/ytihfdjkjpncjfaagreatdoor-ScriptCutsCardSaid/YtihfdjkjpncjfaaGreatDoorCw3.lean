/- Part 3 of the proof of ScriptCuts.card. -/
import Derived.Test.YtihfdjkjpncjfaaGreatDoorCw2
import Derived.Test.YtihfdjkjpncjfaaGreatDoorRows
import Derived.WalkKit
import Derived.ProofKit
import Derived.OpenShut
import Derived.Carry
import Derived.ChangeSame
import Derived.Deep.Slices
import Derived.Test.YtihfdjkjpncjfaaGreatDoorCards
import Derived.Test.YtihfdjkjpncjfaaGreatDoorTie
import Derived.KernelRfl
import Derived.JoinedCond
set_option linter.unusedVariables false
set_option linter.unusedSimpArgs false
section
set_option maxRecDepth 100000
namespace Go.Proofs.YtihfdjkjpncjfaaGreatDoor.A
open Go
noncomputable section
def z13.C:Ctx where
 T:=tab
 call:=Qh [(202,z12.pack)]
theorem z13.link (a0 a1:Int):z13.C.evTop 133 (ifun Tryz.f133) [(.int .i64 a0),(.int .i64 a1)] z23.dec=z13.F a0 a1:=by kernel_rfl
def z21.C:Ctx where
 T:=tab
theorem z21.link (a0:Int):z21.C.evTop 283 (ifun Tryz.f283) [(.int .i64 a0)] z25.dec=z21.F a0:=by kernel_rfl
def z22.C:Ctx where
 T:=tab
 call:=Qh [(283,z21.pack)]
theorem z22.link (a0 a1:Int):z22.C.evTop 206 (ifun Tryz.f206) [(.int .i64 a0),(.int .i64 a1)] z23.dec=z22.F a0 a1:=by kernel_rfl
def z32.l0sh:Env×Store:=((.ints false .u64 []) :: .undef::(.ptr 0 0)::(.int .i64 0)::un 19 [],[(.cells 37 [(.ints false .u64 [])])])
def z32.l0out0 (a:J0) (b:Int) (c:J0) (o:Int):X×Env×Store:=((.exit 0),Qb z32.l0sh [.li a,.i o,.li c])
def z32.l0pack:List Leaf->Option LPack
 |[.li a,.i b,.li c]=>some (.one _ (z32.l0 a b) (z32.l0out0 a b c))
 |_=>none
def z32.C:Ctx where
 T:=tab
 keep:=λf i=>match f,i with|107,0=>([0,2,3],[0],[])|_,_=>([],[],[])
 keepR:=λf i=>match f,i with|107,0=>([2],[0],[2])|_,_=>([],[],[])
 L:=λf i b st=>match f,i,b with|107,0,0=>(matchSt z32.l0sh st).bind z32.l0pack|_,_,_=>none
theorem z32.l0_link (R:Type) (k:Env×Store->Option R) (d:X×Env×Store->Option R) (a:J0) (b:Int) (c:J0) :
  z32.C.loopP 107 0 (Qf 0 (ifun Tryz.f107).body) 1 k d (Qb z32.l0sh [.li a,.i b,.li c]) =
  z32.l0P a (λx'=>k (Qb z32.l0sh [.li a,.i x',.li c])) (λo=>d (z32.l0out0 a b c o)) b:=by kernel_rfl
theorem z32.link (a0:J0):z32.C.evTop 107 (ifun Tryz.f107) [(.ints false .u64 a0)] z33.dec=z32.F a0:=by kernel_rfl
def z35.C:Ctx where
 T:=tab
theorem z35.link (a0:J0) (a1:Bool):z35.C.evTop 172 (ifun Tryz.f172) [(.agg [(.ints false .u64 a0),(.bool a1)])] z80.dec=z35.F a0 a1:=by kernel_rfl
def z48.C:Ctx where
 T:=tab
theorem z48.link (a0:Int):z48.C.evTop 325 (ifun Tryz.f325) [(.int .i64 a0)] z25.dec=z48.F a0:=by kernel_rfl
def z55.C:Ctx where
 T:=tab
 draws:=λf i=>match f,i with|174,6=>([(16,[(2,0)],0),(17,[(3,0)],0),(18,[(16,2)],2),(19,[(15,1),(17,3)],7),(0,[(4,0),(18,4)],15),(6,[],31)],491552)|_,_=>([],0)
 call:=Qh [(16,z30.pack),(81,z36.pack),(237,z37.pack),(243,z54.pack)]
theorem z55.link (a0:J0) (a1:Bool) (a2:J0) (a3:Bool):z55.C.evTop 174 (ifun Tryz.f174) [(.agg [(.ints false .u64 a0),(.bool a1)]),(.agg [(.ints false .u64 a2),(.bool a3)])] z81.dec=z55.F a0 a1 a2 a3:=by kernel_rfl
def z56.l0ash:Env×Store:=(.undef::(.int .u64 0)::(.sview 3 0 0 0)::(.ptr 4 0) :: .undef :: .undef::(.int .u64 0)::un 6 ((.ints false .u64 [])::(.int .i64 0)::(.int .i64 0)::un 44 []),[(.cells 37 [(.ints false .u64 [])]),.dead,(.cells 37 [(.ints false .u64 [])]),(.arr 0 false 63 (.ints false .u64 [])),(.cells 37 [(.ints false .u64 [])])])
def z56.l0aout0 (a:Int) (b c:Nat) (d:Int) (e:J0) (g h:Int) (j k m p:J0) (o:Int×Int×J0):X×Env×Store:=((.exit 0),Qb z56.l0ash [.i a,.n b,.n c,.i o.1,.li e,.i g,.i o.2.1,.li j,.li k,.li o.2.2,.li p])
def z56.l0apack:List Leaf->Option LPack
 |[.i a,.n b,.n c,.i d,.li e,.i g,.i h,.li j,.li k,.li m,.li o]=>some (.one _ (z56.l0a a b c e g (d,h,m)) (z56.l0aout0 a b c d e g h j k m o))
 |_=>none
def z56.l0sh:Env×Store:=(.undef :: .undef::(.ptr 0 0) :: .undef::(.ptr 2 0)::(.sref 3 0)::un 12 ((.ints false .u64 [])::(.int .i64 0)::(.int .i64 0)::un 13 []),[(.cells 37 [(.ints false .u64 [])]),.dead,(.cells 37 [(.ints false .u64 [])]),(.arr 0 false 63 (.ints false .u64 []))])
def z56.l0out0 (a:J0) (b c:Int) (d e g:J0) (o:Int×J0):X×Env×Store:=((.exit 0),Qb z56.l0sh [.li a,.i b,.i o.1,.li d,.li e,.li o.2])
def z56.l0pack:List Leaf->Option LPack
 |[.li a,.i b,.i c,.li d,.li e,.li g]=>some (.one _ (z56.l0 a b d (c,g)) (z56.l0out0 a b c d e g))
 |_=>none
def z56.C:Ctx where
 T:=tab
 draws:=λf i=>match f,i with|161,5=>([(26,[(2,0)],0),(27,[(7,0)],0),(28,[(5,0)],0),(29,[(6,0)],0),(30,[(27,3),(28,4)],12),(31,[(25,1),(26,2),(29,5)],31)],2113929216)|_,_=>([],0)
 call:=Qh [(297,z50.pack),(138,z0.pack),(107,z32.pack)]
 inl:=λg=>match g with|223=>some (ifun Tryz.f223)|_=>none
 keep:=λf i=>match f,i with|223,0=>([1,2,3,6,13,14,15],List.range 64,[])|161,0=>([2,4,5,18,19,20],[0,2,3],[])|_,_=>([],[],[])
 keepR:=λf i=>match f,i with|223,0=>([],List.range 64,[])|161,0=>([4],[0,2,3],[4])|_,_=>([],[],[])
 L:=λf i b st=>match f,i,b with|223,0,4=>(matchSt z56.l0ash st).bind z56.l0apack|161,0,0=>(matchSt z56.l0sh st).bind z56.l0pack|_,_,_=>none
theorem z56.l0a_link (R:Type) (k:Env×Store->Option R) (d:X×Env×Store->Option R) (a:Int) (b c:Nat) (e:Int) (g:J0) (h j:Int) (m p q r:J0) :
  z56.C.loopPI (z56.C.inlK 0) 223 0 4 (Qf 0 (ifun Tryz.f223).body) 5 k d (Qb z56.l0ash [.i a,.n b,.n c,.i e,.li g,.i h,.i j,.li m,.li p,.li q,.li r]) =
  z56.l0aP a b c g h (λx'=>k (Qb z56.l0ash [.i a,.n b,.n c,.i x'.1,.li g,.i h,.i x'.2.1,.li m,.li p,.li x'.2.2,.li r])) (λo=>d (z56.l0aout0 a b c e g h j m p q r o)) (e,j,q):=by kernel_rfl
theorem z56.l0_link (R:Type) (k:Env×Store->Option R) (d:X×Env×Store->Option R) (a:J0) (b c:Int) (e g h:J0) :
  z56.C.loopP 161 0 (Qf 0 (ifun Tryz.f161).body) 4 k d (Qb z56.l0sh [.li a,.i b,.i c,.li e,.li g,.li h]) =
  z56.l0P a b e (λx'=>k (Qb z56.l0sh [.li a,.i b,.i x'.1,.li e,.li g,.li x'.2])) (λo=>d (z56.l0out0 a b c e g h o)) (c,h):=by kernel_rfl
theorem z56.link (a0 a1:J0):z56.C.evTop 161 (ifun Tryz.f161) [(.agg [(.ints false .u64 a0)]),(.agg [(.ints false .u64 a1)])] z33.dec=z56.F a0 a1:=by kernel_rfl
def z58.l0sh:Env×Store:=(.undef :: .undef::(.ptr 0 0)::(.ptr 1 0)::(.ptr 2 0)::(.sref 3 0)::(.int .u64 0)::un 11 ((.int .i64 0)::(.int .i64 0)::un 19 []),[(.cells 37 [(.ints false .u64 [])]),(.cells 37 [(.ints false .u64 [])]),(.cells 37 [(.ints false .u64 [])]),(.arr 0 false 63 (.ints false .u64 []))])
def z58.l0out0 (a b c:Int) (d e g h:J0) (o:Int×Int×J0):X×Env×Store:=((.exit 0),Qb z58.l0sh [.i o.1,.i b,.i o.2.1,.li d,.li e,.li g,.li o.2.2])
def z58.l0pack:List Leaf->Option LPack
 |[.i a,.i b,.i c,.li d,.li e,.li g,.li h]=>some (.one _ (z58.l0 b d e (a,c,h)) (z58.l0out0 a b c d e g h))
 |_=>none
def z58.C:Ctx where
 T:=tab
 draws:=λf i=>match f,i with|68,6=>([(24,[(5,0)],0),(25,[(7,0)],0),(26,[(2,0)],0),(27,[(7,0)],0),(28,[(25,3),(26,4)],12),(29,[(3,0)],0),(30,[(7,0)],0),(31,[(28,6),(29,7)],124),(32,[(6,16)],0),(33,[(27,5),(30,8),(31,9)],508),(23,[(32,10)],1020),(34,[(22,11)],2044),(35,[(22,11)],2044),(36,[(23,1),(24,2)],4095),(0,[(35,14),(33,12)],12287),(7,[(34,13)],32767)],68715282496)|_,_=>([],0)
 call:=Qh [(139,z38.pack),(138,z0.pack),(107,z32.pack)]
 keep:=λf i=>match f,i with|68,0=>([2,3,4,5,6,18,19],[0,1,2,3],[])|_,_=>([],[],[])
 keepR:=λf i=>match f,i with|68,0=>([4],[0,1,2,3],[4])|_,_=>([],[],[])
 L:=λf i b st=>match f,i,b with|68,0,0=>(matchSt z58.l0sh st).bind z58.l0pack|_,_,_=>none
theorem z58.l0_link (R:Type) (k:Env×Store->Option R) (d:X×Env×Store->Option R) (a b c:Int) (e g h j:J0) :
  z58.C.loopP 68 0 (Qf 0 (ifun Tryz.f68).body) 4 k d (Qb z58.l0sh [.i a,.i b,.i c,.li e,.li g,.li h,.li j]) =
  z58.l0P b e g (λx'=>k (Qb z58.l0sh [.i x'.1,.i b,.i x'.2.1,.li e,.li g,.li h,.li x'.2.2])) (λo=>d (z58.l0out0 a b c e g h j o)) (a,c,j):=by kernel_rfl
theorem z58.link (a0 a1:J0):z58.C.evTop 68 (ifun Tryz.f68) [(.agg [(.ints false .u64 a0)]),(.agg [(.ints false .u64 a1)])] z33.dec=z58.F a0 a1:=by kernel_rfl
def z59.C:Ctx where
 T:=tab
 draws:=λf i=>match f,i with|235,1=>([(4,[(1,0)],0),(5,[(3,1)],1),(6,[],0),(7,[(5,3)],4),(8,[(4,2),(6,4)],15),(0,[(2,0),(7,5)],31)],248)|_,_=>([],0)
 call:=Qh [(33,z33.pack),(68,z58.pack)]
theorem z59.link (a0:J0) (a1:Bool) (a2:J0):z59.C.evTop 235 (ifun Tryz.f235) [(.agg [(.ints false .u64 a0),(.bool a1),(.ints false .u64 a2)])] z33.dec=z59.F a0 a1 a2:=by kernel_rfl
def z61.C:Ctx where
 T:=tab
 draws:=λf i=>match f,i with|234,1=>([(7,[(2,0)],0),(8,[(6,1)],1),(9,[(3,0)],0),(10,[(8,3)],4),(11,[(7,2),(9,4)],15),(12,[(2,0)],0),(13,[(11,6)],63),(14,[(3,0)],0),(15,[(13,8)],128),(16,[(12,7),(14,9)],511),(17,[(10,5),(15,10)],1023),(18,[(16,11)],2047),(19,[(16,11)],2047),(0,[(4,0),(17,12)],8191),(6,[(18,13)],16383)],524256)|_,_=>([],0)
 call:=Qh [(304,z60.pack),(239,z57.pack),(174,z55.pack)]
theorem z61.link (a0:J0) (a1:Bool) (a2 a3:J0) (a4:Bool) (a5:J0):z61.C.evTop 234 (ifun Tryz.f234) [(.agg [(.ints false .u64 a0),(.bool a1),(.ints false .u64 a2)]),(.agg [(.ints false .u64 a3),(.bool a4),(.ints false .u64 a5)])] z81.dec=z61.F a0 a1 a2 a3 a4 a5:=by kernel_rfl
def z62.C:Ctx where
 T:=tab
theorem z62.link (a0 a1:J1):z62.C.evTop 124 (ifun Tryz.f124) [(.str a0),(.str a1)] z25.dec=z62.F a0 a1:=by kernel_rfl
def z64.C:Ctx where
 T:=tab
 call:=Qh [(159,z63.pack)]
theorem z64.link (a0 a1:J1):z64.C.evTop 92 (ifun Tryz.f92) [(.str a0),(.str a1)] z63.dec=z64.F a0 a1:=by kernel_rfl
def z65.l2sh:Env×Store:=((.str ([]:J1)) :: .undef::(.ptr 0 0)::(.int .i64 0)::(.ptr 1 0) :: .undef::(.int .i64 0)::(.int .u64 0)::un 39 ((.ptr 2 0)::un 21 []),[(.cells 37 [(.ints false .u64 [])]),(.cells 37 [(.ints false .u64 [])]),(.siter ([]:J1) 0)])
def z65.l2out0 (a:J1) (b c d:Int) (e g:J0) (h:J1) (j:Nat) (o:Int×Nat):X×Env×Store:=((.exit 2),Qb z65.l2sh [.s a,.i b,.i c,.i o.1,.li e,.li g,.s h,.n o.2])
def z65.l2pack:List Leaf->Option LPack
 |[.s a,.i b,.i c,.i d,.li e,.li g,.s h,.n j]=>some (.one _ (z65.l2 h (d,j)) (z65.l2out0 a b c d e g h j))
 |_=>none
def z65.l2ash:Env×Store:=((.str ([]:J1)) :: .undef::(.ptr 0 0)::(.int .i64 0)::(.ptr 1 0) :: .undef::(.int .i64 0)::(.int .u64 0)::un 33 ((.int .i64 0)::(.bool false)::un 4 ((.ptr 2 0)::un 21 [])),[(.cells 37 [(.ints false .u64 [])]),(.cells 37 [(.ints false .u64 [])]),(.siter ([]:J1) 0)])
def z65.l2aout0 (a:J1) (c d e g:Int) (h:Bool) (j k:J0) (m:J1) (p:Nat) (o:Int×Nat):X×Env×Store:=((.exit 2),Qb z65.l2ash [.s a,.i c,.i d,.i o.1,.i g,.b h,.li j,.li k,.s m,.n o.2])
def z65.l2apack:List Leaf->Option LPack
 |[.s a,.i c,.i d,.i e,.i g,.b h,.li j,.li k,.s m,.n o]=>some (.one _ (z65.l2a m (e,o)) (z65.l2aout0 a c d e g h j k m o))
 |_=>none
def z65.l0sh:Env×Store:=((.str ([]:J1)) :: .undef::(.ptr 0 0)::(.int .i64 0)::(.ptr 1 0)::(.bool false)::un 63 [],[(.cells 37 [(.ints false .u64 [])]),(.cells 37 [(.ints false .u64 [])])])
def z65.l0out0 (a:J1) (c:Int) (d:Bool) (e g:J0) (o:J1×Bool×J0):X×Env×Store:=((.exit 0),Qb z65.l0sh [.s o.1,.i c,.b o.2.1,.li e,.li o.2.2])
def z65.l0pack:List Leaf->Option LPack
 |[.s a,.i c,.b d,.li e,.li g]=>some (.one _ (z65.l0 (a,d,g)) (z65.l0out0 a c d e g))
 |_=>none
def z65.C:Ctx where
 T:=tab
 draws:=λf i=>match f,i with|93,17=>([(58,[(4,0)],0),(59,[],0),(60,[(58,2)],2),(61,[(57,1),(59,3)],7),(62,[(7,0)],0),(63,[(61,5)],16),(64,[(62,6)],63),(65,[(60,4),(63,7)],127),(0,[(4,0),(64,8)],255)],36749372959343247360)|_,_=>([],0)
 call:=Qh [(160,z4.pack),(33,z33.pack),(161,z56.pack),(68,z58.pack)]
 keep:=λf i=>match f,i with|93,2=>([0,2,3,4,6,7,41,42,47],[0,1,2],[])|93,0=>([0,2,3,4,5],[0,1],[])|_,_=>([],[],[])
 keepR:=λf i=>match f,i with|93,2=>([2,3],[0,1,2],[2,3])|93,0=>([2,3],[0,1],[2,3])|_,_=>([],[],[])
 L:=λf i b st=>match f,i,b with|93,2,0=>(orP ((matchSt z65.l2sh st).bind z65.l2pack) ((matchSt z65.l2ash st).bind z65.l2apack))|93,0,0=>(matchSt z65.l0sh st).bind z65.l0pack|_,_,_=>none
theorem z65.l2_link (R:Type) (k:Env×Store->Option R) (d:X×Env×Store->Option R) (a:J1) (b c e:Int) (g h:J0) (j:J1) (m:Nat) :
  z65.C.loopP 93 2 (Qf 2 (ifun Tryz.f93).body) 3 k d (Qb z65.l2sh [.s a,.i b,.i c,.i e,.li g,.li h,.s j,.n m]) =
  z65.l2P j (λx'=>k (Qb z65.l2sh [.s a,.i b,.i c,.i x'.1,.li g,.li h,.s j,.n x'.2])) (λo=>d (z65.l2out0 a b c e g h j m o)) (e,m):=by kernel_rfl
theorem z65.l2a_link (R:Type) (k:Env×Store->Option R) (d:X×Env×Store->Option R) (a:J1) (c e g h:Int) (j:Bool) (m p:J0) (q:J1) (r:Nat) :
  z65.C.loopP 93 2 (Qf 2 (ifun Tryz.f93).body) 3 k d (Qb z65.l2ash [.s a,.i c,.i e,.i g,.i h,.b j,.li m,.li p,.s q,.n r]) =
  z65.l2aP q (λx'=>k (Qb z65.l2ash [.s a,.i c,.i e,.i x'.1,.i h,.b j,.li m,.li p,.s q,.n x'.2])) (λo=>d (z65.l2aout0 a c e g h j m p q r o)) (g,r):=by kernel_rfl
theorem z65.l0_link (R:Type) (k:Env×Store->Option R) (d:X×Env×Store->Option R) (a:J1) (c:Int) (e:Bool) (g h:J0) :
  z65.C.loopP 93 0 (Qf 0 (ifun Tryz.f93).body) 2 k d (Qb z65.l0sh [.s a,.i c,.b e,.li g,.li h]) =
  z65.l0P (λx'=>k (Qb z65.l0sh [.s x'.1,.i c,.b x'.2.1,.li g,.li x'.2.2])) (λo=>d (z65.l0out0 a c e g h o)) (a,e,h):=by kernel_rfl
theorem z65.link (a0:J1):z65.C.evTop 93 (ifun Tryz.f93) [(.str a0)] z49.dec=z65.F a0:=by kernel_rfl
def z66.C:Ctx where
 T:=tab
 call:=Qh [(160,z4.pack)]
theorem z66.link (a0:J1):z66.C.evTop 310 (ifun Tryz.f310) [(.str a0)] z25.dec=z66.F a0:=by kernel_rfl
def z77.C:Ctx where
 T:=tab
 draws:=λf i=>match f,i with|312,1=>([(6,[(2,0)],0),(7,[(5,1)],1),(8,[(1,0)],0),(9,[(2,0)],0),(10,[(8,4)],8),(11,[(7,3),(9,5)],28),(12,[(10,6)],60),(13,[(6,2),(11,7)],127),(0,[(4,0),(12,8)],255)],8160)|_,_=>([],0)
 call:=Qh [(313,z76.pack),(239,z57.pack)]
theorem z77.link (a0:J0) (a1:Bool) (a2 a3:Int):z77.C.evTop 312 (ifun Tryz.f312) [(.agg [(.ints false .u64 a0),(.bool a1),(.int .i64 a2)]),(.int .i64 a3)] z31.dec=z77.F a0 a1 a2 a3:=by kernel_rfl
def z78.C:Ctx where
 T:=tab
 draws:=λf i=>match f,i with|253,2=>([(12,[(2,0)],0),(13,[(5,0)],0),(14,[(11,1),(12,2)],3),(15,[(3,0)],0),(16,[(5,0)],0),(17,[(14,4),(15,5)],31),(18,[(13,3),(16,6)],63),(5,[(17,7)],127)],260112)|_,_=>([],0)
 call:=Qh [(312,z77.pack),(155,z73.pack)]
theorem z78.link (a0:J0) (a1:Bool) (a2:Int) (a3:J0) (a4:Bool) (a5:Int):z78.C.evTop 253 (ifun Tryz.f253) [(.agg [(.ints false .u64 a0),(.bool a1),(.int .i64 a2)]),(.agg [(.ints false .u64 a3),(.bool a4),(.int .i64 a5)])] z23.dec=z78.F a0 a1 a2 a3 a4 a5:=by kernel_rfl
def z85.C:Ctx where
 T:=tab
 call:=Qh [(89,z84.pack),(16,z30.pack)]
theorem z85.link (a0:J1):z85.C.evTop 292 (ifun Tryz.f292) [(.str a0)] z23.dec=z85.F a0:=by kernel_rfl
def z86.C:Ctx where
 T:=tab
 call:=Qh [(292,z85.pack),(184,z81.pack)]
theorem z86.link (a0 a1 a2 a3:Int) (a4:J1):z86.C.evTop 212 (ifun Tryz.f212) [(.agg [(.int .i64 a0),(.int .i64 a1),(.int .i64 a2),(.int .i64 a3),(.str a4)])] z23.dec=z86.F a0 a1 a2 a3 a4:=by kernel_rfl
def z102.l0sh:Env×Store:=((.str ([]:J1)) :: .undef::(.int .i64 0)::(.bool false)::(.int .i64 0) :: .undef :: .undef::(.int .i64 0)::(.int .i64 0)::un 22 [],[])
def z102.l0so1:Env×Store:=(.undef :: .undef::(.int .i64 0)::(.bool false)::un 27 [],[])
def z102.l0out0 (a:J1) (c:Int) (d:Bool) (e g h:Int) (o:Int×Int):X×Env×Store:=((.exit 0),Qb z102.l0sh [.s a,.i c,.b d,.i o.1,.i g,.i o.2])
def z102.l0out1 (a:J1) (c:Int) (d:Bool) (e g h:Int) (o:Int×Bool):X×Env×Store:=(.ret,Qb z102.l0so1 [.i o.1,.b o.2])
def z102.l0pack:List Leaf->Option LPack
 |[.s a,.i c,.b d,.i e,.i g,.i h]=>some (.two _ _ (z102.l0 a g (e,h)) (z102.l0out0 a c d e g h) (z102.l0out1 a c d e g h))
 |_=>none
def z102.C:Ctx where
 T:=tab
 keep:=λf i=>match f,i with|269,0=>([0,2,3,4,7,8],[],[])|_,_=>([],[],[])
 keepR:=λf i=>match f,i with|269,0=>([2,3],[],[2,3])|_,_=>([],[],[])
 L:=λf i b st=>match f,i,b with|269,0,0=>(matchSt z102.l0sh st).bind z102.l0pack|_,_,_=>none
def z102.dec:V->Option (Int×Bool)
 |(.tup [(.int .i64 x0),(.bool x1)])=>some (x0,x1)
 |_=>none
theorem z102.l0_link (R:Type) (k:Env×Store->Option R) (d:X×Env×Store->Option R) (a:J1) (c:Int) (e:Bool) (g h j:Int) :
  z102.C.loopP 269 0 (Qf 0 (ifun Tryz.f269).body) 0 k d (Qb z102.l0sh [.s a,.i c,.b e,.i g,.i h,.i j]) =
  z102.l0P a h (λx'=>k (Qb z102.l0sh [.s a,.i c,.b e,.i x'.1,.i h,.i x'.2])) (λo=>match o with | .inl o=>d (z102.l0out0 a c e g h j o) | .inr o=>d (z102.l0out1 a c e g h j o)) (g,j):=by kernel_rfl
theorem z102.link (a0:J1):z102.C.evTop 269 (ifun Tryz.f269) [(.str a0)] z102.dec=z102.F a0:=by kernel_rfl
def z109.C:Ctx where
 T:=tab
theorem z109.link (a0:Int):z109.C.evTop 265 (ifun Tryz.f265) [(.int .i32 a0)] z25.dec=z109.F a0:=by kernel_rfl
def z110.C:Ctx where
 T:=tab
 call:=Qh [(262,z108.pack),(265,z109.pack)]
theorem z110.link (a0:Int):z110.C.evTop 264 (ifun Tryz.f264) [(.int .i32 a0)] z25.dec=z110.F a0:=by kernel_rfl
def z115.C:Ctx where
 T:=tab
 call:=Qh [(316,z114.pack)]
theorem z115.link (a0:J1) (a1:Int):z115.C.evTop 268 (ifun Tryz.f268) [(.str a0),(.int .i32 a1)] z25.dec=z115.F a0 a1:=by kernel_rfl
def z116.l0sh:Env×Store:=((.str ([]:J1))::(.func 264 []) :: .undef :: .undef::(.str ([]:J1))::un 3 ((.ptr 1 0)::un 12 []),[(.cells 230 [(.int .i64 0),(.str ([]:J1)),(.int .i64 0)]),(.siter ([]:J1) 0)])
def z116.l0so0:Env×Store:=(un 4 ((.str ([]:J1))::un 16 []),[(.cells 230 [(.int .i64 0),(.str ([]:J1)),(.int .i64 0)]),(.siter ([]:J1) 0)])
def z116.l0out0 (a b:J1) (c:Int) (d:J1) (e:Int) (g:J1) (h:Nat) (o:J1×Nat):X×Env×Store:=(.ret,Qb z116.l0so0 [.s o.1,.i c,.s d,.i e,.s g,.n o.2])
def z116.l0out1 (a b:J1) (c:Int) (d:J1) (e:Int) (g:J1) (h o:Nat):X×Env×Store:=((.exit 0),Qb z116.l0sh [.s a,.s b,.i c,.s d,.i e,.s g,.n o])
def z116.l0pack:List Leaf->Option LPack
 |[.s a,.s b,.i c,.s d,.i e,.s g,.n h]=>some (.two _ _ (z116.l0 a g h) (z116.l0out0 a b c d e g h) (z116.l0out1 a b c d e g h))
 |_=>none
def z116.l0ash:Env×Store:=((.str ([]:J1))::(.func 266 []) :: .undef :: .undef::(.str ([]:J1))::un 3 ((.ptr 1 0)::un 12 []),[(.cells 230 [(.int .i64 0),(.str ([]:J1)),(.int .i64 0)]),(.siter ([]:J1) 0)])
def z116.l0aso0:Env×Store:=(un 4 ((.str ([]:J1))::un 16 []),[(.cells 230 [(.int .i64 0),(.str ([]:J1)),(.int .i64 0)]),(.siter ([]:J1) 0)])
def z116.l0aout0 (a b:J1) (c:Int) (d:J1) (e:Int) (g:J1) (h:Nat) (o:J1×Nat):X×Env×Store:=(.ret,Qb z116.l0aso0 [.s o.1,.i c,.s d,.i e,.s g,.n o.2])
def z116.l0aout1 (a b:J1) (c:Int) (d:J1) (e:Int) (g:J1) (h o:Nat):X×Env×Store:=((.exit 0),Qb z116.l0ash [.s a,.s b,.i c,.s d,.i e,.s g,.n o])
def z116.l0apack:List Leaf->Option LPack
 |[.s a,.s b,.i c,.s d,.i e,.s g,.n h]=>some (.two _ _ (z116.l0a a g h) (z116.l0aout0 a b c d e g h) (z116.l0aout1 a b c d e g h))
 |_=>none
def z116.C:Ctx where
 T:=tab
 call:=Qh [(262,z108.pack),(264,z110.pack),(265,z109.pack),(266,z111.pack),(267,z112.pack),(250,z67.pack),(268,z115.pack)]
 inl:=λg=>match g with|263=>some (ifun Tryz.f263)|_=>none
 keep:=λf i=>match f,i with|263,0=>([0,1,4,8],List.range 64,[])|_,_=>([],[],[])
 keepR:=λf i=>match f,i with|263,0=>([4],List.range 64,[])|_,_=>([],[],[])
 L:=λf i b st=>match f,i,b with|263,0,1=>(orP ((matchSt z116.l0sh st).bind z116.l0pack) ((matchSt z116.l0ash st).bind z116.l0apack))|_,_,_=>none
def z116.dec:V->Option (Int×J1×Int×Int)
 |(.tup [(.agg [(.int .i64 x0),(.str x1),(.int .i64 x2)]),(.int .i64 x3)])=>some (x0,x1,x2,x3)
 |_=>none
theorem z116.l0_link (R:Type) (k:Env×Store->Option R) (d:X×Env×Store->Option R) (a b:J1) (c:Int) (e:J1) (g:Int) (h:J1) (j:Nat) :
  z116.C.loopPI (z116.C.inlK 0) 263 0 1 (Qf 0 (ifun Tryz.f263).body) 2 k d (Qb z116.l0sh [.s a,.s b,.i c,.s e,.i g,.s h,.n j]) =
  z116.l0P a h (λx'=>k (Qb z116.l0sh [.s a,.s b,.i c,.s e,.i g,.s h,.n x'])) (λo=>match o with | .inl o=>d (z116.l0out0 a b c e g h j o) | .inr o=>d (z116.l0out1 a b c e g h j o)) j:=by kernel_rfl
theorem z116.l0a_link (R:Type) (k:Env×Store->Option R) (d:X×Env×Store->Option R) (a b:J1) (c:Int) (e:J1) (g:Int) (h:J1) (j:Nat) :
  z116.C.loopPI (z116.C.inlK 0) 263 0 1 (Qf 0 (ifun Tryz.f263).body) 2 k d (Qb z116.l0ash [.s a,.s b,.i c,.s e,.i g,.s h,.n j]) =
  z116.l0aP a h (λx'=>k (Qb z116.l0ash [.s a,.s b,.i c,.s e,.i g,.s h,.n x'])) (λo=>match o with | .inl o=>d (z116.l0aout0 a b c e g h j o) | .inr o=>d (z116.l0aout1 a b c e g h j o)) j:=by kernel_rfl
theorem z116.link (a0:J1):z116.C.evTop 191 (ifun Tryz.f191) [(.str a0)] z116.dec=z116.F a0:=by kernel_rfl
def z117.l0sh:Env×Store:=((.str ([]:J1)) :: .undef::(.sref 0 0)::(.int .i64 0)::(.int .i64 0)::(.sref 1 0)::(.int .i64 0)::un 40 [],[(.arr 0 true 230 (.recs false 3 [])),(.arr 0 true 230 (.recs false 3 []))])
def z117.l0so1:Env×Store:=(.undef :: .undef::(.recs false 3 [])::(.int .i64 0)::(.int .i64 0)::un 42 [],[(.arr 0 true 230 (.recs false 3 [])),(.arr 0 true 230 (.recs false 3 []))])
def z117.l0out0 (a:J1) (b c d:Int) (e g:J2) (o:Int×J2):X×Env×Store:=((.exit 0),Qb z117.l0sh [.s a,.i b,.i c,.i o.1,.lr e,.lr o.2])
def z117.l0out1 (a:J1) (b c d:Int) (e g:J2) (o:J2×Int×Int×J2):X×Env×Store:=(.ret,Qb z117.l0so1 [.lr o.1,.i o.2.1,.i o.2.2.1,.lr e,.lr o.2.2.2])
def z117.l0pack:List Leaf->Option LPack
 |[.s a,.i b,.i c,.i d,.lr e,.lr g]=>some (.two _ _ (z117.l0 a (d,g)) (z117.l0out0 a b c d e g) (z117.l0out1 a b c d e g))
 |_=>none
def z117.C:Ctx where
 T:=tab
 call:=Qh [(190,z107.pack),(191,z116.pack)]
 keep:=λf i=>match f,i with|121,0=>([0,2,3,4,5,6],[0,1],[])|_,_=>([],[],[])
 keepR:=λf i=>match f,i with|121,0=>([2,3,4],[0,1],[2,3,4])|_,_=>([],[],[])
 L:=λf i b st=>match f,i,b with|121,0,0=>(matchSt z117.l0sh st).bind z117.l0pack|_,_,_=>none
def z117.dec:V->Option (J2×Int×Int)
 |(.tup [(.recs _ 3 x0),(.int .i64 x1),(.int .i64 x2)])=>some (x0,x1,x2)
 |_=>none
theorem z117.l0_link (R:Type) (k:Env×Store->Option R) (d:X×Env×Store->Option R) (a:J1) (b c e:Int) (g h:J2) :
  z117.C.loopP 121 0 (Qf 0 (ifun Tryz.f121).body) 2 k d (Qb z117.l0sh [.s a,.i b,.i c,.i e,.lr g,.lr h]) =
  z117.l0P a (λx'=>k (Qb z117.l0sh [.s a,.i b,.i c,.i x'.1,.lr g,.lr x'.2])) (λo=>match o with | .inl o=>d (z117.l0out0 a b c e g h o) | .inr o=>d (z117.l0out1 a b c e g h o)) (e,h):=by kernel_rfl
theorem z117.link (a0:J1):z117.C.evTop 121 (ifun Tryz.f121) [(.str a0)] z117.dec=z117.F a0:=by kernel_rfl
def z123.l0sh:Env×Store:=(.undef :: .undef::(.int .i64 0) :: .undef::(.ptr 0 0)::un 5 [],[(.siter ([]:J1) 0)])
def z123.l0out0 (a:Int) (b:J1) (c:Nat) (o:Int×Nat):X×Env×Store:=((.exit 0),Qb z123.l0sh [.i o.1,.s b,.n o.2])
def z123.l0pack:List Leaf->Option LPack
 |[.i a,.s b,.n c]=>some (.one _ (z123.l0 b (a,c)) (z123.l0out0 a b c))
 |_=>none
def z123.C:Ctx where
 T:=tab
 keep:=λf i=>match f,i with|126,0=>([2,4],[0],[])|_,_=>([],[],[])
 keepR:=λf i=>match f,i with|126,0=>([2],[0],[2])|_,_=>([],[],[])
 L:=λf i b st=>match f,i,b with|126,0,0=>(matchSt z123.l0sh st).bind z123.l0pack|_,_,_=>none
theorem z123.l0_link (R:Type) (k:Env×Store->Option R) (d:X×Env×Store->Option R) (a:Int) (b:J1) (c:Nat) :
  z123.C.loopP 126 0 (Qf 0 (ifun Tryz.f126).body) 1 k d (Qb z123.l0sh [.i a,.s b,.n c]) =
  z123.l0P b (λx'=>k (Qb z123.l0sh [.i x'.1,.s b,.n x'.2])) (λo=>d (z123.l0out0 a b c o)) (a,c):=by kernel_rfl
theorem z123.link (a0:J1):z123.C.evTop 126 (ifun Tryz.f126) [(.str a0)] z23.dec=z123.F a0:=by kernel_rfl
def z124.C:Ctx where
 T:=tab
 call:=Qh [(317,z2.pack)]
 inl:=λg=>match g with|197=>some (ifun Tryz.f197)|272=>some (ifun Tryz.f272)|_=>none
 rank:=λg=>match g with|197=>1|_=>0
theorem z124.link (a0 a1:J1):z124.C.evTop 128 (ifun Tryz.f128) [(.str a0),(.str a1)] z23.dec=z124.F a0 a1:=by kernel_rfl
def z125.l0sh:Env×Store:=((.str ([]:J1))::(.str ([]:J1)) :: .undef :: .undef::(.int .i64 0)::(.int .i64 0)::un 28 [],[])
def z125.l0so0:Env×Store:=(un 4 ((.int .i64 0)::un 29 []),[])
def z125.l0out0 (a b:J1) (c d o:Int):X×Env×Store:=(.ret,Qb z125.l0so0 [.i o])
def z125.l0pack:List Leaf->Option LPack
 |[.s a,.s b,.i c,.i d]=>some (.one _ (z125.l0 b (a,d)) (z125.l0out0 a b c d))
 |_=>none
def z125.C:Ctx where
 T:=tab
 call:=Qh [(126,z123.pack),(127,z3.pack),(128,z124.pack)]
 keep:=λf i=>match f,i with|60,0=>([0,1,4,5],[],[])|_,_=>([],[],[])
 keepR:=λf i=>match f,i with|60,0=>([4],[],[4])|_,_=>([],[],[])
 L:=λf i b st=>match f,i,b with|60,0,0=>(matchSt z125.l0sh st).bind z125.l0pack|_,_,_=>none
theorem z125.l0_link (R:Type) (k:Env×Store->Option R) (d:X×Env×Store->Option R) (a b:J1) (c e:Int) :
  z125.C.loopP 60 0 (Qf 0 (ifun Tryz.f60).body) 0 k d (Qb z125.l0sh [.s a,.s b,.i c,.i e]) =
  z125.l0P b (λx'=>k (Qb z125.l0sh [.s x'.1,.s b,.i c,.i x'.2])) (λo=>d (z125.l0out0 a b c e o)) (a,e):=by kernel_rfl
theorem z125.link (a0 a1:J1):z125.C.evTop 60 (ifun Tryz.f60) [(.str a0),(.str a1)] z23.dec=z125.F a0 a1:=by kernel_rfl
end
noncomputable section
def z11.C:Ctx where
 T:=tab
 call:=Qh [(71,z10.pack)]
theorem z11.link (a0:J0) (a1:Bool):z11.C.evTop 14 (ifun Tryz.f14) [(.agg [(.ints false .i64 a0),(.bool a1)])] z91.dec=z11.F a0 a1:=by kernel_rfl
def z14.C:Ctx where
 T:=tab
 draws:=λf i=>match f,i with|63,6=>([(32,[(1,0)],0),(33,[(31,1)],1),(34,[(32,2)],3),(35,[(33,3)],7),(36,[(1,0)],0),(37,[(35,5)],16),(38,[(36,6)],48),(0,[(2,0),(34,4)],15),(4,[(37,7)],255)],272730423304)|_,_=>([],0)
 call:=Qh [(133,z13.pack)]
def z14.dec:V->Option (Int×Int×Int×Bool)
 |(.tup [(.agg [(.int .i64 x0),(.int .i64 x1),(.int .i64 x2)]),(.bool x3)])=>some (x0,x1,x2,x3)
 |_=>none
theorem z14.link (a0 a1 a2:Int):z14.C.evTop 63 (ifun Tryz.f63) [(.agg [(.int .i64 a0),(.int .i64 a1),(.int .i64 a2)])] z14.dec=z14.F a0 a1 a2:=by kernel_rfl
def z16.l0sh:Env×Store:=((.int .i64 0) :: .undef::(.sref 0 0)::(.sref 1 0)::un 10 [],[(.arr 0 true 3 (.ints false .i64 [])),(.arr 0 true 3 (.ints false .i64 []))])
def z16.l0out0 (a:Int) (b c:J0) (o:Int×J0):X×Env×Store:=((.exit 0),Qb z16.l0sh [.i o.1,.li b,.li o.2])
def z16.l0pack:List Leaf->Option LPack
 |[.i a,.li b,.li c]=>some (.one _ (z16.l0 (a,c)) (z16.l0out0 a b c))
 |_=>none
def z16.C:Ctx where
 T:=tab
 keep:=λf i=>match f,i with|111,0=>([0,2,3],[0,1],[])|_,_=>([],[],[])
 keepR:=λf i=>match f,i with|111,0=>([2],[0,1],[2])|_,_=>([],[],[])
 L:=λf i b st=>match f,i,b with|111,0,0=>(matchSt z16.l0sh st).bind z16.l0pack|_,_,_=>none
def z16.dec:V->Option (J0)
 |(.ints _ .i64 x0)=>some x0
 |_=>none
theorem z16.l0_link (R:Type) (k:Env×Store->Option R) (d:X×Env×Store->Option R) (a:Int) (b c:J0) :
  z16.C.loopP 111 0 (Qf 0 (ifun Tryz.f111).body) 2 k d (Qb z16.l0sh [.i a,.li b,.li c]) =
  z16.l0P (λx'=>k (Qb z16.l0sh [.i x'.1,.li b,.li x'.2])) (λo=>d (z16.l0out0 a b c o)) (a,c):=by kernel_rfl
theorem z16.link (a0:Int):z16.C.evTop 111 (ifun Tryz.f111) [(.int .i64 a0)] z16.dec=z16.F a0:=by kernel_rfl
def z18.l2sh:Env×Store:=(.undef :: .undef::(.ptr 0 0) :: .undef::(.sref 2 0)::(.sref 3 0)::(.ptr 4 0)::(.int .i64 0)::(.int .i64 0)::un 13 ((.int .i64 0)::(.bool false)::un 81 []),[(.cells 69 [(.int .i64 0),(.int .i64 0),(.int .i64 0),(.ints false .u8 []),(.ints false .u8 []),(.ints false .u32 [])]),.dead,(.arr 0 true 85 (.recs false 5 [])),(.arr 0 true 85 (.recs false 5 [])),(.cells 41 [(.int .i64 0),(.int .i64 0),(.int .i64 0)])])
def z18.l2out0 (a c d:Int) (e:Bool) (g h j:Int) (k m n:J0) (p q:J2) (r s t:Int) (o:Int×Int×Int×Int):X×Env×Store:=((.exit 2),Qb z18.l2sh [.i a,.i o.1,.i d,.b e,.i g,.i h,.i j,.li k,.li m,.li n,.lr p,.lr q,.i o.2.1,.i o.2.2.1,.i o.2.2.2])
def z18.l2pack:List Leaf->Option LPack
 |[.i a,.i c,.i d,.b e,.i g,.i h,.i j,.li k,.li m,.li n,.lr o,.lr p,.i q,.i r,.i s]=>some (.one _ (z18.l2 a k (c,q,r,s)) (z18.l2out0 a c d e g h j k m n o p q r s))
 |_=>none
def z18.l0sh:Env×Store:=(.undef :: .undef::(.ptr 0 0) :: .undef::(.sref 2 0)::(.sref 3 0)::(.ptr 4 0)::(.int .i64 0)::un 97 [],[(.cells 69 [(.int .i64 0),(.int .i64 0),(.int .i64 0),(.ints false .u8 []),(.ints false .u8 []),(.ints false .u32 [])]),.dead,(.arr 0 true 85 (.recs false 5 [])),(.arr 0 true 85 (.recs false 5 [])),(.cells 41 [(.int .i64 0),(.int .i64 0),(.int .i64 0)])])
def z18.l0out0 (a b c d:Int) (e g h:J0) (j k:J2) (m n p:Int) (o:Int×J2×Int×Int×Int):X×Env×Store:=((.exit 0),Qb z18.l0sh [.i o.1,.i b,.i c,.i d,.li e,.li g,.li h,.lr j,.lr o.2.1,.i o.2.2.1,.i o.2.2.2.1,.i o.2.2.2.2])
def z18.l0pack:List Leaf->Option LPack
 |[.i a,.i b,.i c,.i d,.li e,.li g,.li h,.lr j,.lr k,.i m,.i n,.i o]=>some (.one _ (z18.l0 e g h (a,k,m,n,o)) (z18.l0out0 a b c d e g h j k m n o))
 |_=>none
def z18.C:Ctx where
 T:=tab
 call:=Qh [(63,z14.pack),(64,z17.pack),(14,z11.pack)]
 keep:=λf i=>match f,i with|46,2=>([2,4,5,6,7,8,22,23,94,95,96,97],[0,2,3,4],[])|46,0=>([2,4,5,6,7],[0,2,3,4],[])|_,_=>([],[],[])
 keepR:=λf i=>match f,i with|46,2=>([4],[0,2,3,4],[4])|46,0=>([4],[0,2,3,4],[4])|_,_=>([],[],[])
 L:=λf i b st=>match f,i,b with|46,2,0=>(matchSt z18.l2sh st).bind z18.l2pack|46,0,0=>(matchSt z18.l0sh st).bind z18.l0pack|_,_,_=>none
theorem z18.l2_link (R:Type) (k:Env×Store->Option R) (d:X×Env×Store->Option R) (a c e:Int) (g:Bool) (h j m:Int) (n p q:J0) (r s:J2) (t u v:Int) :
  z18.C.loopP 46 2 (Qf 2 (ifun Tryz.f46).body) 5 k d (Qb z18.l2sh [.i a,.i c,.i e,.b g,.i h,.i j,.i m,.li n,.li p,.li q,.lr r,.lr s,.i t,.i u,.i v]) =
  z18.l2P a n (λx'=>k (Qb z18.l2sh [.i a,.i x'.1,.i e,.b g,.i h,.i j,.i m,.li n,.li p,.li q,.lr r,.lr s,.i x'.2.1,.i x'.2.2.1,.i x'.2.2.2])) (λo=>d (z18.l2out0 a c e g h j m n p q r s t u v o)) (c,t,u,v):=by kernel_rfl
theorem z18.l0_link (R:Type) (k:Env×Store->Option R) (d:X×Env×Store->Option R) (a b c e:Int) (g h j:J0) (m n:J2) (p q r:Int) :
  z18.C.loopP 46 0 (Qf 0 (ifun Tryz.f46).body) 5 k d (Qb z18.l0sh [.i a,.i b,.i c,.i e,.li g,.li h,.li j,.lr m,.lr n,.i p,.i q,.i r]) =
  z18.l0P g h j (λx'=>k (Qb z18.l0sh [.i x'.1,.i b,.i c,.i e,.li g,.li h,.li j,.lr m,.lr x'.2.1,.i x'.2.2.1,.i x'.2.2.2.1,.i x'.2.2.2.2])) (λo=>d (z18.l0out0 a b c e g h j m n p q r o)) (a,n,p,q,r):=by kernel_rfl
theorem z18.link (a0 a1 a2:Int) (a3 a4 a5:J0) (a6 a7 a8:Int):z18.C.evTop 46 (ifun Tryz.f46) [(.agg [(.int .i64 a0),(.int .i64 a1),(.int .i64 a2),(.ints false .u8 a3),(.ints false .u8 a4),(.ints false .u32 a5)]),(.agg [(.int .i64 a6),(.int .i64 a7),(.int .i64 a8)])] z9.dec=z18.F a0 a1 a2 a3 a4 a5 a6 a7 a8:=by kernel_rfl
def z29.C:Ctx where
 T:=tab
theorem z29.link (a0:J0):z29.C.evTop 75 (ifun Tryz.f75) [(.agg [(.ints false .u64 a0)])] z25.dec=z29.F a0:=by kernel_rfl
def z30.C:Ctx where
 T:=tab
 call:=Qh [(75,z29.pack)]
theorem z30.link (a0:J0) (a1:Bool):z30.C.evTop 16 (ifun Tryz.f16) [(.agg [(.ints false .u64 a0),(.bool a1)])] z23.dec=z30.F a0 a1:=by kernel_rfl
def z40.C:Ctx where
 T:=tab
 call:=Qh [(284,z39.pack)]
theorem z40.link (a0 a1:Int):z40.C.evTop 207 (ifun Tryz.f207) [(.int .u64 a0),(.int .u64 a1)] z23.dec=z40.F a0 a1:=by kernel_rfl
def z45.C:Ctx where
 T:=tab
 call:=Qh [(324,z44.pack)]
theorem z45.link (a0:Int):z45.C.evTop 286 (ifun Tryz.f286) [(.int .u64 a0)] z23.dec=z45.F a0:=by kernel_rfl
def z46.l0sh:Env×Store:=(.undef :: .undef::(.int .u64 0)::un 3 ((.int .u64 0)::(.int .u64 0)::(.int .u64 0)::(.int .u64 0)::(.int .u64 0)::(.int .u64 0) :: .undef::(.int .u64 0)::(.int .u64 0)::(.int .u64 0)::(.int .u64 0)::un 118 []),[])
def z46.l0out0 (a b c d e g h j k m n:Int) (o:Int×Int):X×Env×Store:=((.exit 0),Qb z46.l0sh [.i a,.i b,.i c,.i d,.i e,.i g,.i h,.i j,.i k,.i o.1,.i o.2])
def z46.l0pack:List Leaf->Option LPack
 |[.i a,.i b,.i c,.i d,.i e,.i g,.i h,.i j,.i k,.i m,.i n]=>some (.one _ (z46.l0 e g j (m,n)) (z46.l0out0 a b c d e g h j k m n))
 |_=>none
def z46.l2sh:Env×Store:=(.undef :: .undef::(.int .u64 0)::un 3 ((.int .u64 0)::(.int .u64 0)::(.int .u64 0)::(.int .u64 0)::(.int .u64 0)::un 3 ((.int .u64 0)::(.int .u64 0)::(.int .u64 0)::(.int .u64 0)::(.int .u64 0)::un 116 [])),[])
def z46.l2out0 (a b c d e g h j k m n:Int) (o:Int×Int):X×Env×Store:=((.exit 2),Qb z46.l2sh [.i a,.i b,.i c,.i d,.i e,.i g,.i h,.i j,.i o.1,.i m,.i o.2])
def z46.l2pack:List Leaf->Option LPack
 |[.i a,.i b,.i c,.i d,.i e,.i g,.i h,.i j,.i k,.i m,.i n]=>some (.one _ (z46.l2 e g h (k,n)) (z46.l2out0 a b c d e g h j k m n))
 |_=>none
def z46.C:Ctx where
 T:=tab
 draws:=λf i=>match f,i with|285,6=>([(29,[(1,0)],0),(30,[(2,0)],0),(31,[(28,1),(29,2)],3),(32,[(1,0)],0),(33,[(2,0)],0),(34,[(31,4),(32,5)],24),(7,[(30,3)],7),(8,[(33,6)],127)],16911433920)|_,_=>([],0)
 call:=Qh [(286,z45.pack)]
 keep:=λf i=>match f,i with|285,0=>([2,6,7,8,9,10,11,13,14,15,16,105,106,107,108,109,110,111,112],[],[])|285,2=>([2,6,7,8,9,10,14,15,16,17,18],[],[])|_,_=>([],[],[])
 keepR:=λf i=>match f,i with|285,0=>([6,7],[],[6,7])|285,2=>([6,7],[],[6,7])|_,_=>([],[],[])
 L:=λf i b st=>match f,i,b with|285,0,0=>(matchSt z46.l0sh st).bind z46.l0pack|285,2,0=>(matchSt z46.l2sh st).bind z46.l2pack|_,_,_=>none
def z46.dec:V->Option (Int×Int)
 |(.tup [(.int .u64 x0),(.int .u64 x1)])=>some (x0,x1)
 |_=>none
theorem z46.l0_link (R:Type) (k:Env×Store->Option R) (d:X×Env×Store->Option R) (a b c e g h j m n p q:Int) :
  z46.C.loopP 285 0 (Qf 0 (ifun Tryz.f285).body) 0 k d (Qb z46.l0sh [.i a,.i b,.i c,.i e,.i g,.i h,.i j,.i m,.i n,.i p,.i q]) =
  z46.l0P g h m (λx'=>k (Qb z46.l0sh [.i a,.i b,.i c,.i e,.i g,.i h,.i j,.i m,.i n,.i x'.1,.i x'.2])) (λo=>d (z46.l0out0 a b c e g h j m n p q o)) (p,q):=by kernel_rfl
theorem z46.l2_link (R:Type) (k:Env×Store->Option R) (d:X×Env×Store->Option R) (a b c e g h j m n p q:Int) :
  z46.C.loopP 285 2 (Qf 2 (ifun Tryz.f285).body) 0 k d (Qb z46.l2sh [.i a,.i b,.i c,.i e,.i g,.i h,.i j,.i m,.i n,.i p,.i q]) =
  z46.l2P g h j (λx'=>k (Qb z46.l2sh [.i a,.i b,.i c,.i e,.i g,.i h,.i j,.i m,.i x'.1,.i p,.i x'.2])) (λo=>d (z46.l2out0 a b c e g h j m n p q o)) (n,q):=by kernel_rfl
theorem z46.link (a0 a1 a2:Int):z46.C.evTop 285 (ifun Tryz.f285) [(.int .u64 a0),(.int .u64 a1),(.int .u64 a2)] z46.dec=z46.F a0 a1 a2:=by kernel_rfl
def z47.l0sh:Env×Store:=((.ints false .u64 [])::(.int .u64 0) :: .undef :: .undef::(.sref 0 0)::(.int .u64 0)::(.sref 1 0)::(.int .u64 0)::(.int .i64 0)::un 25 [],[(.arr 0 true 63 (.ints false .u64 [])),(.arr 0 false 63 (.ints false .u64 []))])
def z47.l0out0 (a:J0) (b c d e:Int) (g h:J0) (o:Int×Int×J0):X×Env×Store:=((.exit 0),Qb z47.l0sh [.li a,.i b,.i c,.i o.1,.i o.2.1,.li g,.li o.2.2])
def z47.l0pack:List Leaf->Option LPack
 |[.li a,.i b,.i c,.i d,.i e,.li g,.li h]=>some (.one _ (z47.l0 a b (d,e,h)) (z47.l0out0 a b c d e g h))
 |_=>none
def z47.C:Ctx where
 T:=tab
 call:=Qh [(285,z46.pack)]
 keep:=λf i=>match f,i with|208,0=>([0,1,4,5,6,7,8],[0,1],[])|_,_=>([],[],[])
 keepR:=λf i=>match f,i with|208,0=>([4,5],[0,1],[4,5])|_,_=>([],[],[])
 L:=λf i b st=>match f,i,b with|208,0,0=>(matchSt z47.l0sh st).bind z47.l0pack|_,_,_=>none
def z47.dec:V->Option (J0×Int)
 |(.tup [(.ints _ .u64 x0),(.int .u64 x1)])=>some (x0,x1)
 |_=>none
theorem z47.l0_link (R:Type) (k:Env×Store->Option R) (d:X×Env×Store->Option R) (a:J0) (b c e g:Int) (h j:J0) :
  z47.C.loopP 208 0 (Qf 0 (ifun Tryz.f208).body) 2 k d (Qb z47.l0sh [.li a,.i b,.i c,.i e,.i g,.li h,.li j]) =
  z47.l0P a b (λx'=>k (Qb z47.l0sh [.li a,.i b,.i c,.i x'.1,.i x'.2.1,.li h,.li x'.2.2])) (λo=>d (z47.l0out0 a b c e g h j o)) (e,g,j):=by kernel_rfl
theorem z47.link (a0:J0) (a1:Int):z47.C.evTop 208 (ifun Tryz.f208) [(.ints false .u64 a0),(.int .u64 a1)] z47.dec=z47.F a0 a1:=by kernel_rfl
def z50.C:Ctx where
 T:=tab
theorem z50.link (a0 a1:Int):z50.C.evTop 297 (ifun Tryz.f297) [(.int .u64 a0),(.int .u64 a1)] z46.dec=z50.F a0 a1:=by kernel_rfl
def z53.l0sh:Env×Store:=(.undef :: .undef::(.ptr 0 0)::(.ptr 1 0)::(.ptr 2 0)::un 16 [],[(.cells 37 [(.ints false .u64 [])]),(.cells 37 [(.ints false .u64 [])]),(.cells 37 [(.ints false .u64 [])])])
def z53.l0out0 (a b c:J0) (o:J0×J0):X×Env×Store:=((.exit 0),Qb z53.l0sh [.li o.1,.li o.2,.li c])
def z53.l0pack:List Leaf->Option LPack
 |[.li a,.li b,.li c]=>some (.one _ (z53.l0 (a,b)) (z53.l0out0 a b c))
 |_=>none
def z53.C:Ctx where
 T:=tab
 draws:=λf i=>match f,i with|306,3=>([(19,[(3,0)],0),(20,[(6,0)],0),(0,[(2,0),(18,1)],1),(0,[(3,0),(19,2)],7)],786432)|_,_=>([],0)
 call:=Qh [(75,z29.pack),(142,z52.pack)]
 keep:=λf i=>match f,i with|306,0=>([2,3,4],[0,1,2],[])|_,_=>([],[],[])
 keepR:=λf i=>match f,i with|306,0=>([4],[0,1,2],[4])|_,_=>([],[],[])
 L:=λf i b st=>match f,i,b with|306,0,0=>(matchSt z53.l0sh st).bind z53.l0pack|_,_,_=>none
theorem z53.l0_link (R:Type) (k:Env×Store->Option R) (d:X×Env×Store->Option R) (a b c:J0) :
  z53.C.loopP 306 0 (Qf 0 (ifun Tryz.f306).body) 3 k d (Qb z53.l0sh [.li a,.li b,.li c]) =
  z53.l0P (λx'=>k (Qb z53.l0sh [.li x'.1,.li x'.2,.li c])) (λo=>d (z53.l0out0 a b c o)) (a,b):=by kernel_rfl
theorem z53.link (a0 a1:J0):z53.C.evTop 306 (ifun Tryz.f306) [(.agg [(.ints false .u64 a0)]),(.agg [(.ints false .u64 a1)])] z33.dec=z53.F a0 a1:=by kernel_rfl
def z54.C:Ctx where
 T:=tab
 draws:=λf i=>match f,i with|243,1=>([(15,[(2,0)],0),(16,[(14,1)],1),(17,[(3,0)],0),(18,[(15,2),(16,3)],7),(6,[],0),(0,[(5,5),(17,4)],31)],245792)|243,2=>([(20,[(2,0)],0),(21,[(19,1)],1),(22,[(5,0)],0),(23,[(20,2),(21,3)],7),(19,[(22,4)],15),(24,[(18,5)],31),(25,[(18,5)],31),(26,[(18,5)],31),(7,[],0),(8,[],0),(0,[(6,9),(23,6)],831),(0,[(7,10),(24,7)],1919),(9,[(25,8)],4095)],66847168)|243,4=>([(35,[(9,0)],0),(36,[],0),(37,[(35,2)],2),(38,[(34,1),(36,3)],7),(34,[(37,4)],15),(39,[(33,5)],31),(40,[(33,5)],31),(13,[],0),(0,[(12,8),(38,6)],191),(14,[(39,7)],511)],1090921705472)|243,5=>([(41,[(6,0)],0),(42,[(2,0)],0),(43,[(41,2)],2),(44,[(42,3)],6),(45,[(40,1),(43,4)],15),(46,[(12,0)],0),(47,[(44,5),(45,6)],63),(0,[(4,0),(46,7)],127)],139637976727552)|_,_=>([],0)
 call:=Qh [(237,z37.pack),(306,z53.pack),(142,z52.pack),(33,z33.pack),(69,z42.pack),(16,z30.pack),(32,z31.pack)]
theorem z54.link (a0:J0) (a1:Bool) (a2:J0):z54.C.evTop 243 (ifun Tryz.f243) [(.agg [(.ints false .u64 a0),(.bool a1)]),(.agg [(.ints false .u64 a2)])] z80.dec=z54.F a0 a1 a2:=by kernel_rfl
def z57.C:Ctx where
 T:=tab
 draws:=λf i=>match f,i with|239,1=>([(6,[(2,0)],0),(7,[(5,1)],1),(8,[(3,0)],0),(9,[(7,3)],4),(10,[(6,2),(8,4)],15),(11,[(2,0)],0),(12,[(10,6)],32),(13,[(3,0)],0),(14,[(12,8)],128),(15,[(11,7),(13,9)],480),(16,[(9,5),(14,10)],1023),(0,[(4,0),(15,11)],2047)],65504)|_,_=>([],0)
 call:=Qh [(161,z56.pack),(32,z31.pack)]
theorem z57.link (a0:J0) (a1:Bool) (a2:J0) (a3:Bool):z57.C.evTop 239 (ifun Tryz.f239) [(.agg [(.ints false .u64 a0),(.bool a1)]),(.agg [(.ints false .u64 a2),(.bool a3)])] z31.dec=z57.F a0 a1 a2 a3:=by kernel_rfl
def z69.C:Ctx where
 T:=tab
 call:=Qh [(311,z68.pack)]
theorem z69.link (a0:J0) (a1:Bool) (a2:Int):z69.C.evTop 251 (ifun Tryz.f251) [(.agg [(.ints false .u64 a0),(.bool a1)]),(.int .i64 a2)] z67.dec=z69.F a0 a1 a2:=by kernel_rfl
def z70.C:Ctx where
 T:=tab
theorem z70.link (a0:J0) (a1:Bool) (a2:Int):z70.C.evTop 252 (ifun Tryz.f252) [(.agg [(.ints false .u64 a0),(.bool a1),(.int .i64 a2)])] z31.dec=z70.F a0 a1 a2:=by kernel_rfl
def z72.C:Ctx where
 T:=tab
 draws:=λf i=>match f,i with|132,1=>([(6,[(2,0)],0),(7,[(3,0)],0),(8,[(6,2)],2),(9,[(5,1),(7,3)],7),(0,[(4,0),(8,4)],15)],480)|_,_=>([],0)
 call:=Qh [(81,z36.pack),(12,z71.pack)]
theorem z72.link (a0:J0) (a1:Bool) (a2:J0) (a3:Bool):z72.C.evTop 132 (ifun Tryz.f132) [(.agg [(.ints false .u64 a0),(.bool a1)]),(.agg [(.ints false .u64 a2),(.bool a3)])] z31.dec=z72.F a0 a1 a2 a3:=by kernel_rfl
def z76.C:Ctx where
 T:=tab
 call:=Qh [(213,z75.pack),(32,z31.pack)]
theorem z76.link (a0:Int):z76.C.evTop 313 (ifun Tryz.f313) [(.int .i64 a0)] z31.dec=z76.F a0:=by kernel_rfl
def z82.C:Ctx where
 T:=tab
 call:=Qh [(92,z64.pack),(93,z65.pack),(75,z29.pack),(32,z31.pack)]
theorem z82.link (a0:J1):z82.C.evTop 27 (ifun Tryz.f27) [(.str a0)] z99.dec=z82.F a0:=by kernel_rfl
def z84.C:Ctx where
 T:=tab
 draws:=λf i=>match f,i with|89,4=>([(18,[(4,0)],0),(19,[(17,1)],1),(20,[(18,2)],3),(21,[(19,3)],7),(22,[(4,0),(20,4)],15),(23,[(20,4)],15),(24,[(21,5),(22,6),(20,4)],63),(25,[(23,7),(20,4)],127),(26,[(20,4),(24,8)],255),(17,[(25,9)],511)],67043328)|_,_=>([],0)
 call:=Qh [(27,z82.pack),(16,z30.pack),(156,z83.pack),(155,z73.pack)]
theorem z84.link (a0:J1):z84.C.evTop 89 (ifun Tryz.f89) [(.str a0)] z99.dec=z84.F a0:=by kernel_rfl
def z92.l2sh:Env×Store:=(.undef::(.ptr 0 0)::(.str ([]:J1))::(.sref 1 0)::(.ptr 2 0) :: .undef :: .undef::(.int .u64 0)::un 19 ((.ints false .u64 [])::(.int .i64 0)::(.int .i64 0)::un 27 []),[(.cells 37 [(.ints false .u64 [])]),(.arr 0 true 9 (.strs false [])),(.cells 37 [(.ints false .u64 [])]),.dead])
def z92.l2out0 (a:J1) (b:Int) (c:J0) (d e:Int) (g:J0) (h:List J1) (j:J0) (o:Int×Int):X×Env×Store:=((.exit 2),Qb z92.l2sh [.s a,.i o.1,.li c,.i d,.i o.2,.li g,.ls h,.li j])
def z92.l2pack:List Leaf->Option LPack
 |[.s a,.i b,.li c,.i d,.i e,.li g,.ls h,.li j]=>some (.one _ (z92.l2 c d (b,e)) (z92.l2out0 a b c d e g h j))
 |_=>none
def z92.l0sh:Env×Store:=(.undef::(.ptr 0 0)::(.str ([]:J1))::(.sref 1 0)::un 53 [],[(.cells 37 [(.ints false .u64 [])]),(.arr 0 true 9 (.strs false []))])
def z92.l0out0 (a:J1) (b:J0) (c:List J1) (o:J0×(List J1)):X×Env×Store:=((.exit 0),Qb z92.l0sh [.s a,.li o.1,.ls o.2])
def z92.l0pack:List Leaf->Option LPack
 |[.s a,.li b,.ls c]=>some (.one _ (z92.l0 (b,c)) (z92.l0out0 a b c))
 |_=>none
def z92.l4sh:Env×Store:=(.undef :: .undef::(.str ([]:J1))::(.sref 1 0)::un 7 ((.ptr 2 0)::(.int .i64 0)::un 44 []),[.dead,(.arr 0 true 9 (.strs false [])),(.cells 215 [(.ptr 2 0),(.sref 3 0)]),(.arr 0 true 5 (.ints false .u8 []))])
def z92.l4out0 (a:J1) (b:Int) (c:List J1) (d:J0) (o:Int×J0):X×Env×Store:=((.exit 4),Qb z92.l4sh [.s a,.i o.1,.ls c,.li o.2])
def z92.l4pack:List Leaf->Option LPack
 |[.s a,.i b,.ls c,.li d]=>some (.one _ (z92.l4 c (b,d)) (z92.l4out0 a b c d))
 |_=>none
def z92.C:Ctx where
 T:=tab
 draws:=λf i=>match f,i with|70,5=>([(20,[(1,0)],0),(21,[],0),(22,[(20,2)],2),(23,[(19,1),(21,3)],7),(19,[(22,4)],15),(24,[(18,5)],31),(25,[(18,5)],31),(26,[(18,5)],31),(5,[],0),(6,[],0),(0,[(4,9),(23,6)],831),(0,[(5,10),(24,7)],1919),(7,[(25,8)],4095)],66846832)|119,1=>([(4,[(0,0)],0),(5,[(3,1)],1),(6,[(4,2)],3),(7,[(5,3)],7),(8,[(6,4)],15),(9,[(0,0)],0),(10,[(8,6)],32),(11,[(9,7)],96),(12,[(10,8)],224),(13,[(11,9)],480),(14,[(7,5),(12,10)],1023),(3,[(13,11)],2047)],16380)|_,_=>([],0)
 call:=Qh [(75,z29.pack),(33,z33.pack),(142,z52.pack),(143,z43.pack),(144,z91.pack)]
 inl:=λg=>match g with|119=>some (ifun Tryz.f119)|117=>some (ifun Tryz.f117)|_=>none
 rank:=λg=>match g with|117=>1|_=>0
 prim:=λg=>match g with|185=>some (copyP 215)|_=>none
 keep:=λf i=>match f,i with|70,2=>([1,2,3,4,7,27,28,29],[0,1,2],[])|70,0=>([1,2,3],[0,1],[])|70,4=>([2,3,11,12],[1,2,3],[])|_,_=>([],[],[])
 keepR:=λf i=>match f,i with|70,2=>([2],[0,1,2],[2])|70,0=>([2],[0,1],[2])|70,4=>([2],[1,2,3],[2])|_,_=>([],[],[])
 unroll:=λf i=>match f,i with|70,4=>1|_,_=>0
 L:=λf i b st=>match f,i,b with|70,2,0=>(matchSt z92.l2sh st).bind z92.l2pack|70,0,0=>(matchSt z92.l0sh st).bind z92.l0pack|70,4,0=>(matchSt z92.l4sh st).bind z92.l4pack|_,_,_=>none
theorem z92.l2_link (R:Type) (k:Env×Store->Option R) (d:X×Env×Store->Option R) (a:J1) (b:Int) (c:J0) (e g:Int) (h:J0) (j:List J1) (m:J0) :
  z92.C.loopP 70 2 (Qf 2 (ifun Tryz.f70).body) 4 k d (Qb z92.l2sh [.s a,.i b,.li c,.i e,.i g,.li h,.ls j,.li m]) =
  z92.l2P c e (λx'=>k (Qb z92.l2sh [.s a,.i x'.1,.li c,.i e,.i x'.2,.li h,.ls j,.li m])) (λo=>d (z92.l2out0 a b c e g h j m o)) (b,g):=by kernel_rfl
theorem z92.l0_link (R:Type) (k:Env×Store->Option R) (d:X×Env×Store->Option R) (a:J1) (b:J0) (c:List J1) :
  z92.C.loopP 70 0 (Qf 0 (ifun Tryz.f70).body) 2 k d (Qb z92.l0sh [.s a,.li b,.ls c]) =
  z92.l0P (λx'=>k (Qb z92.l0sh [.s a,.li x'.1,.ls x'.2])) (λo=>d (z92.l0out0 a b c o)) (b,c):=by kernel_rfl
theorem z92.l4_link (R:Type) (k:Env×Store->Option R) (d:X×Env×Store->Option R) (a:J1) (b:Int) (c:List J1) (e:J0) :
  z92.C.loopP 70 4 (Qf 4 (ifun Tryz.f70).body) 4 k d (Qb z92.l4sh [.s a,.i b,.ls c,.li e]) =
  z92.l4P c (λx'=>k (Qb z92.l4sh [.s a,.i x'.1,.ls c,.li x'.2])) (λo=>d (z92.l4out0 a b c e o)) (b,e):=by kernel_rfl
theorem z92.link (a0:J0):z92.C.evTop 70 (ifun Tryz.f70) [(.agg [(.ints false .u64 a0)])] z91.dec=z92.F a0:=by kernel_rfl
def z95.C:Ctx where
 T:=tab
 call:=Qh [(251,z69.pack),(258,z94.pack)]
theorem z95.link (a0:J0) (a1:Bool):z95.C.evTop 188 (ifun Tryz.f188) [(.agg [(.ints false .u64 a0),(.bool a1)])] z91.dec=z95.F a0 a1:=by kernel_rfl
def z100.C:Ctx where
 T:=tab
 call:=Qh [(212,z86.pack),(270,z99.pack),(13,z93.pack)]
 prim:=λg=>match g with|192=>some (blkP [227] z98.pk)|_=>none
def z100.dec:V->J2->Option (Int×J2×Int×Int×Int×Int×Int×Int×J1)
 |(.int .i64 x0),[[(.recs _ 3 x1),(.int .i64 x2),(.int .i64 x3)],[(.int .i64 x4),(.int .i64 x5),(.int .i64 x6),(.int .i64 x7),(.str x8)]]=>some (x0,x1,x2,x3,x4,x5,x6,x7,x8)
 |_,_=>none
theorem z100.link (a0:J2) (a1 a2 a3 a4 a5 a6:Int) (a7:J1):z100.C.evBlk 195 (ifun Tryz.f195) [227,85] [[(.recs false 3 a0),(.int .i64 a1),(.int .i64 a2)],[(.int .i64 a3),(.int .i64 a4),(.int .i64 a5),(.int .i64 a6),(.str a7)]] [] z100.dec=z100.F a0 a1 a2 a3 a4 a5 a6 a7:=by kernel_rfl
def z108.C:Ctx where
 T:=tab
theorem z108.link (a0:Int):z108.C.evTop 262 (ifun Tryz.f262) [(.int .i32 a0)] z25.dec=z108.F a0:=by kernel_rfl
def z113.C:Ctx where
 T:=tab
theorem z113.link (a0:Int):z113.C.evTop 332 (ifun Tryz.f332) [(.int .i32 a0)] z25.dec=z113.F a0:=by kernel_rfl
def z114.C:Ctx where
 T:=tab
 draws:=λf i=>match f,i with|316,6=>([(28,[(0,0)],0),(29,[(9,0)],0),(30,[(27,1),(28,2)],3),(31,[(7,0)],0),(32,[(8,0)],0),(33,[(30,4),(31,5)],24),(34,[(29,3),(32,6)],63)],17045651456)|316,7=>([(35,[(0,0)],0),(36,[(9,0)],0),(37,[(35,2)],2),(38,[(34,1),(36,3)],7),(39,[(7,0)],0),(40,[(8,0)],0),(41,[(38,5),(39,6)],48),(42,[(37,4),(40,7)],127),(12,[(41,8)],255)],4380866643968)|_,_=>([],0)
 call:=Qh [(261,z106.pack),(332,z113.pack)]
 unroll:=λf i=>match f,i with|316,1=>1|_,_=>0
theorem z114.link (a0:J1) (a1:Int):z114.C.evTop 316 (ifun Tryz.f316) [(.str a0),(.int .i32 a1)] z23.dec=z114.F a0 a1:=by kernel_rfl
def z118.l0sh:Env×Store:=(.undef :: .undef::(.sref 0 0)::(.int .i64 0)::(.int .i64 0)::un 3 ((.ptr 1 0)::(.sref 2 0)::(.ptr 3 0)::un 63 []),[(.arr 0 true 85 (.recs false 5 [])),(.cells 227 [(.recs false 3 []),(.int .i64 0),(.int .i64 0)]),(.arr 0 true 85 (.recs false 5 [])),(.cells 41 [(.int .i64 0),(.int .i64 0),(.int .i64 0)])])
def z118.l0so1:Env×Store:=(.undef :: .undef::(.recs false 5 [])::(.int .i64 0)::(.int .i64 0)::un 69 [],[(.arr 0 true 85 (.recs false 5 [])),(.cells 227 [(.recs false 3 []),(.int .i64 0),(.int .i64 0)]),(.arr 0 true 85 (.recs false 5 [])),(.cells 41 [(.int .i64 0),(.int .i64 0),(.int .i64 0)])])
def z118.l0out0 (a b:Int) (c d:J2) (e g:Int) (h:J2) (j k m:Int) (o:J2×Int×Int×J2×Int×Int×Int):X×Env×Store:=((.exit 0),Qb z118.l0sh [.i a,.i b,.lr c,.lr o.1,.i o.2.1,.i o.2.2.1,.lr o.2.2.2.1,.i o.2.2.2.2.1,.i o.2.2.2.2.2.1,.i o.2.2.2.2.2.2])
def z118.l0out1 (a b:Int) (c d:J2) (e g:Int) (h:J2) (j k m:Int) (o:J2×Int×Int×J2×Int×Int×J2×Int×Int×Int):X×Env×Store:=(.ret,Qb z118.l0so1 [.lr o.1,.i o.2.1,.i o.2.2.1,.lr c,.lr o.2.2.2.1,.i o.2.2.2.2.1,.i o.2.2.2.2.2.1,.lr o.2.2.2.2.2.2.1,.i o.2.2.2.2.2.2.2.1,.i o.2.2.2.2.2.2.2.2.1,.i o.2.2.2.2.2.2.2.2.2])
def z118.l0pack:List Leaf->Option LPack
 |[.i a,.i b,.lr c,.lr d,.i e,.i g,.lr h,.i j,.i k,.i m]=>some (.two _ _ (z118.l0 (d,e,g,h,j,k,m)) (z118.l0out0 a b c d e g h j k m) (z118.l0out1 a b c d e g h j k m))
 |_=>none
def z118.C:Ctx where
 T:=tab
 draws:=λf i=>match f,i with|51,9=>([(48,[(8,0)],0),(49,[(47,1)],1),(50,[(48,2)],3),(51,[(49,3)],7),(52,[(50,4)],15),(53,[(51,5)],31),(54,[(52,6)],63),(3,[],0),(4,[(53,7)],255),(5,[],511)],17873661021126684)|51,12=>([(63,[(8,0)],0),(64,[(62,1)],1),(65,[(63,2)],3),(66,[(64,3)],7),(67,[(12,0)],0),(3,[],0),(4,[(65,4)],47),(5,[(66,5)],127)],142962266571249025052)|51,13=>([(68,[(9,7)],0),(69,[(11,0)],0),(70,[(68,2)],2),(71,[(67,1),(69,3)],7),(72,[(11,0)],0),(73,[(71,5)],16),(10,[(70,4)],15),(0,[(10,0),(72,6)],127)],9297159013149614014976)|_,_=>([],0)
 call:=Qh [(121,z117.pack)]
 prim:=λg=>match g with|122=>some (blkP [227] z104.pk)|_=>none
 keep:=λf i=>match f,i with|51,0=>([2,3,4,8,9,10],[0,1,2,3],[])|_,_=>([],[],[])
 keepR:=λf i=>match f,i with|51,0=>([2,3,4],[0,1,2,3],[2,3,4])|_,_=>([],[],[])
 L:=λf i b st=>match f,i,b with|51,0,0=>(matchSt z118.l0sh st).bind z118.l0pack|_,_,_=>none
def z118.dec:V->Option (J2×Int×Int)
 |(.tup [(.recs _ 5 x0),(.int .i64 x1),(.int .i64 x2)])=>some (x0,x1,x2)
 |_=>none
theorem z118.l0_link (R:Type) (k:Env×Store->Option R) (d:X×Env×Store->Option R) (a b:Int) (c e:J2) (g h:Int) (j:J2) (m n p:Int) :
  z118.C.loopP 51 0 (Qf 0 (ifun Tryz.f51).body) 4 k d (Qb z118.l0sh [.i a,.i b,.lr c,.lr e,.i g,.i h,.lr j,.i m,.i n,.i p]) =
  z118.l0P (λx'=>k (Qb z118.l0sh [.i a,.i b,.lr c,.lr x'.1,.i x'.2.1,.i x'.2.2.1,.lr x'.2.2.2.1,.i x'.2.2.2.2.1,.i x'.2.2.2.2.2.1,.i x'.2.2.2.2.2.2])) (λo=>match o with | .inl o=>d (z118.l0out0 a b c e g h j m n p o) | .inr o=>d (z118.l0out1 a b c e g h j m n p o)) (e,g,h,j,m,n,p):=by kernel_rfl
theorem z118.link (a0:J1):z118.C.evTop 51 (ifun Tryz.f51) [(.str a0)] z118.dec=z118.F a0:=by kernel_rfl
def z119.C:Ctx where
 T:=tab
 call:=Qh [(51,z118.pack),(48,z97.pack)]
theorem z119.link:z119.C.evTop 49 (ifun Tryz.f49) [] z25.dec=z119.F:=by kernel_rfl
end
noncomputable section
abbrev Sn (k:List V->Option Pack) (n:FuncId):Prop:=∀vs p,k vs=some p->SoundC Tryz.prog n vs p
theorem Qd:tab.check Tryz.prog=true:=by kernel_rfl
def tabC:Ctx where
 T:=tab
theorem Qe:Tryz.prog.follows .mixedOrders=true:=by kernel_rfl
theorem z8.inlF:InlF Tryz.prog z8.C where
 prim g h hp:=by simp [z8.C] at hp
 fn g fn h:=by simp [z8.C] at h
 loops g fn h:=by simp [z8.C] at h
theorem z8.sound:SoundP Tryz.prog 53 (rowP 9 z8.pk):=by
 refine Qla Qd Qe rfl Qu z8.inlF ⟨Tryz.func53,rfl,by kernel_rfl⟩ rfl λct rest p h=>?_
 unfold z8.pk at h;split at h<;>cases h
 exact ⟨_,z8.dec,rfl,z8.link _ _ _,λv r h=>by unfold z8.dec at h;split at h<;>cases h;exact ⟨rfl,rfl⟩⟩
theorem z9.inlF:InlF Tryz.prog z9.C where
 prim g h hp:=by simp [z9.C] at hp
 fn g fn h:=by simp [z9.C] at h
 loops g fn h:=by simp [z9.C] at h
theorem z9.sound:SoundP Tryz.prog 56 (rowP 85 z9.pk):=by
 refine Qla Qd Qe rfl Qu z9.inlF ⟨Tryz.func56,rfl,by kernel_rfl⟩ rfl λct rest p h=>?_
 unfold z9.pk at h;split at h<;>cases h
 exact ⟨_,z9.dec,rfl,z9.link _ _ _,λv r h=>by unfold z9.dec at h;split at h<;>cases h;exact ⟨rfl,rfl⟩⟩
theorem z10.l2_sound (hI:InlOK Tryz.prog z10.C λR=>z10.C.inlK 6):Ql z10.C 6 71 2 0 (Qf 2 (ifun Tryz.f71).body) z10.l2sh z10.l2pack:=by
 refine Qm λls p h=>?_
 unfold z10.l2pack at h;split at h<;>cases h
 rename_i a b c e g j
 exact Qs hI (sh:=z10.l2sh) (so:=z10.l2sh) (F:=λR rec done x=>z10.l2P rec done x) (enc:=λ(x':(J1×Int×Int))=>Qb z10.l2sh [.li a,.s b,.s x'.1,.i e,.i x'.2.1,.i x'.2.2]) [2,4,5] [2,4,5] (c,g,j) (by kernel_rfl) (by kernel_rfl) (λx=>by kernel_rfl) (λo=>by kernel_rfl) λR k d x'=>z10.l2_link R k d a b (x'.1) e (x'.2.1) (x'.2.2)
theorem z10.l0_sound (hI:InlOK Tryz.prog z10.C λR=>z10.C.inlK 6):Ql z10.C 6 71 0 0 (Qf 0 (ifun Tryz.f71).body) z10.l0sh z10.l0pack:=by
 refine Qm λls p h=>?_
 unfold z10.l0pack at h;split at h<;>cases h
 rename_i a b c e
 exact Qs hI (sh:=z10.l0sh) (so:=z10.l0sh) (F:=λR rec done x=>z10.l0P a rec done x) (enc:=λ(x':(J1×Int))=>Qb z10.l0sh [.li a,.s b,.s x'.1,.i x'.2]) [2,3] [2,3] (c,e) (by kernel_rfl) (by kernel_rfl) (λx=>by kernel_rfl) (λo=>by kernel_rfl) λR k d x'=>z10.l0_link R k d a b (x'.1) (x'.2)
theorem z10.l4_sound (hI:InlOK Tryz.prog z10.C λR=>z10.C.inlK 6):Ql z10.C 6 71 4 0 (Qf 4 (ifun Tryz.f71).body) z10.l4sh z10.l4pack:=by
 refine Qm λls p h=>?_
 unfold z10.l4pack at h;split at h<;>cases h
 rename_i a b c
 exact Qs hI (sh:=z10.l4sh) (so:=z10.l4sh) (F:=λR rec done x=>z10.l4P b rec done x) (enc:=λ(x':Int)=>Qb z10.l4sh [.s a,.s b,.i x']) [2] [2] c (by kernel_rfl) (by kernel_rfl) (λx=>by kernel_rfl) (λo=>by kernel_rfl) λR k d x'=>z10.l4_link R k d a b (x')
theorem Qr2:Qo (ifun Tryz.f71).body=true:=by kernel_rfl
theorem z10.loopsT (hI:InlOK Tryz.prog z10.C λR=>z10.C.inlK 6):LoopsOK z10.C (λR=>z10.C.inlK 6) 71 0 (ifun Tryz.f71).body:=by
 intro id b hm st p hp
 obtain rfl:=Qr Qr2 hm
 unfold z10.C at hp
 simp only at hp
 try split at hp
 all_goals first
  |(simp at hp;done)
  |(exfalso;omega)
  |exact z10.l2_sound hI st p hp
  |exact z10.l0_sound hI st p hp
  |exact z10.l4_sound hI st p hp
theorem z10.hdec:Wa z91.dec z10.enc:=by
 intro v r h
 unfold z91.dec at h;split at h<;>cases h
 exact ⟨rfl,rfl⟩
theorem z10.sound:Sn z10.pack 71:=by
 intro vs p h;unfold z10.pack at h;split at h<;>cases h
 exact Qz Qd Qe rfl rfl rfl Qu ⟨Tryz.func71,rfl,by kernel_rfl⟩ z10.loopsT rfl (z10.link _) z10.hdec
theorem z11.sound:Sn z11.pack 14:=by
 intro vs p h;unfold z11.pack at h;split at h<;>cases h
 exact Qj Qd Qe rfl rfl rfl rfl (Qa z10.sound Qi) ⟨Tryz.func14,rfl,by kernel_rfl⟩ rfl (z11.link _ _) z10.hdec
theorem z12.hdec:Wa z25.dec z12.enc:=by
 intro v r h
 unfold z25.dec at h;split at h<;>cases h
 exact ⟨rfl,rfl⟩
theorem z12.sound:Sn z12.pack 202:=by
 intro vs p h;unfold z12.pack at h;split at h<;>cases h
 exact Qj Qd Qe rfl rfl rfl rfl Qu ⟨Tryz.func202,rfl,by kernel_rfl⟩ rfl (z12.link _) z12.hdec
theorem z13.hdec:Wa z23.dec z13.enc:=by
 intro v r h
 unfold z23.dec at h;split at h<;>cases h
 exact ⟨rfl,rfl⟩
theorem z13.sound:Sn z13.pack 133:=by
 intro vs p h;unfold z13.pack at h;split at h<;>cases h
 exact Qj Qd Qe rfl rfl rfl rfl (Qa z12.sound Qi) ⟨Tryz.func133,rfl,by kernel_rfl⟩ rfl (z13.link _ _) z13.hdec
theorem z14.sound:Sn z14.pack 63:=by
 intro vs p h;unfold z14.pack at h;split at h<;>cases h
 exact Qj Qd Qe rfl rfl rfl rfl (Qa z13.sound Qi) ⟨Tryz.func63,rfl,by kernel_rfl⟩ rfl (z14.link _ _ _) (by intro v r h;unfold z14.dec at h;split at h<;>cases h;exact ⟨rfl,rfl⟩)
theorem z15.hdec:Wa z17.dec z15.enc:=by
 intro v r h
 unfold z17.dec at h;split at h<;>cases h
 exact ⟨rfl,rfl⟩
theorem z15.sound:Sn z15.pack 35:=by
 intro vs p h;unfold z15.pack at h;split at h<;>cases h
 exact Qj Qd Qe rfl rfl rfl rfl Qu ⟨Tryz.func35,rfl,by kernel_rfl⟩ rfl (z15.link _ _) z15.hdec
theorem z16.l0_sound (hI:InlOK Tryz.prog z16.C λR=>z16.C.inlK 6):Ql z16.C 6 111 0 0 (Qf 0 (ifun Tryz.f111).body) z16.l0sh z16.l0pack:=by
 refine Qm λls p h=>?_
 unfold z16.l0pack at h;split at h<;>cases h
 rename_i a b c
 exact Qs hI (sh:=z16.l0sh) (so:=z16.l0sh) (F:=λR rec done x=>z16.l0P rec done x) (enc:=λ(x':(Int×J0))=>Qb z16.l0sh [.i x'.1,.li b,.li x'.2]) [0,2] [0,2] (a,c) (by kernel_rfl) (by kernel_rfl) (λx=>by kernel_rfl) (λo=>by kernel_rfl) λR k d x'=>z16.l0_link R k d (x'.1) b (x'.2)
theorem Qtn:Qo (ifun Tryz.f111).body=true:=by kernel_rfl
theorem z16.loopsT (hI:InlOK Tryz.prog z16.C λR=>z16.C.inlK 6):LoopsOK z16.C (λR=>z16.C.inlK 6) 111 0 (ifun Tryz.f111).body:=by
 intro id b hm st p hp
 obtain rfl:=Qr Qtn hm
 unfold z16.C at hp
 simp only at hp
 try split at hp
 all_goals first
  |(simp at hp;done)
  |(exfalso;omega)
  |exact z16.l0_sound hI st p hp
theorem z16.sound:Sn z16.pack 111:=by
 intro vs p h;unfold z16.pack at h;split at h<;>cases h
 exact Qz Qd Qe rfl rfl rfl Qu ⟨Tryz.func111,rfl,by kernel_rfl⟩ z16.loopsT rfl (z16.link _) (by intro v r h;unfold z16.dec at h;split at h<;>cases h;exact ⟨rfl,rfl⟩)
theorem z17.sound:Sn z17.pack 64:=by
 intro vs p h;unfold z17.pack at h;split at h<;>cases h
 exact Qj Qd Qe rfl rfl rfl rfl (Qa z16.sound (Qa z15.sound Qi)) ⟨Tryz.func64,rfl,by kernel_rfl⟩ rfl (z17.link _) z15.hdec
theorem z18.l2_sound (hI:InlOK Tryz.prog z18.C λR=>z18.C.inlK 6):Ql z18.C 6 46 2 0 (Qf 2 (ifun Tryz.f46).body) z18.l2sh z18.l2pack:=by
 refine Qm λls p h=>?_
 unfold z18.l2pack at h;split at h<;>cases h
 rename_i a c e g j m n q r s t u v w y
 exact Qs hI (sh:=z18.l2sh) (so:=z18.l2sh) (F:=λR rec done x=>z18.l2P a q rec done x) (enc:=λ(x':(Int×Int×Int×Int))=>Qb z18.l2sh [.i a,.i x'.1,.i e,.b g,.i j,.i m,.i n,.li q,.li r,.li s,.lr t,.lr u,.i x'.2.1,.i x'.2.2.1,.i x'.2.2.2]) [1,12,13,14] [1,12,13,14] (c,v,w,y) (by kernel_rfl) (by kernel_rfl) (λx=>by kernel_rfl) (λo=>by kernel_rfl) λR k d x'=>z18.l2_link R k d a (x'.1) e g j m n q r s t u (x'.2.1) (x'.2.2.1) (x'.2.2.2)
theorem z18.l0_sound (hI:InlOK Tryz.prog z18.C λR=>z18.C.inlK 6):Ql z18.C 6 46 0 0 (Qf 0 (ifun Tryz.f46).body) z18.l0sh z18.l0pack:=by
 refine Qm λls p h=>?_
 unfold z18.l0pack at h;split at h<;>cases h
 rename_i a b c e g j m n q r s t
 exact Qs hI (sh:=z18.l0sh) (so:=z18.l0sh) (F:=λR rec done x=>z18.l0P g j m rec done x) (enc:=λ(x':(Int×J2×Int×Int×Int))=>Qb z18.l0sh [.i x'.1,.i b,.i c,.i e,.li g,.li j,.li m,.lr n,.lr x'.2.1,.i x'.2.2.1,.i x'.2.2.2.1,.i x'.2.2.2.2]) [0,8,9,10,11] [0,8,9,10,11] (a,q,r,s,t) (by kernel_rfl) (by kernel_rfl) (λx=>by kernel_rfl) (λo=>by kernel_rfl) λR k d x'=>z18.l0_link R k d (x'.1) b c e g j m n (x'.2.1) (x'.2.2.1) (x'.2.2.2.1) (x'.2.2.2.2)
theorem Qv5:Qo (ifun Tryz.f46).body=true:=by kernel_rfl
theorem z18.loopsT (hI:InlOK Tryz.prog z18.C λR=>z18.C.inlK 6):LoopsOK z18.C (λR=>z18.C.inlK 6) 46 0 (ifun Tryz.f46).body:=by
 intro id b hm st p hp
 obtain rfl:=Qr Qv5 hm
 unfold z18.C at hp
 simp only at hp
 try split at hp
 all_goals first
  |(simp at hp;done)
  |(exfalso;omega)
  |exact z18.l2_sound hI st p hp
  |exact z18.l0_sound hI st p hp
theorem z18.sound:Sn z18.pack 46:=by
 intro vs p h;unfold z18.pack at h;split at h<;>cases h
 exact Qz Qd Qe rfl rfl rfl (Qa z14.sound (Qa z17.sound (Qa z11.sound Qi))) ⟨Tryz.func46,rfl,by kernel_rfl⟩ z18.loopsT rfl (z18.link _ _ _ _ _ _ _ _ _) (by intro v r h;unfold z9.dec at h;split at h<;>cases h;exact ⟨rfl,rfl⟩)
theorem z19.hdec:Wa z20.dec z19.enc:=by
 intro v r h
 unfold z20.dec at h;split at h<;>cases h
 exact ⟨rfl,rfl⟩
theorem z19.sound:Sn z19.pack 62:=by
 intro vs p h;unfold z19.pack at h;split at h<;>cases h
 exact Qj Qd Qe rfl rfl rfl rfl (Qa z13.sound Qi) ⟨Tryz.func62,rfl,by kernel_rfl⟩ rfl (z19.link _ _ _ _) z19.hdec
theorem z20.sound:Sn z20.pack 47:=by
 intro vs p h;unfold z20.pack at h;split at h<;>cases h
 exact Qj Qd Qe rfl rfl rfl rfl (Qa z19.sound Qi) ⟨Tryz.func47,rfl,by kernel_rfl⟩ rfl (z20.link _ _ _ _ _ _) z19.hdec
theorem z21.sound:Sn z21.pack 283:=by
 intro vs p h;unfold z21.pack at h;split at h<;>cases h
 exact Qj Qd Qe rfl rfl rfl rfl Qu ⟨Tryz.func283,rfl,by kernel_rfl⟩ rfl (z21.link _) z12.hdec
theorem z22.sound:Sn z22.pack 206:=by
 intro vs p h;unfold z22.pack at h;split at h<;>cases h
 exact Qj Qd Qe rfl rfl rfl rfl (Qa z21.sound Qi) ⟨Tryz.func206,rfl,by kernel_rfl⟩ rfl (z22.link _ _) z13.hdec
theorem z23.l0_sound (hI:InlOK Tryz.prog z23.C λR=>z23.C.inlK 6):Ql z23.C 6 210 0 0 (Qf 0 (ifun Tryz.f210).body) z23.l0sh z23.l0pack:=by
 refine Qm λls p h=>?_
 unfold z23.l0pack at h;split at h<;>cases h
 rename_i a b c e g
 exact Yf hI (sh:=z23.l0sh) (so:=z23.l0sh) (so':=z23.l0so1) (F:=λR rec done x=>z23.l0P b c e rec done x) (enc:=λ(x':Int)=>Qb z23.l0sh [.i a,.i b,.li c,.i e,.i x']) (.exit 0) [4] [4] [0] g (by kernel_rfl) (by kernel_rfl) (λx=>by kernel_rfl) (λo=>by kernel_rfl) (λo=>by kernel_rfl) λR k d x'=>z23.l0_link R k d a b c e (x')
theorem Qrv:Qo (ifun Tryz.f210).body=true:=by kernel_rfl
theorem z23.loopsT (hI:InlOK Tryz.prog z23.C λR=>z23.C.inlK 6):LoopsOK z23.C (λR=>z23.C.inlK 6) 210 0 (ifun Tryz.f210).body:=by
 intro id b hm st p hp
 obtain rfl:=Qr Qrv hm
 unfold z23.C at hp
 simp only at hp
 try split at hp
 all_goals first
  |(simp at hp;done)
  |(exfalso;omega)
  |exact z23.l0_sound hI st p hp
theorem z23.sound:Sn z23.pack 210:=by
 intro vs p h;unfold z23.pack at h;split at h<;>cases h
 exact Qz Qd Qe rfl rfl rfl Qu ⟨Tryz.func210,rfl,by kernel_rfl⟩ z23.loopsT rfl (z23.link _) z13.hdec
theorem z24.sound:Sn z24.pack 148:=by
 intro vs p h;unfold z24.pack at h;split at h<;>cases h
 exact Qj Qd Qe rfl rfl rfl rfl (Qa z22.sound (Qa z23.sound Qi)) ⟨Tryz.func148,rfl,by kernel_rfl⟩ rfl (z24.link _ _ _ _ _ _) z13.hdec
theorem z25.sound:Sn z25.pack 248:=by
 intro vs p h;unfold z25.pack at h;split at h<;>cases h
 exact Qj Qd Qe rfl rfl rfl rfl Qu ⟨Tryz.func248,rfl,by kernel_rfl⟩ rfl (z25.link _) z12.hdec
theorem z26.sound:Sn z26.pack 249:=by
 intro vs p h;unfold z26.pack at h;split at h<;>cases h
 exact Qj Qd Qe rfl rfl rfl rfl (Qa z25.sound Qi) ⟨Tryz.func249,rfl,by kernel_rfl⟩ rfl (z26.link _) z12.hdec
theorem z27.sound:Sn z27.pack 183:=by
 intro vs p h;unfold z27.pack at h;split at h<;>cases h
 exact Qj Qd Qe rfl rfl rfl rfl (Qa z25.sound (Qa z26.sound Qi)) ⟨Tryz.func183,rfl,by kernel_rfl⟩ rfl (z27.link _ _) z13.hdec
theorem z28.sound:Sn z28.pack 181:=by
 intro vs p h;unfold z28.pack at h;split at h<;>cases h
 exact Qj Qd Qe rfl rfl rfl rfl (Qa z27.sound Qi) ⟨Tryz.func181,rfl,by kernel_rfl⟩ rfl (z28.link _ _ _) z13.hdec
theorem z29.sound:Sn z29.pack 75:=by
 intro vs p h;unfold z29.pack at h;split at h<;>cases h
 exact Qj Qd Qe rfl rfl rfl rfl Qu ⟨Tryz.func75,rfl,by kernel_rfl⟩ rfl (z29.link _) z12.hdec
theorem z30.sound:Sn z30.pack 16:=by
 intro vs p h;unfold z30.pack at h;split at h<;>cases h
 exact Qj Qd Qe rfl rfl rfl rfl (Qa z29.sound Qi) ⟨Tryz.func16,rfl,by kernel_rfl⟩ rfl (z30.link _ _) z13.hdec
theorem z31.hdec:Wa z31.dec z31.enc:=by
 intro v r h
 unfold z31.dec at h;split at h<;>cases h
 exact ⟨rfl,rfl⟩
theorem z31.sound:Sn z31.pack 32:=by
 intro vs p h;unfold z31.pack at h;split at h<;>cases h
 exact Qj Qd Qe rfl rfl rfl rfl (Qa z29.sound Qi) ⟨Tryz.func32,rfl,by kernel_rfl⟩ rfl (z31.link _ _) z31.hdec
theorem z32.l0_sound (hI:InlOK Tryz.prog z32.C λR=>z32.C.inlK 6):Ql z32.C 6 107 0 0 (Qf 0 (ifun Tryz.f107).body) z32.l0sh z32.l0pack:=by
 refine Qm λls p h=>?_
 unfold z32.l0pack at h;split at h<;>cases h
 rename_i a b c
 exact Qs hI (sh:=z32.l0sh) (so:=z32.l0sh) (F:=λR rec done x=>z32.l0P a rec done x) (enc:=λ(x':Int)=>Qb z32.l0sh [.li a,.i x',.li c]) [1] [1] b (by kernel_rfl) (by kernel_rfl) (λx=>by kernel_rfl) (λo=>by kernel_rfl) λR k d x'=>z32.l0_link R k d a (x') c
theorem Qvs:Qo (ifun Tryz.f107).body=true:=by kernel_rfl
theorem z32.loopsT (hI:InlOK Tryz.prog z32.C λR=>z32.C.inlK 6):LoopsOK z32.C (λR=>z32.C.inlK 6) 107 0 (ifun Tryz.f107).body:=by
 intro id b hm st p hp
 obtain rfl:=Qr Qvs hm
 unfold z32.C at hp
 simp only at hp
 try split at hp
 all_goals first
  |(simp at hp;done)
  |(exfalso;omega)
  |exact z32.l0_sound hI st p hp
theorem z32.hdec:Wa z33.dec z32.enc:=by
 intro v r h
 unfold z33.dec at h;split at h<;>cases h
 exact ⟨rfl,rfl⟩
theorem z32.sound:Sn z32.pack 107:=by
 intro vs p h;unfold z32.pack at h;split at h<;>cases h
 exact Qz Qd Qe rfl rfl rfl Qu ⟨Tryz.func107,rfl,by kernel_rfl⟩ z32.loopsT rfl (z32.link _) z32.hdec
theorem prim108:SoundP Tryz.prog 108 (cloneP (.ints true .u64 []) 63 8):=Qfv (C:=tabC) Qd (f:=Tryz.f108) (t:=35) ⟨Tryz.func108,rfl,by kernel_rfl⟩ rfl (by decide) (by kernel_rfl) (by kernel_rfl) (by kernel_rfl) (by decide) (by kernel_rfl) rfl rfl (by kernel_rfl)
theorem z33.inlF:InlF Tryz.prog z33.C where
 prim g h hp:=by
  unfold z33.C at hp;simp only at hp;split at hp
  ·simp only [Option.some.injEq] at hp;subst hp;exact prim108
  ·simp at hp
 fn g fn h:=by simp [z33.C] at h
 loops g fn h:=by simp [z33.C] at h
theorem z33.sound:Sn z33.pack 33:=by
 intro vs p h;unfold z33.pack at h;split at h<;>cases h
 exact Ws Qd Qe rfl (Qa z32.sound Qi) z33.inlF ⟨Tryz.func33,rfl,by kernel_rfl⟩ (λ_=>noLoops rfl _ _ _ _) rfl (z33.link _) z32.hdec
theorem z34.sound:Sn z34.pack 37:=by
 intro vs p h;unfold z34.pack at h;split at h<;>cases h
 exact Qj Qd Qe rfl rfl rfl rfl (Qa z33.sound (Qa z31.sound Qi)) ⟨Tryz.func37,rfl,by kernel_rfl⟩ rfl (z34.link _) z31.hdec
theorem z35.hdec:Wa z80.dec z35.enc:=by
 intro v r h
 unfold z80.dec at h;split at h<;>cases h
 exact ⟨rfl,rfl⟩
theorem z35.sound:Sn z35.pack 172:=by
 intro vs p h;unfold z35.pack at h;split at h<;>cases h
 exact Qj Qd Qe rfl rfl rfl rfl Qu ⟨Tryz.func172,rfl,by kernel_rfl⟩ rfl (z35.link _ _) z35.hdec
theorem z36.sound:Sn z36.pack 81:=by
 intro vs p h;unfold z36.pack at h;split at h<;>cases h
 exact Qj Qd Qe rfl rfl rfl rfl (Qa z31.sound Qi) ⟨Tryz.func81,rfl,by kernel_rfl⟩ rfl (z36.link _ _) z31.hdec
theorem z37.sound:Sn z37.pack 237:=by
 intro vs p h;unfold z37.pack at h;split at h<;>cases h
 exact Qj Qd Qe rfl rfl rfl rfl Qu ⟨Tryz.func237,rfl,by kernel_rfl⟩ rfl (z37.link _ _) z32.hdec
theorem z38.sound:Sn z38.pack 139:=by
 intro vs p h;unfold z38.pack at h;split at h<;>cases h
 exact Qj Qd Qe rfl rfl rfl rfl Qu ⟨Tryz.func139,rfl,by kernel_rfl⟩ rfl (z38.link _ _) (by intro v r h;unfold z38.dec at h;split at h<;>cases h;exact ⟨rfl,rfl⟩)
theorem z39.sound:Sn z39.pack 284:=by
 intro vs p h;unfold z39.pack at h;split at h<;>cases h
 exact Qj Qd Qe rfl rfl rfl rfl Qu ⟨Tryz.func284,rfl,by kernel_rfl⟩ rfl (z39.link _) z12.hdec
theorem z40.sound:Sn z40.pack 207:=by
 intro vs p h;unfold z40.pack at h;split at h<;>cases h
 exact Qj Qd Qe rfl rfl rfl rfl (Qa z39.sound Qi) ⟨Tryz.func207,rfl,by kernel_rfl⟩ rfl (z40.link _ _) z13.hdec
theorem z41.l0_sound (hI:InlOK Tryz.prog z41.C λR=>z41.C.inlK 6):Ql z41.C 6 140 0 0 (Qf 0 (ifun Tryz.f140).body) z41.l0sh z41.l0pack:=by
 refine Qm λls p h=>?_
 unfold z41.l0pack at h;split at h<;>cases h
 rename_i a b c e
 exact Yf hI (sh:=z41.l0sh) (so:=z41.l0sh) (so':=z41.l0so1) (F:=λR rec done x=>z41.l0P c e rec done x) (enc:=λ(x':Int)=>Qb z41.l0sh [.i a,.i x',.li c,.li e]) (.exit 0) [1] [1] [0] b (by kernel_rfl) (by kernel_rfl) (λx=>by kernel_rfl) (λo=>by kernel_rfl) (λo=>by kernel_rfl) λR k d x'=>z41.l0_link R k d a (x') c e
theorem Qo2:Qo (ifun Tryz.f140).body=true:=by kernel_rfl
theorem z41.loopsT (hI:InlOK Tryz.prog z41.C λR=>z41.C.inlK 6):LoopsOK z41.C (λR=>z41.C.inlK 6) 140 0 (ifun Tryz.f140).body:=by
 intro id b hm st p hp
 obtain rfl:=Qr Qo2 hm
 unfold z41.C at hp
 simp only at hp
 try split at hp
 all_goals first
  |(simp at hp;done)
  |(exfalso;omega)
  |exact z41.l0_sound hI st p hp
theorem z41.sound:Sn z41.pack 140:=by
 intro vs p h;unfold z41.pack at h;split at h<;>cases h
 exact Qz Qd Qe rfl rfl rfl (Qa z22.sound (Qa z40.sound Qi)) ⟨Tryz.func140,rfl,by kernel_rfl⟩ z41.loopsT rfl (z41.link _ _) z13.hdec
theorem z42.l0_sound (hI:InlOK Tryz.prog z42.C λR=>z42.C.inlK 6):Ql z42.C 6 69 0 0 (Qf 0 (ifun Tryz.f69).body) z42.l0sh z42.l0pack:=by
 refine Qm λls p h=>?_
 unfold z42.l0pack at h;split at h<;>cases h
 rename_i a c e g j m n q
 exact Qs hI (sh:=z42.l0sh) (so:=z42.l0sh) (F:=λR rec done x=>z42.l0P e j m rec done x) (enc:=λ(x':(Int×Int×J0))=>Qb z42.l0sh [.b a,.i x'.1,.i e,.i x'.2.1,.li j,.li m,.li n,.li x'.2.2]) [1,3,7] [1,3,7] (c,g,q) (by kernel_rfl) (by kernel_rfl) (λx=>by kernel_rfl) (λo=>by kernel_rfl) λR k d x'=>z42.l0_link R k d a (x'.1) e (x'.2.1) j m n (x'.2.2)
theorem Qt5:Qo (ifun Tryz.f69).body=true:=by kernel_rfl
theorem z42.loopsT (hI:InlOK Tryz.prog z42.C λR=>z42.C.inlK 6):LoopsOK z42.C (λR=>z42.C.inlK 6) 69 0 (ifun Tryz.f69).body:=by
 intro id b hm st p hp
 obtain rfl:=Qr Qt5 hm
 unfold z42.C at hp
 simp only at hp
 try split at hp
 all_goals first
  |(simp at hp;done)
  |(exfalso;omega)
  |exact z42.l0_sound hI st p hp
theorem z42.sound:Sn z42.pack 69:=by
 intro vs p h;unfold z42.pack at h;split at h<;>cases h
 exact Qz Qd Qe rfl rfl rfl (Qa z41.sound (Qa z38.sound (Qa z1.sound (Qa z32.sound Qi)))) ⟨Tryz.func69,rfl,by kernel_rfl⟩ z42.loopsT rfl (z42.link _ _) (by intro v r h;unfold z42.dec at h;split at h<;>cases h;exact ⟨rfl,rfl⟩)
theorem fun143:FunOK Tryz.prog 143 Tryz.f143 (ifun Tryz.f143).body:=⟨Tryz.func143,rfl,by kernel_rfl⟩
theorem z43.inlF:InlF Tryz.prog z43.C where
 prim g h hp:=by
  unfold z43.C at hp;simp only at hp;split at hp
  ·simp only [Option.some.injEq] at hp;subst hp;exact prim108
  ·simp at hp
 fn g fn h:=by simp [z43.C] at h
 loops g fn h:=by simp [z43.C] at h
theorem z43.sound:Sn z43.pack 143:=by
 intro vs p h;unfold z43.pack at h;split at h<;>cases h
 exact Ws Qd Qe rfl Qu z43.inlF fun143 (λ_=>noLoops rfl _ _ _ _) rfl (z43.link _) (by intro v r h;unfold z43.dec at h;split at h<;>cases h;exact ⟨rfl,rfl⟩)
theorem z44.sound:Sn z44.pack 324:=by
 intro vs p h;unfold z44.pack at h;split at h<;>cases h
 exact Qj Qd Qe rfl rfl rfl rfl Qu ⟨Tryz.func324,rfl,by kernel_rfl⟩ rfl (z44.link _) z13.hdec
theorem z45.sound:Sn z45.pack 286:=by
 intro vs p h;unfold z45.pack at h;split at h<;>cases h
 exact Qj Qd Qe rfl rfl rfl rfl (Qa z44.sound Qi) ⟨Tryz.func286,rfl,by kernel_rfl⟩ rfl (z45.link _) z13.hdec
theorem z46.l0_sound (hI:InlOK Tryz.prog z46.C λR=>z46.C.inlK 6):Ql z46.C 6 285 0 0 (Qf 0 (ifun Tryz.f285).body) z46.l0sh z46.l0pack:=by
 refine Qm λls p h=>?_
 unfold z46.l0pack at h;split at h<;>cases h
 rename_i a b c e g j m n q r s
 exact Qs hI (sh:=z46.l0sh) (so:=z46.l0sh) (F:=λR rec done x=>z46.l0P g j n rec done x) (enc:=λ(x':(Int×Int))=>Qb z46.l0sh [.i a,.i b,.i c,.i e,.i g,.i j,.i m,.i n,.i q,.i x'.1,.i x'.2]) [9,10] [9,10] (r,s) (by kernel_rfl) (by kernel_rfl) (λx=>by kernel_rfl) (λo=>by kernel_rfl) λR k d x'=>z46.l0_link R k d a b c e g j m n q (x'.1) (x'.2)
theorem z46.l2_sound (hI:InlOK Tryz.prog z46.C λR=>z46.C.inlK 6):Ql z46.C 6 285 2 0 (Qf 2 (ifun Tryz.f285).body) z46.l2sh z46.l2pack:=by
 refine Qm λls p h=>?_
 unfold z46.l2pack at h;split at h<;>cases h
 rename_i a b c e g j m n q r s
 exact Qs hI (sh:=z46.l2sh) (so:=z46.l2sh) (F:=λR rec done x=>z46.l2P g j m rec done x) (enc:=λ(x':(Int×Int))=>Qb z46.l2sh [.i a,.i b,.i c,.i e,.i g,.i j,.i m,.i n,.i x'.1,.i r,.i x'.2]) [8,10] [8,10] (q,s) (by kernel_rfl) (by kernel_rfl) (λx=>by kernel_rfl) (λo=>by kernel_rfl) λR k d x'=>z46.l2_link R k d a b c e g j m n (x'.1) r (x'.2)
theorem Quh:Qo (ifun Tryz.f285).body=true:=by kernel_rfl
theorem z46.loopsT (hI:InlOK Tryz.prog z46.C λR=>z46.C.inlK 6):LoopsOK z46.C (λR=>z46.C.inlK 6) 285 0 (ifun Tryz.f285).body:=by
 intro id b hm st p hp
 obtain rfl:=Qr Quh hm
 unfold z46.C at hp
 simp only at hp
 try split at hp
 all_goals first
  |(simp at hp;done)
  |(exfalso;omega)
  |exact z46.l0_sound hI st p hp
  |exact z46.l2_sound hI st p hp
theorem z46.hdec:Wa z46.dec z46.enc:=by
 intro v r h
 unfold z46.dec at h;split at h<;>cases h
 exact ⟨rfl,rfl⟩
theorem z46.sound:Sn z46.pack 285:=by
 intro vs p h;unfold z46.pack at h;split at h<;>cases h
 exact Qz Qd Qe rfl rfl rfl (Qa z45.sound Qi) ⟨Tryz.func285,rfl,by kernel_rfl⟩ z46.loopsT rfl (z46.link _ _ _) z46.hdec
theorem z47.l0_sound (hI:InlOK Tryz.prog z47.C λR=>z47.C.inlK 6):Ql z47.C 6 208 0 0 (Qf 0 (ifun Tryz.f208).body) z47.l0sh z47.l0pack:=by
 refine Qm λls p h=>?_
 unfold z47.l0pack at h;split at h<;>cases h
 rename_i a b c e g j m
 exact Qs hI (sh:=z47.l0sh) (so:=z47.l0sh) (F:=λR rec done x=>z47.l0P a b rec done x) (enc:=λ(x':(Int×Int×J0))=>Qb z47.l0sh [.li a,.i b,.i c,.i x'.1,.i x'.2.1,.li j,.li x'.2.2]) [3,4,6] [3,4,6] (e,g,m) (by kernel_rfl) (by kernel_rfl) (λx=>by kernel_rfl) (λo=>by kernel_rfl) λR k d x'=>z47.l0_link R k d a b c (x'.1) (x'.2.1) j (x'.2.2)
theorem Qtt:Qo (ifun Tryz.f208).body=true:=by kernel_rfl
theorem z47.loopsT (hI:InlOK Tryz.prog z47.C λR=>z47.C.inlK 6):LoopsOK z47.C (λR=>z47.C.inlK 6) 208 0 (ifun Tryz.f208).body:=by
 intro id b hm st p hp
 obtain rfl:=Qr Qtt hm
 unfold z47.C at hp
 simp only at hp
 try split at hp
 all_goals first
  |(simp at hp;done)
  |(exfalso;omega)
  |exact z47.l0_sound hI st p hp
theorem z47.sound:Sn z47.pack 208:=by
 intro vs p h;unfold z47.pack at h;split at h<;>cases h
 exact Qz Qd Qe rfl rfl rfl (Qa z46.sound Qi) ⟨Tryz.func208,rfl,by kernel_rfl⟩ z47.loopsT rfl (z47.link _ _) (by intro v r h;unfold z47.dec at h;split at h<;>cases h;exact ⟨rfl,rfl⟩)
theorem z48.sound:Sn z48.pack 325:=by
 intro vs p h;unfold z48.pack at h;split at h<;>cases h
 exact Qj Qd Qe rfl rfl rfl rfl Qu ⟨Tryz.func325,rfl,by kernel_rfl⟩ rfl (z48.link _) z12.hdec
theorem z49.l0_sound (hI:InlOK Tryz.prog z49.C λR=>z49.C.inlK 6):Ql z49.C 6 291 0 0 (Qf 0 (ifun Tryz.f291).body) z49.l0sh z49.l0pack:=by
 refine Qm λls p h=>?_
 unfold z49.l0pack at h;split at h<;>cases h
 rename_i a b c e g j m q
 exact Qs hI (sh:=z49.l0sh) (so:=z49.l0sh) (F:=λR rec done x=>z49.l0P b c e g rec done x) (enc:=λ(x':(Int×J0))=>Qb z49.l0sh [.i a,.n b,.n c,.i e,.i g,.i x'.1,.li m,.li x'.2]) [5,7] [5,7] (j,q) (by kernel_rfl) (by kernel_rfl) (λx=>by kernel_rfl) (λo=>by kernel_rfl) λR k d x'=>z49.l0_link R k d a b c e g (x'.1) m (x'.2)
theorem Qqm:Qo (ifun Tryz.f291).body=true:=by kernel_rfl
theorem z49.loopsT (hI:InlOK Tryz.prog z49.C λR=>z49.C.inlK 6):LoopsOK z49.C (λR=>z49.C.inlK 6) 291 0 (ifun Tryz.f291).body:=by
 intro id b hm st p hp
 obtain rfl:=Qr Qqm hm
 unfold z49.C at hp
 simp only at hp
 try split at hp
 all_goals first
  |(simp at hp;done)
  |(exfalso;omega)
  |exact z49.l0_sound hI st p hp
theorem z49.loops143 (hI:InlOK Tryz.prog z49.C λR=>z49.C.inlK 1) (base:Nat):LoopsOK z49.C (λR=>z49.C.inlK 1) 143 base (ifun Tryz.f143).body:=by
 intro id b hm st p hp
 exfalso
 unfold z49.C at hp
 simp only at hp
 try split at hp
 all_goals first|(simp at hp;done)|omega
theorem z49.inlF:InlF Tryz.prog z49.C where
 prim g h hp:=by
  unfold z49.C at hp;simp only at hp;split at hp
  ·simp only [Option.some.injEq] at hp;subst hp;exact prim108
  ·simp at hp
 fn g fn h:=by
  unfold z49.C at h;simp only at h;split at h
  ·simp only [Option.some.injEq] at h;subst h;exact ⟨_,_,fun143,rfl⟩
  ·simp at h
 loops g fn h:=by
  unfold z49.C at h;simp only at h;split at h
  ·simp only [Option.some.injEq] at h;subst h;exact λhI base=>z49.loops143 hI base
  ·simp at h
theorem z49.hdec:Wa z49.dec z49.enc:=by
 intro v r h
 unfold z49.dec at h;split at h<;>cases h
 exact ⟨rfl,rfl⟩
theorem z49.sound:Sn z49.pack 291:=by
 intro vs p h;unfold z49.pack at h;split at h<;>cases h
 exact Ws Qd Qe rfl (Qa z48.sound (Qa z33.sound Qi)) z49.inlF ⟨Tryz.func291,rfl,by kernel_rfl⟩ z49.loopsT rfl (z49.link _ _) z49.hdec
theorem z50.sound:Sn z50.pack 297:=by
 intro vs p h;unfold z50.pack at h;split at h<;>cases h
 exact Qj Qd Qe rfl rfl rfl rfl Qu ⟨Tryz.func297,rfl,by kernel_rfl⟩ rfl (z50.link _ _) z46.hdec
theorem z51.l0_sound (hI:InlOK Tryz.prog z51.C λR=>z51.C.inlK 0):Ql z51.C 0 287 0 2 (Qf 0 (ifun Tryz.f287).body) z51.l0sh z51.l0pack:=by
 refine Qm λls p h=>?_
 unfold z51.l0pack at h;split at h<;>cases h
 rename_i a b c e g j m n
 exact Qs hI (sh:=z51.l0sh) (so:=z51.l0sh) (F:=λR rec done x=>z51.l0P a b c rec done x) (enc:=λ(x':(Int×J0))=>Qb z51.l0sh [.i a,.li b,.i c,.i x'.1,.li g,.li j,.li m,.li x'.2]) [3,7] [3,7] (e,n) (by kernel_rfl) (by kernel_rfl) (λx=>by kernel_rfl) (λo=>by kernel_rfl) λR k d x'=>z51.l0_link R k d a b c (x'.1) g j m (x'.2)
theorem z51.l0a_sound (hI:InlOK Tryz.prog z51.C λR=>z51.C.inlK 0):Ql z51.C 0 287 0 4 (Qf 0 (ifun Tryz.f287).body) z51.l0ash z51.l0apack:=by
 refine Qm λls p h=>?_
 unfold z51.l0apack at h;split at h<;>cases h
 rename_i a b c e g j m n q r
 exact Qs hI (sh:=z51.l0ash) (so:=z51.l0ash) (F:=λR rec done x=>z51.l0aP a b c rec done x) (enc:=λ(x':(Int×J0))=>Qb z51.l0ash [.i a,.li b,.i c,.i x'.1,.li g,.li j,.li m,.li n,.li q,.li x'.2]) [3,9] [3,9] (e,r) (by kernel_rfl) (by kernel_rfl) (λx=>by kernel_rfl) (λo=>by kernel_rfl) λR k d x'=>z51.l0a_link R k d a b c (x'.1) g j m n q (x'.2)
theorem z51.l0b3_sound (hI:InlOK Tryz.prog z51.C λR=>z51.C.inlK 0):Ql z51.C 0 289 0 7 (Qf 0 (ifun Tryz.f289).body) z51.l0b3sh z51.l0b3pack:=by
 refine Qm λls p h=>?_
 unfold z51.l0b3pack at h;split at h<;>cases h
 rename_i a b c e g j m q r s t u v w y z A
 exact Qs hI (sh:=z51.l0b3sh) (so:=z51.l0b3sh) (F:=λR rec done x=>z51.l0b3P a b g r s t z rec done x) (enc:=λ(x':(Int×Int×Int×J0))=>Qb z51.l0b3sh [.n a,.n b,.n c,.n e,.i g,.i j,.i x'.1,.i x'.2.1,.n r,.n s,.i t,.i x'.2.2.1,.li v,.li w,.li x'.2.2.2,.li z,.li A]) [6,7,11,14] [6,7,11,14] (m,q,u,y) (by kernel_rfl) (by kernel_rfl) (λx=>by kernel_rfl) (λo=>by kernel_rfl) λR k d x'=>z51.l0b3_link R k d a b c e g j (x'.1) (x'.2.1) r s t (x'.2.2.1) v w (x'.2.2.2) z A
theorem z51.l0b4_sound (hI:InlOK Tryz.prog z51.C λR=>z51.C.inlK 0):Ql z51.C 0 290 0 7 (Qf 0 (ifun Tryz.f290).body) z51.l0b4sh z51.l0b4pack:=by
 refine Qm λls p h=>?_
 unfold z51.l0b4pack at h;split at h<;>cases h
 rename_i a b c e g j m q r s t u v w
 exact Qs hI (sh:=z51.l0b4sh) (so:=z51.l0b4sh) (F:=λR rec done x=>z51.l0b4P a b j m q v rec done x) (enc:=λ(x':(Int×Int×J0))=>Qb z51.l0b4sh [.n a,.n b,.n c,.n e,.i x'.1,.n j,.n m,.i q,.i x'.2.1,.li s,.li t,.li x'.2.2,.li v,.li w]) [4,8,11] [4,8,11] (g,r,u) (by kernel_rfl) (by kernel_rfl) (λx=>by kernel_rfl) (λo=>by kernel_rfl) λR k d x'=>z51.l0b4_link R k d a b c e (x'.1) j m q (x'.2.1) s t (x'.2.2) v w
theorem z51.l2_sound (hI:InlOK Tryz.prog z51.C λR=>z51.C.inlK 6):Ql z51.C 6 209 2 0 (Qf 2 (ifun Tryz.f209).body) z51.l2sh z51.l2pack:=by
 refine Qm λls p h=>?_
 unfold z51.l2pack at h;split at h<;>cases h
 rename_i a b c e g j m q r s t u v
 exact Qs hI (sh:=z51.l2sh) (so:=z51.l2sh) (F:=λR rec done x=>z51.l2P a b g j u rec done x) (enc:=λ(x':(Int×Int×J0))=>Qb z51.l2sh [.n a,.n b,.i c,.i e,.n g,.n j,.i x'.1,.i x'.2.1,.li r,.li s,.li x'.2.2,.li u,.li v]) [6,7,10] [6,7,10] (m,q,t) (by kernel_rfl) (by kernel_rfl) (λx=>by kernel_rfl) (λo=>by kernel_rfl) λR k d x'=>z51.l2_link R k d a b c e g j (x'.1) (x'.2.1) r s (x'.2.2) u v
theorem z51.l0aa_sound (hI:InlOK Tryz.prog z51.C λR=>z51.C.inlK 6):Ql z51.C 6 209 0 0 (Qf 0 (ifun Tryz.f209).body) z51.l0aash z51.l0aapack:=by
 refine Qm λls p h=>?_
 unfold z51.l0aapack at h;split at h<;>cases h
 rename_i a b c e g j m q r
 exact Qs hI (sh:=z51.l0aash) (so:=z51.l0aash) (F:=λR rec done x=>z51.l0aaP a b q rec done x) (enc:=λ(x':(Int×J0×J0))=>Qb z51.l0aash [.n a,.n b,.i c,.i x'.1,.li g,.li j,.li x'.2.1,.li q,.li x'.2.2]) [3,6,8] [3,6,8] (e,m,r) (by kernel_rfl) (by kernel_rfl) (λx=>by kernel_rfl) (λo=>by kernel_rfl) λR k d x'=>z51.l0aa_link R k d a b c (x'.1) g j (x'.2.1) q (x'.2.2)
theorem Qn9:Qo (ifun Tryz.f209).body=true:=by kernel_rfl
theorem Qqf:Qo (ifun Tryz.f287).body=true:=by kernel_rfl
theorem Qoa:Qo (ifun Tryz.f289).body=true:=by kernel_rfl
theorem Qq6:Qo (ifun Tryz.f290).body=true:=by kernel_rfl
theorem z51.loopsT (hI:InlOK Tryz.prog z51.C λR=>z51.C.inlK 6):LoopsOK z51.C (λR=>z51.C.inlK 6) 209 0 (ifun Tryz.f209).body:=by
 intro id b hm st p hp
 obtain rfl:=Qr Qn9 hm
 unfold z51.C at hp
 simp only at hp
 try split at hp
 all_goals first
  |(simp at hp;done)
  |(exfalso;omega)
  |exact z51.l2_sound hI st p hp
  |exact z51.l0aa_sound hI st p hp
theorem z51.loops287 (hI:InlOK Tryz.prog z51.C λR=>z51.C.inlK 0) (base:Nat):LoopsOK z51.C (λR=>z51.C.inlK 0) 287 base (ifun Tryz.f287).body:=by
 intro id b hm st p hp
 obtain rfl:=Qr Qqf hm
 unfold z51.C at hp
 simp only at hp
 by_cases hb2:base=2
 ·subst hb2
  try split at hp
  all_goals first
   |(simp at hp;done)
   |(exfalso;omega)
   |exact z51.l0_sound hI st p hp
 by_cases hb4:base=4
 ·subst hb4
  try split at hp
  all_goals first
   |(simp at hp;done)
   |(exfalso;omega)
   |exact z51.l0a_sound hI st p hp
 exfalso
 try split at hp
 all_goals first|(simp at hp;done)|omega
theorem z51.loops288 (hI:InlOK Tryz.prog z51.C λR=>z51.C.inlK 0) (base:Nat):LoopsOK z51.C (λR=>z51.C.inlK 0) 288 base (ifun Tryz.f288).body:=by
 intro id b hm st p hp
 exfalso
 unfold z51.C at hp
 simp only at hp
 try split at hp
 all_goals first|(simp at hp;done)|omega
theorem z51.loops289 (hI:InlOK Tryz.prog z51.C λR=>z51.C.inlK 0) (base:Nat):LoopsOK z51.C (λR=>z51.C.inlK 0) 289 base (ifun Tryz.f289).body:=by
 intro id b hm st p hp
 obtain rfl:=Qr Qoa hm
 unfold z51.C at hp
 simp only at hp
 try split at hp
 all_goals first
  |(simp at hp;done)
  |(exfalso;omega)
  |exact z51.l0b3_sound hI st p hp
theorem z51.loops290 (hI:InlOK Tryz.prog z51.C λR=>z51.C.inlK 0) (base:Nat):LoopsOK z51.C (λR=>z51.C.inlK 0) 290 base (ifun Tryz.f290).body:=by
 intro id b hm st p hp
 obtain rfl:=Qr Qq6 hm
 unfold z51.C at hp
 simp only at hp
 try split at hp
 all_goals first
  |(simp at hp;done)
  |(exfalso;omega)
  |exact z51.l0b4_sound hI st p hp
theorem z51.inlF:InlF Tryz.prog z51.C where
 prim g h hp:=by simp [z51.C] at hp
 fn g fn h:=by
  unfold z51.C at h;simp only at h;split at h
  ·simp only [Option.some.injEq] at h;subst h;exact ⟨_,_,⟨Tryz.func287,rfl,by kernel_rfl⟩,rfl⟩
  ·simp only [Option.some.injEq] at h;subst h;exact ⟨_,_,⟨Tryz.func288,rfl,by kernel_rfl⟩,rfl⟩
  ·simp only [Option.some.injEq] at h;subst h;exact ⟨_,_,⟨Tryz.func289,rfl,by kernel_rfl⟩,rfl⟩
  ·simp only [Option.some.injEq] at h;subst h;exact ⟨_,_,⟨Tryz.func290,rfl,by kernel_rfl⟩,rfl⟩
  ·simp at h
 loops g fn h:=by
  unfold z51.C at h;simp only at h;split at h
  ·simp only [Option.some.injEq] at h;subst h;exact λhI base=>z51.loops287 hI base
  ·simp only [Option.some.injEq] at h;subst h;exact λhI base=>z51.loops288 hI base
  ·simp only [Option.some.injEq] at h;subst h;exact λhI base=>z51.loops289 hI base
  ·simp only [Option.some.injEq] at h;subst h;exact λhI base=>z51.loops290 hI base
  ·simp at h
theorem z51.sound:Sn z51.pack 209:=by
 intro vs p h;unfold z51.pack at h;split at h<;>cases h
 exact Ws Qd Qe rfl (Qa z45.sound (Qa z50.sound (Qa z0.sound (Qa z1.sound (Qa z46.sound (Qa z33.sound (Qa z49.sound (Qa z43.sound Qi)))))))) z51.inlF ⟨Tryz.func209,rfl,by kernel_rfl⟩ z51.loopsT rfl (z51.link _ _) (by intro v r h;unfold z51.dec at h;split at h<;>cases h;exact ⟨rfl,rfl⟩)
theorem z52.sound:Sn z52.pack 142:=by
 intro vs p h;unfold z52.pack at h;split at h<;>cases h
 exact Qj Qd Qe rfl rfl rfl rfl (Qa z29.sound (Qa z41.sound (Qa z43.sound (Qa z47.sound (Qa z33.sound (Qa z51.sound Qi)))))) ⟨Tryz.func142,rfl,by kernel_rfl⟩ rfl (z52.link _ _) (by intro v r h;unfold z52.dec at h;split at h<;>cases h;exact ⟨rfl,rfl⟩)
theorem z53.l0_sound (hI:InlOK Tryz.prog z53.C λR=>z53.C.inlK 6):Ql z53.C 6 306 0 0 (Qf 0 (ifun Tryz.f306).body) z53.l0sh z53.l0pack:=by
 refine Qm λls p h=>?_
 unfold z53.l0pack at h;split at h<;>cases h
 rename_i a b c
 exact Qs hI (sh:=z53.l0sh) (so:=z53.l0sh) (F:=λR rec done x=>z53.l0P rec done x) (enc:=λ(x':(J0×J0))=>Qb z53.l0sh [.li x'.1,.li x'.2,.li c]) [0,1] [0,1] (a,b) (by kernel_rfl) (by kernel_rfl) (λx=>by kernel_rfl) (λo=>by kernel_rfl) λR k d x'=>z53.l0_link R k d (x'.1) (x'.2) c
theorem Qn4:Qo (ifun Tryz.f306).body=true:=by kernel_rfl
theorem z53.loopsT (hI:InlOK Tryz.prog z53.C λR=>z53.C.inlK 6):LoopsOK z53.C (λR=>z53.C.inlK 6) 306 0 (ifun Tryz.f306).body:=by
 intro id b hm st p hp
 obtain rfl:=Qr Qn4 hm
 unfold z53.C at hp
 simp only at hp
 try split at hp
 all_goals first
  |(simp at hp;done)
  |(exfalso;omega)
  |exact z53.l0_sound hI st p hp
theorem z53.sound:Sn z53.pack 306:=by
 intro vs p h;unfold z53.pack at h;split at h<;>cases h
 exact Qz Qd Qe rfl rfl rfl (Qa z29.sound (Qa z52.sound Qi)) ⟨Tryz.func306,rfl,by kernel_rfl⟩ z53.loopsT rfl (z53.link _ _) z32.hdec
theorem z54.sound:Sn z54.pack 243:=by
 intro vs p h;unfold z54.pack at h;split at h<;>cases h
 exact Qj Qd Qe rfl rfl rfl rfl (Qa z37.sound (Qa z53.sound (Qa z52.sound (Qa z33.sound (Qa z42.sound (Qa z30.sound (Qa z31.sound Qi))))))) ⟨Tryz.func243,rfl,by kernel_rfl⟩ rfl (z54.link _ _ _) z35.hdec
theorem z55.hdec:Wa z81.dec z55.enc:=by
 intro v r h
 unfold z81.dec at h;split at h<;>cases h
 exact ⟨rfl,rfl⟩
theorem z55.sound:Sn z55.pack 174:=by
 intro vs p h;unfold z55.pack at h;split at h<;>cases h
 exact Qj Qd Qe rfl rfl rfl rfl (Qa z30.sound (Qa z36.sound (Qa z37.sound (Qa z54.sound Qi)))) ⟨Tryz.func174,rfl,by kernel_rfl⟩ rfl (z55.link _ _ _ _) z55.hdec
theorem z56.l0a_sound (hI:InlOK Tryz.prog z56.C λR=>z56.C.inlK 0):Ql z56.C 0 223 0 4 (Qf 0 (ifun Tryz.f223).body) z56.l0ash z56.l0apack:=by
 refine Qm λls p h=>?_
 unfold z56.l0apack at h;split at h<;>cases h
 rename_i a b c e g j m q r s t
 exact Qs hI (sh:=z56.l0ash) (so:=z56.l0ash) (F:=λR rec done x=>z56.l0aP a b c g j rec done x) (enc:=λ(x':(Int×Int×J0))=>Qb z56.l0ash [.i a,.n b,.n c,.i x'.1,.li g,.i j,.i x'.2.1,.li q,.li r,.li x'.2.2,.li t]) [3,6,9] [3,6,9] (e,m,s) (by kernel_rfl) (by kernel_rfl) (λx=>by kernel_rfl) (λo=>by kernel_rfl) λR k d x'=>z56.l0a_link R k d a b c (x'.1) g j (x'.2.1) q r (x'.2.2) t
theorem z56.l0_sound (hI:InlOK Tryz.prog z56.C λR=>z56.C.inlK 6):Ql z56.C 6 161 0 0 (Qf 0 (ifun Tryz.f161).body) z56.l0sh z56.l0pack:=by
 refine Qm λls p h=>?_
 unfold z56.l0pack at h;split at h<;>cases h
 rename_i a b c e g j
 exact Qs hI (sh:=z56.l0sh) (so:=z56.l0sh) (F:=λR rec done x=>z56.l0P a b e rec done x) (enc:=λ(x':(Int×J0))=>Qb z56.l0sh [.li a,.i b,.i x'.1,.li e,.li g,.li x'.2]) [2,5] [2,5] (c,j) (by kernel_rfl) (by kernel_rfl) (λx=>by kernel_rfl) (λo=>by kernel_rfl) λR k d x'=>z56.l0_link R k d a b (x'.1) e g (x'.2)
theorem Qu5:Qo (ifun Tryz.f161).body=true:=by kernel_rfl
theorem Qpz:Qo (ifun Tryz.f223).body=true:=by kernel_rfl
theorem z56.loopsT (hI:InlOK Tryz.prog z56.C λR=>z56.C.inlK 6):LoopsOK z56.C (λR=>z56.C.inlK 6) 161 0 (ifun Tryz.f161).body:=by
 intro id b hm st p hp
 obtain rfl:=Qr Qu5 hm
 unfold z56.C at hp
 simp only at hp
 try split at hp
 all_goals first
  |(simp at hp;done)
  |(exfalso;omega)
  |exact z56.l0_sound hI st p hp
theorem z56.loops223 (hI:InlOK Tryz.prog z56.C λR=>z56.C.inlK 0) (base:Nat):LoopsOK z56.C (λR=>z56.C.inlK 0) 223 base (ifun Tryz.f223).body:=by
 intro id b hm st p hp
 obtain rfl:=Qr Qpz hm
 unfold z56.C at hp
 simp only at hp
 try split at hp
 all_goals first
  |(simp at hp;done)
  |(exfalso;omega)
  |exact z56.l0a_sound hI st p hp
theorem z56.inlF:InlF Tryz.prog z56.C where
 prim g h hp:=by simp [z56.C] at hp
 fn g fn h:=by
  unfold z56.C at h;simp only at h;split at h
  ·simp only [Option.some.injEq] at h;subst h;exact ⟨_,_,⟨Tryz.func223,rfl,by kernel_rfl⟩,rfl⟩
  ·simp at h
 loops g fn h:=by
  unfold z56.C at h;simp only at h;split at h
  ·simp only [Option.some.injEq] at h;subst h;exact λhI base=>z56.loops223 hI base
  ·simp at h
theorem z56.sound:Sn z56.pack 161:=by
 intro vs p h;unfold z56.pack at h;split at h<;>cases h
 exact Ws Qd Qe rfl (Qa z50.sound (Qa z0.sound (Qa z32.sound Qi))) z56.inlF ⟨Tryz.func161,rfl,by kernel_rfl⟩ z56.loopsT rfl (z56.link _ _) z32.hdec
theorem z57.sound:Sn z57.pack 239:=by
 intro vs p h;unfold z57.pack at h;split at h<;>cases h
 exact Qj Qd Qe rfl rfl rfl rfl (Qa z56.sound (Qa z31.sound Qi)) ⟨Tryz.func239,rfl,by kernel_rfl⟩ rfl (z57.link _ _ _ _) z31.hdec
theorem z58.l0_sound (hI:InlOK Tryz.prog z58.C λR=>z58.C.inlK 6):Ql z58.C 6 68 0 0 (Qf 0 (ifun Tryz.f68).body) z58.l0sh z58.l0pack:=by
 refine Qm λls p h=>?_
 unfold z58.l0pack at h;split at h<;>cases h
 rename_i a b c e g j m
 exact Qs hI (sh:=z58.l0sh) (so:=z58.l0sh) (F:=λR rec done x=>z58.l0P b e g rec done x) (enc:=λ(x':(Int×Int×J0))=>Qb z58.l0sh [.i x'.1,.i b,.i x'.2.1,.li e,.li g,.li j,.li x'.2.2]) [0,2,6] [0,2,6] (a,c,m) (by kernel_rfl) (by kernel_rfl) (λx=>by kernel_rfl) (λo=>by kernel_rfl) λR k d x'=>z58.l0_link R k d (x'.1) b (x'.2.1) e g j (x'.2.2)
theorem Quq:Qo (ifun Tryz.f68).body=true:=by kernel_rfl
theorem z58.loopsT (hI:InlOK Tryz.prog z58.C λR=>z58.C.inlK 6):LoopsOK z58.C (λR=>z58.C.inlK 6) 68 0 (ifun Tryz.f68).body:=by
 intro id b hm st p hp
 obtain rfl:=Qr Quq hm
 unfold z58.C at hp
 simp only at hp
 try split at hp
 all_goals first
  |(simp at hp;done)
  |(exfalso;omega)
  |exact z58.l0_sound hI st p hp
theorem z58.sound:Sn z58.pack 68:=by
 intro vs p h;unfold z58.pack at h;split at h<;>cases h
 exact Qz Qd Qe rfl rfl rfl (Qa z38.sound (Qa z0.sound (Qa z32.sound Qi))) ⟨Tryz.func68,rfl,by kernel_rfl⟩ z58.loopsT rfl (z58.link _ _) z32.hdec
theorem z59.sound:Sn z59.pack 235:=by
 intro vs p h;unfold z59.pack at h;split at h<;>cases h
 exact Qj Qd Qe rfl rfl rfl rfl (Qa z33.sound (Qa z58.sound Qi)) ⟨Tryz.func235,rfl,by kernel_rfl⟩ rfl (z59.link _ _ _) z32.hdec
theorem z60.sound:Sn z60.pack 304:=by
 intro vs p h;unfold z60.pack at h;split at h<;>cases h
 exact Qj Qd Qe rfl rfl rfl rfl (Qa z59.sound (Qa z31.sound Qi)) ⟨Tryz.func304,rfl,by kernel_rfl⟩ rfl (z60.link _ _ _) z31.hdec
theorem z61.sound:Sn z61.pack 234:=by
 intro vs p h;unfold z61.pack at h;split at h<;>cases h
 exact Qj Qd Qe rfl rfl rfl rfl (Qa z60.sound (Qa z57.sound (Qa z55.sound Qi))) ⟨Tryz.func234,rfl,by kernel_rfl⟩ rfl (z61.link _ _ _ _ _ _) z55.hdec
theorem z62.sound:Sn z62.pack 124:=by
 intro vs p h;unfold z62.pack at h;split at h<;>cases h
 exact Qj Qd Qe rfl rfl rfl rfl Qu ⟨Tryz.func124,rfl,by kernel_rfl⟩ rfl (z62.link _ _) z12.hdec
theorem z63.hdec:Wa z63.dec z63.enc:=by
 intro v r h
 unfold z63.dec at h;split at h<;>cases h
 exact ⟨rfl,rfl⟩
theorem z63.sound:Sn z63.pack 159:=by
 intro vs p h;unfold z63.pack at h;split at h<;>cases h
 exact Qj Qd Qe rfl rfl rfl rfl (Qa z62.sound Qi) ⟨Tryz.func159,rfl,by kernel_rfl⟩ rfl (z63.link _ _) z63.hdec
theorem z64.sound:Sn z64.pack 92:=by
 intro vs p h;unfold z64.pack at h;split at h<;>cases h
 exact Qj Qd Qe rfl rfl rfl rfl (Qa z63.sound Qi) ⟨Tryz.func92,rfl,by kernel_rfl⟩ rfl (z64.link _ _) z63.hdec
theorem z65.l2_sound (hI:InlOK Tryz.prog z65.C λR=>z65.C.inlK 6):Ql z65.C 6 93 2 0 (Qf 2 (ifun Tryz.f93).body) z65.l2sh z65.l2pack:=by
 refine Qm λls p h=>?_
 unfold z65.l2pack at h;split at h<;>cases h
 rename_i a b c e g j m q
 exact Qs hI (sh:=z65.l2sh) (so:=z65.l2sh) (F:=λR rec done x=>z65.l2P m rec done x) (enc:=λ(x':(Int×Nat))=>Qb z65.l2sh [.s a,.i b,.i c,.i x'.1,.li g,.li j,.s m,.n x'.2]) [3,7] [3,7] (e,q) (by kernel_rfl) (by kernel_rfl) (λx=>by kernel_rfl) (λo=>by kernel_rfl) λR k d x'=>z65.l2_link R k d a b c (x'.1) g j m (x'.2)
theorem z65.l2a_sound (hI:InlOK Tryz.prog z65.C λR=>z65.C.inlK 6):Ql z65.C 6 93 2 0 (Qf 2 (ifun Tryz.f93).body) z65.l2ash z65.l2apack:=by
 refine Qm λls p h=>?_
 unfold z65.l2apack at h;split at h<;>cases h
 rename_i a c e g j m q r t u
 exact Qs hI (sh:=z65.l2ash) (so:=z65.l2ash) (F:=λR rec done x=>z65.l2aP t rec done x) (enc:=λ(x':(Int×Nat))=>Qb z65.l2ash [.s a,.i c,.i e,.i x'.1,.i j,.b m,.li q,.li r,.s t,.n x'.2]) [3,9] [3,9] (g,u) (by kernel_rfl) (by kernel_rfl) (λx=>by kernel_rfl) (λo=>by kernel_rfl) λR k d x'=>z65.l2a_link R k d a c e (x'.1) j m q r t (x'.2)
theorem z65.l0_sound (hI:InlOK Tryz.prog z65.C λR=>z65.C.inlK 6):Ql z65.C 6 93 0 0 (Qf 0 (ifun Tryz.f93).body) z65.l0sh z65.l0pack:=by
 refine Qm λls p h=>?_
 unfold z65.l0pack at h;split at h<;>cases h
 rename_i a c e g j
 exact Qs hI (sh:=z65.l0sh) (so:=z65.l0sh) (F:=λR rec done x=>z65.l0P rec done x) (enc:=λ(x':(J1×Bool×J0))=>Qb z65.l0sh [.s x'.1,.i c,.b x'.2.1,.li g,.li x'.2.2]) [0,2,4] [0,2,4] (a,e,j) (by kernel_rfl) (by kernel_rfl) (λx=>by kernel_rfl) (λo=>by kernel_rfl) λR k d x'=>z65.l0_link R k d (x'.1) c (x'.2.1) g (x'.2.2)
theorem Qvl:Qo (ifun Tryz.f93).body=true:=by kernel_rfl
theorem z65.loopsT (hI:InlOK Tryz.prog z65.C λR=>z65.C.inlK 6):LoopsOK z65.C (λR=>z65.C.inlK 6) 93 0 (ifun Tryz.f93).body:=by
 intro id b hm st p hp
 obtain rfl:=Qr Qvl hm
 unfold z65.C at hp
 simp only at hp
 try split at hp
 all_goals first
  |(simp at hp;done)
  |(exfalso;omega)
  |exact (orP_some hp).elim (λh=>z65.l2_sound hI st p h) (λh=>z65.l2a_sound hI st p h)
  |exact z65.l0_sound hI st p hp
theorem z65.sound:Sn z65.pack 93:=by
 intro vs p h;unfold z65.pack at h;split at h<;>cases h
 exact Qz Qd Qe rfl rfl rfl (Qa z4.sound (Qa z33.sound (Qa z56.sound (Qa z58.sound Qi)))) ⟨Tryz.func93,rfl,by kernel_rfl⟩ z65.loopsT rfl (z65.link _) z49.hdec
theorem z66.sound:Sn z66.pack 310:=by
 intro vs p h;unfold z66.pack at h;split at h<;>cases h
 exact Qj Qd Qe rfl rfl rfl rfl (Qa z4.sound Qi) ⟨Tryz.func310,rfl,by kernel_rfl⟩ rfl (z66.link _) z12.hdec
theorem fun197:FunOK Tryz.prog 197 Tryz.f197 (ifun Tryz.f197).body:=⟨Tryz.func197,rfl,by kernel_rfl⟩
theorem fun272:FunOK Tryz.prog 272 Tryz.f272 (ifun Tryz.f272).body:=⟨Tryz.func272,rfl,by kernel_rfl⟩
theorem z67.inlF:InlF Tryz.prog z67.C where
 prim g h hp:=by simp [z67.C] at hp
 fn g fn h:=by
  unfold z67.C at h;simp only at h;split at h
  ·simp only [Option.some.injEq] at h;subst h;exact ⟨_,_,⟨Tryz.func309,rfl,by kernel_rfl⟩,rfl⟩
  ·simp only [Option.some.injEq] at h;subst h;exact ⟨_,_,⟨Tryz.func329,rfl,by kernel_rfl⟩,rfl⟩
  ·simp only [Option.some.injEq] at h;subst h;exact ⟨_,_,fun197,rfl⟩
  ·simp only [Option.some.injEq] at h;subst h;exact ⟨_,_,fun272,rfl⟩
  ·simp at h
 loops g fn h:=by
  unfold z67.C at h;simp only at h;split at h
  ·simp only [Option.some.injEq] at h;subst h;exact λhI base=>noLoops rfl _ _ _ _
  ·simp only [Option.some.injEq] at h;subst h;exact λhI base=>noLoops rfl _ _ _ _
  ·simp only [Option.some.injEq] at h;subst h;exact λhI base=>noLoops rfl _ _ _ _
  ·simp only [Option.some.injEq] at h;subst h;exact λhI base=>noLoops rfl _ _ _ _
  ·simp at h
theorem z67.hdec:Wa z67.dec z67.enc:=by
 intro v r h
 unfold z67.dec at h;split at h<;>cases h
 exact ⟨rfl,rfl⟩
theorem z67.sound:Sn z67.pack 250:=by
 intro vs p h;unfold z67.pack at h;split at h<;>cases h
 exact Ws Qd Qe rfl (Qa z64.sound (Qa z66.sound (Qa z4.sound (Qa z5.sound (Qa z65.sound (Qa z31.sound (Qa z2.sound Qi))))))) z67.inlF ⟨Tryz.func250,rfl,by kernel_rfl⟩ (λ_=>noLoops rfl _ _ _ _) rfl (z67.link _) z67.hdec
theorem z68.sound:Sn z68.pack 311:=by
 intro vs p h;unfold z68.pack at h;split at h<;>cases h
 exact Qj Qd Qe rfl rfl rfl rfl Qu ⟨Tryz.func311,rfl,by kernel_rfl⟩ rfl (z68.link _) z12.hdec
theorem z69.sound:Sn z69.pack 251:=by
 intro vs p h;unfold z69.pack at h;split at h<;>cases h
 exact Qj Qd Qe rfl rfl rfl rfl (Qa z68.sound Qi) ⟨Tryz.func251,rfl,by kernel_rfl⟩ rfl (z69.link _ _ _) z67.hdec
theorem z70.sound:Sn z70.pack 252:=by
 intro vs p h;unfold z70.pack at h;split at h<;>cases h
 exact Qj Qd Qe rfl rfl rfl rfl Qu ⟨Tryz.func252,rfl,by kernel_rfl⟩ rfl (z70.link _ _ _) z31.hdec
theorem z71.sound:Sn z71.pack 12:=by
 intro vs p h;unfold z71.pack at h;split at h<;>cases h
 exact Qj Qd Qe rfl rfl rfl rfl (Qa z58.sound (Qa z31.sound (Qa z42.sound Qi))) ⟨Tryz.func12,rfl,by kernel_rfl⟩ rfl (z71.link _ _ _ _) z31.hdec
theorem z72.sound:Sn z72.pack 132:=by
 intro vs p h;unfold z72.pack at h;split at h<;>cases h
 exact Qj Qd Qe rfl rfl rfl rfl (Qa z36.sound (Qa z71.sound Qi)) ⟨Tryz.func132,rfl,by kernel_rfl⟩ rfl (z72.link _ _ _ _) z31.hdec
theorem z73.sound:Sn z73.pack 155:=by
 intro vs p h;unfold z73.pack at h;split at h<;>cases h
 exact Qj Qd Qe rfl rfl rfl rfl (Qa z72.sound (Qa z30.sound Qi)) ⟨Tryz.func155,rfl,by kernel_rfl⟩ rfl (z73.link _ _ _ _) z13.hdec
theorem z74.l0_sound (hI:InlOK Tryz.prog z74.C λR=>z74.C.inlK 6):Ql z74.C 6 293 0 0 (Qf 0 (ifun Tryz.f293).body) z74.l0sh z74.l0pack:=by
 refine Qm λls p h=>?_
 unfold z74.l0pack at h;split at h<;>cases h
 rename_i a b c e
 exact Qs hI (sh:=z74.l0sh) (so:=z74.l0sh) (F:=λR rec done x=>z74.l0P rec done x) (enc:=λ(x':(Int×J0×J0))=>Qb z74.l0sh [.i x'.1,.li x'.2.1,.li c,.li x'.2.2]) [0,1,3] [0,1,3] (a,b,e) (by kernel_rfl) (by kernel_rfl) (λx=>by kernel_rfl) (λo=>by kernel_rfl) λR k d x'=>z74.l0_link R k d (x'.1) (x'.2.1) c (x'.2.2)
theorem Qsl:Qo (ifun Tryz.f293).body=true:=by kernel_rfl
theorem z74.loopsT (hI:InlOK Tryz.prog z74.C λR=>z74.C.inlK 6):LoopsOK z74.C (λR=>z74.C.inlK 6) 293 0 (ifun Tryz.f293).body:=by
 intro id b hm st p hp
 obtain rfl:=Qr Qsl hm
 unfold z74.C at hp
 simp only at hp
 try split at hp
 all_goals first
  |(simp at hp;done)
  |(exfalso;omega)
  |exact z74.l0_sound hI st p hp
theorem z74.sound:Sn z74.pack 293:=by
 intro vs p h;unfold z74.pack at h;split at h<;>cases h
 exact Qz Qd Qe rfl rfl rfl (Qa z33.sound (Qa z56.sound Qi)) ⟨Tryz.func293,rfl,by kernel_rfl⟩ z74.loopsT rfl (z74.link _ _) z32.hdec
theorem z75.sound:Sn z75.pack 213:=by
 intro vs p h;unfold z75.pack at h;split at h<;>cases h
 exact Qj Qd Qe rfl rfl rfl rfl (Qa z33.sound (Qa z74.sound Qi)) ⟨Tryz.func213,rfl,by kernel_rfl⟩ rfl (z75.link _) z49.hdec
theorem z76.sound:Sn z76.pack 313:=by
 intro vs p h;unfold z76.pack at h;split at h<;>cases h
 exact Qj Qd Qe rfl rfl rfl rfl (Qa z75.sound (Qa z31.sound Qi)) ⟨Tryz.func313,rfl,by kernel_rfl⟩ rfl (z76.link _) z31.hdec
theorem z77.sound:Sn z77.pack 312:=by
 intro vs p h;unfold z77.pack at h;split at h<;>cases h
 exact Qj Qd Qe rfl rfl rfl rfl (Qa z76.sound (Qa z57.sound Qi)) ⟨Tryz.func312,rfl,by kernel_rfl⟩ rfl (z77.link _ _ _ _) z31.hdec
theorem z78.sound:Sn z78.pack 253:=by
 intro vs p h;unfold z78.pack at h;split at h<;>cases h
 exact Qj Qd Qe rfl rfl rfl rfl (Qa z77.sound (Qa z73.sound Qi)) ⟨Tryz.func253,rfl,by kernel_rfl⟩ rfl (z78.link _ _ _ _ _ _) z13.hdec
theorem z79.sound:Sn z79.pack 254:=by
 intro vs p h;unfold z79.pack at h;split at h<;>cases h
 exact Qj Qd Qe rfl rfl rfl rfl Qu ⟨Tryz.func254,rfl,by kernel_rfl⟩ rfl (z79.link _ _ _) z13.hdec
theorem z80.sound:Sn z80.pack 255:=by
 intro vs p h;unfold z80.pack at h;split at h<;>cases h
 exact Qj Qd Qe rfl rfl rfl rfl (Qa z76.sound (Qa z55.sound Qi)) ⟨Tryz.func255,rfl,by kernel_rfl⟩ rfl (z80.link _ _ _) z35.hdec
theorem z81.sound:Sn z81.pack 184:=by
 intro vs p h;unfold z81.pack at h;split at h<;>cases h
 exact Qj Qd Qe rfl rfl rfl rfl (Qa z67.sound (Qa z34.sound (Qa z69.sound (Qa z70.sound (Qa z30.sound (Qa z78.sound (Qa z79.sound (Qa z80.sound (Qa z35.sound (Qa z61.sound Qi)))))))))) ⟨Tryz.func184,rfl,by kernel_rfl⟩ rfl (z81.link _) z55.hdec
theorem z82.hdec:Wa z99.dec z82.enc:=by
 intro v r h
 unfold z99.dec at h;split at h<;>cases h
 exact ⟨rfl,rfl⟩
theorem z82.sound:Sn z82.pack 27:=by
 intro vs p h;unfold z82.pack at h;split at h<;>cases h
 exact Qj Qd Qe rfl rfl rfl rfl (Qa z64.sound (Qa z65.sound (Qa z29.sound (Qa z31.sound Qi)))) ⟨Tryz.func27,rfl,by kernel_rfl⟩ rfl (z82.link _) z82.hdec
theorem z83.sound:Sn z83.pack 156:=by
 intro vs p h;unfold z83.pack at h;split at h<;>cases h
 exact Qj Qd Qe rfl rfl rfl rfl (Qa z75.sound (Qa z31.sound Qi)) ⟨Tryz.func156,rfl,by kernel_rfl⟩ rfl z83.link z31.hdec
theorem z84.sound:Sn z84.pack 89:=by
 intro vs p h;unfold z84.pack at h;split at h<;>cases h
 exact Qj Qd Qe rfl rfl rfl rfl (Qa z82.sound (Qa z30.sound (Qa z83.sound (Qa z73.sound Qi)))) ⟨Tryz.func89,rfl,by kernel_rfl⟩ rfl (z84.link _) z82.hdec
theorem z85.sound:Sn z85.pack 292:=by
 intro vs p h;unfold z85.pack at h;split at h<;>cases h
 exact Qj Qd Qe rfl rfl rfl rfl (Qa z84.sound (Qa z30.sound Qi)) ⟨Tryz.func292,rfl,by kernel_rfl⟩ rfl (z85.link _) z13.hdec
theorem z86.sound:Sn z86.pack 212:=by
 intro vs p h;unfold z86.pack at h;split at h<;>cases h
 exact Qj Qd Qe rfl rfl rfl rfl (Qa z85.sound (Qa z81.sound Qi)) ⟨Tryz.func212,rfl,by kernel_rfl⟩ rfl (z86.link _ _ _ _ _) z13.hdec
theorem z87.sound:Sn z87.pack 154:=by
 intro vs p h;unfold z87.pack at h;split at h<;>cases h
 exact Qj Qd Qe rfl rfl rfl rfl (Qa z28.sound (Qa z24.sound (Qa z86.sound Qi))) ⟨Tryz.func154,rfl,by kernel_rfl⟩ rfl (z87.link _ _ _ _ _ _ _ _) z13.hdec
theorem z88.l0_sound (hI:InlOK Tryz.prog z88.C λR=>z88.C.inlK 6):Ql z88.C 6 87 0 0 (Qf 0 (ifun Tryz.f87).body) z88.l0sh z88.l0pack:=by
 refine Qm λls p h=>?_
 unfold z88.l0pack at h;split at h<;>cases h
 rename_i a b c e g j m n
 exact Yf hI (sh:=z88.l0sh) (so:=z88.l0sh) (so':=z88.l0so1) (F:=λR rec done x=>z88.l0P c e rec done x) (enc:=λ(x':(Int×Int×Int×Int))=>Qb z88.l0sh [.i a,.i b,.lr c,.i e,.i x'.1,.i x'.2.1,.i x'.2.2.1,.i x'.2.2.2]) (.exit 0) [4,5,6,7] [4,5,6,7] [0,1,2,3,4] (g,j,m,n) (by kernel_rfl) (by kernel_rfl) (λx=>by kernel_rfl) (λo=>by kernel_rfl) (λo=>by kernel_rfl) λR k d x'=>z88.l0_link R k d a b c e (x'.1) (x'.2.1) (x'.2.2.1) (x'.2.2.2)
theorem Qot:Qo (ifun Tryz.f87).body=true:=by kernel_rfl
theorem z88.loopsT (hI:InlOK Tryz.prog z88.C λR=>z88.C.inlK 6):LoopsOK z88.C (λR=>z88.C.inlK 6) 87 0 (ifun Tryz.f87).body:=by
 intro id b hm st p hp
 obtain rfl:=Qr Qot hm
 unfold z88.C at hp
 simp only at hp
 try split at hp
 all_goals first
  |(simp at hp;done)
  |(exfalso;omega)
  |exact z88.l0_sound hI st p hp
theorem z88.sound:Sn z88.pack 87:=by
 intro vs p h;unfold z88.pack at h;split at h<;>cases h
 exact Qz Qd Qe rfl rfl rfl (Qa z87.sound Qi) ⟨Tryz.func87,rfl,by kernel_rfl⟩ z88.loopsT rfl (z88.link _) (by intro v r h;unfold z88.dec at h;split at h<;>cases h;exact ⟨rfl,rfl⟩)
theorem z89.l0_sound (hI:InlOK Tryz.prog z89.C λR=>z89.C.inlK 0):Ql z89.C 0 257 0 2 (Qf 0 (ifun Tryz.f257).body) z89.l0sh z89.l0pack:=by
 refine Qm λls p h=>?_
 unfold z89.l0pack at h;split at h<;>cases h
 rename_i a b c e g j m q
 exact Qs hI (sh:=z89.l0sh) (so:=z89.l0sh) (F:=λR rec done x=>z89.l0P a b rec done x) (enc:=λ(x':(Int×Int×J0))=>Qb z89.l0sh [.n a,.n b,.i x'.1,.i x'.2.1,.i g,.i j,.i m,.li x'.2.2]) [2,3,7] [2,3,7] (c,e,q) (by kernel_rfl) (by kernel_rfl) (λx=>by kernel_rfl) (λo=>by kernel_rfl) λR k d x'=>z89.l0_link R k d a b (x'.1) (x'.2.1) g j m (x'.2.2)
theorem Qrw:Qo (ifun Tryz.f257).body=true:=by kernel_rfl
theorem z89.loops257 (hI:InlOK Tryz.prog z89.C λR=>z89.C.inlK 0) (base:Nat):LoopsOK z89.C (λR=>z89.C.inlK 0) 257 base (ifun Tryz.f257).body:=by
 intro id b hm st p hp
 obtain rfl:=Qr Qrw hm
 unfold z89.C at hp
 simp only at hp
 try split at hp
 all_goals first
  |(simp at hp;done)
  |(exfalso;omega)
  |exact z89.l0_sound hI st p hp
theorem z89.inlF:InlF Tryz.prog z89.C where
 prim g h hp:=by simp [z89.C] at hp
 fn g fn h:=by
  unfold z89.C at h;simp only at h;split at h
  ·simp only [Option.some.injEq] at h;subst h;exact ⟨_,_,⟨Tryz.func257,rfl,by kernel_rfl⟩,rfl⟩
  ·simp at h
 loops g fn h:=by
  unfold z89.C at h;simp only at h;split at h
  ·simp only [Option.some.injEq] at h;subst h;exact λhI base=>z89.loops257 hI base
  ·simp at h
theorem z89.hdec:Wa z89.dec z89.enc:=by
 intro v r h
 unfold z89.dec at h;split at h<;>cases h
 exact ⟨rfl,rfl⟩
theorem z89.noTop:LoopsOK z89.C (λR=>z89.C.inlK 6) 186 0 (ifun Tryz.f186).body:=by
 intro id b hm st p hp
 exfalso
 unfold z89.C at hp
 simp only at hp
 try split at hp
 all_goals first|(simp at hp;done)|omega
theorem z89.sound:Sn z89.pack 186:=by
 intro vs p h;unfold z89.pack at h;split at h<;>cases h
 exact Ws Qd Qe rfl (Qa z28.sound Qi) z89.inlF ⟨Tryz.func186,rfl,by kernel_rfl⟩ (λ_=>z89.noTop) rfl (z89.link _ _ _) z89.hdec
theorem z90.sound:Sn z90.pack 187:=by
 intro vs p h;unfold z90.pack at h;split at h<;>cases h
 exact Qj Qd Qe rfl rfl rfl rfl Qu ⟨Tryz.func187,rfl,by kernel_rfl⟩ rfl z90.link (by intro v r h;unfold z8.dec at h;split at h<;>cases h;exact ⟨rfl,rfl⟩)
theorem z91.l0_sound (hI:InlOK Tryz.prog z91.C λR=>z91.C.inlK 6):Ql z91.C 6 144 0 0 (Qf 0 (ifun Tryz.f144).body) z91.l0sh z91.l0pack:=by
 refine Qm λls p h=>?_
 unfold z91.l0pack at h;split at h<;>cases h
 rename_i a b c e g
 exact Qs hI (sh:=z91.l0sh) (so:=z91.l0sh) (F:=λR rec done x=>z91.l0P b rec done x) (enc:=λ(x':(Int×Int×J0))=>Qb z91.l0sh [.i x'.1,.i b,.s c,.i x'.2.1,.li x'.2.2]) [0,3,4] [0,3,4] (a,e,g) (by kernel_rfl) (by kernel_rfl) (λx=>by kernel_rfl) (λo=>by kernel_rfl) λR k d x'=>z91.l0_link R k d (x'.1) b c (x'.2.1) (x'.2.2)
theorem Qpt:Qo (ifun Tryz.f144).body=true:=by kernel_rfl
theorem z91.loopsT (hI:InlOK Tryz.prog z91.C λR=>z91.C.inlK 6):LoopsOK z91.C (λR=>z91.C.inlK 6) 144 0 (ifun Tryz.f144).body:=by
 intro id b hm st p hp
 obtain rfl:=Qr Qpt hm
 unfold z91.C at hp
 simp only at hp
 try split at hp
 all_goals first
  |(simp at hp;done)
  |(exfalso;omega)
  |exact z91.l0_sound hI st p hp
theorem z91.sound:Sn z91.pack 144:=by
 intro vs p h;unfold z91.pack at h;split at h<;>cases h
 exact Qz Qd Qe rfl rfl rfl Qu ⟨Tryz.func144,rfl,by kernel_rfl⟩ z91.loopsT rfl (z91.link _ _) z10.hdec
theorem z92.l2_sound (hI:InlOK Tryz.prog z92.C λR=>z92.C.inlK 6):Ql z92.C 6 70 2 0 (Qf 2 (ifun Tryz.f70).body) z92.l2sh z92.l2pack:=by
 refine Qm λls p h=>?_
 unfold z92.l2pack at h;split at h<;>cases h
 rename_i a b c e g j m n
 exact Qs hI (sh:=z92.l2sh) (so:=z92.l2sh) (F:=λR rec done x=>z92.l2P c e rec done x) (enc:=λ(x':(Int×Int))=>Qb z92.l2sh [.s a,.i x'.1,.li c,.i e,.i x'.2,.li j,.ls m,.li n]) [1,4] [1,4] (b,g) (by kernel_rfl) (by kernel_rfl) (λx=>by kernel_rfl) (λo=>by kernel_rfl) λR k d x'=>z92.l2_link R k d a (x'.1) c e (x'.2) j m n
theorem z92.l0_sound (hI:InlOK Tryz.prog z92.C λR=>z92.C.inlK 6):Ql z92.C 6 70 0 0 (Qf 0 (ifun Tryz.f70).body) z92.l0sh z92.l0pack:=by
 refine Qm λls p h=>?_
 unfold z92.l0pack at h;split at h<;>cases h
 rename_i a b c
 exact Qs hI (sh:=z92.l0sh) (so:=z92.l0sh) (F:=λR rec done x=>z92.l0P rec done x) (enc:=λ(x':(J0×(List J1)))=>Qb z92.l0sh [.s a,.li x'.1,.ls x'.2]) [1,2] [1,2] (b,c) (by kernel_rfl) (by kernel_rfl) (λx=>by kernel_rfl) (λo=>by kernel_rfl) λR k d x'=>z92.l0_link R k d a (x'.1) (x'.2)
theorem z92.l4_sound (hI:InlOK Tryz.prog z92.C λR=>z92.C.inlK 6):Ql z92.C 6 70 4 0 (Qf 4 (ifun Tryz.f70).body) z92.l4sh z92.l4pack:=by
 refine Qm λls p h=>?_
 unfold z92.l4pack at h;split at h<;>cases h
 rename_i a b c e
 exact Qs hI (sh:=z92.l4sh) (so:=z92.l4sh) (F:=λR rec done x=>z92.l4P c rec done x) (enc:=λ(x':(Int×J0))=>Qb z92.l4sh [.s a,.i x'.1,.ls c,.li x'.2]) [1,3] [1,3] (b,e) (by kernel_rfl) (by kernel_rfl) (λx=>by kernel_rfl) (λo=>by kernel_rfl) λR k d x'=>z92.l4_link R k d a (x'.1) c (x'.2)
theorem Qrt:Qo (ifun Tryz.f70).body=true:=by kernel_rfl
theorem fun119:FunOK Tryz.prog 119 Tryz.f119 (ifun Tryz.f119).body:=⟨Tryz.func119,rfl,by kernel_rfl⟩
theorem fun117:FunOK Tryz.prog 117 Tryz.f117 (ifun Tryz.f117).body:=⟨Tryz.func117,rfl,by kernel_rfl⟩
theorem z92.loopsT (hI:InlOK Tryz.prog z92.C λR=>z92.C.inlK 6):LoopsOK z92.C (λR=>z92.C.inlK 6) 70 0 (ifun Tryz.f70).body:=by
 intro id b hm st p hp
 obtain rfl:=Qr Qrt hm
 unfold z92.C at hp
 simp only at hp
 try split at hp
 all_goals first
  |(simp at hp;done)
  |(exfalso;omega)
  |exact z92.l2_sound hI st p hp
  |exact z92.l0_sound hI st p hp
  |exact z92.l4_sound hI st p hp
theorem z92.loops119 (hI:InlOK Tryz.prog z92.C λR=>z92.C.inlK 0) (base:Nat):LoopsOK z92.C (λR=>z92.C.inlK 0) 119 base (ifun Tryz.f119).body:=by
 intro id b hm st p hp
 exfalso
 unfold z92.C at hp
 simp only at hp
 try split at hp
 all_goals first|(simp at hp;done)|omega
theorem z92.loops117 (hI:InlOK Tryz.prog z92.C λR=>z92.C.inlK 1) (base:Nat):LoopsOK z92.C (λR=>z92.C.inlK 1) 117 base (ifun Tryz.f117).body:=by
 intro id b hm st p hp
 exfalso
 unfold z92.C at hp
 simp only at hp
 try split at hp
 all_goals first|(simp at hp;done)|omega
theorem prim185:SoundP Tryz.prog 185 (copyP 215):=Qsm
theorem z92.inlF:InlF Tryz.prog z92.C where
 prim g h hp:=by
  unfold z92.C at hp;simp only at hp;split at hp
  ·simp only [Option.some.injEq] at hp;subst hp;exact prim185
  ·simp at hp
 fn g fn h:=by
  unfold z92.C at h;simp only at h;split at h
  ·simp only [Option.some.injEq] at h;subst h;exact ⟨_,_,fun119,rfl⟩
  ·simp only [Option.some.injEq] at h;subst h;exact ⟨_,_,fun117,rfl⟩
  ·simp at h
 loops g fn h:=by
  unfold z92.C at h;simp only at h;split at h
  ·simp only [Option.some.injEq] at h;subst h;exact λhI base=>z92.loops119 hI base
  ·simp only [Option.some.injEq] at h;subst h;exact λhI base=>z92.loops117 hI base
  ·simp at h
theorem z92.sound:Sn z92.pack 70:=by
 intro vs p h;unfold z92.pack at h;split at h<;>cases h
 exact Ws Qd Qe rfl (Qa z29.sound (Qa z33.sound (Qa z52.sound (Qa z43.sound (Qa z91.sound Qi))))) z92.inlF ⟨Tryz.func70,rfl,by kernel_rfl⟩ z92.loopsT rfl (z92.link _) z10.hdec
theorem z93.sound:Sn z93.pack 13:=by
 intro vs p h;unfold z93.pack at h;split at h<;>cases h
 exact Qj Qd Qe rfl rfl rfl rfl (Qa z92.sound Qi) ⟨Tryz.func13,rfl,by kernel_rfl⟩ rfl (z93.link _ _) z10.hdec
theorem z94.sound:Sn z94.pack 258:=by
 intro vs p h;unfold z94.pack at h;split at h<;>cases h
 exact Qj Qd Qe rfl rfl rfl rfl (Qa z93.sound (Qa z64.sound (Qa z6.sound Qi))) ⟨Tryz.func258,rfl,by kernel_rfl⟩ rfl (z94.link _ _ _) z10.hdec
theorem z95.sound:Sn z95.pack 188:=by
 intro vs p h;unfold z95.pack at h;split at h<;>cases h
 exact Qj Qd Qe rfl rfl rfl rfl (Qa z69.sound (Qa z94.sound Qi)) ⟨Tryz.func188,rfl,by kernel_rfl⟩ rfl (z95.link _ _) z10.hdec
theorem z96.sound:Sn z96.pack 118:=by
 intro vs p h;unfold z96.pack at h;split at h<;>cases h
 exact Qj Qd Qe rfl rfl rfl rfl (Qa z89.sound (Qa z90.sound (Qa z82.sound (Qa z95.sound (Qa z7.sound Qi))))) ⟨Tryz.func118,rfl,by kernel_rfl⟩ rfl (z96.link _ _ _ _ _) z10.hdec
theorem z97.l0_sound (hI:InlOK Tryz.prog z97.C λR=>z97.C.inlK 6):Ql z97.C 6 48 0 0 (Qf 0 (ifun Tryz.f48).body) z97.l0sh z97.l0pack:=by
 refine Qm λls p h=>?_
 unfold z97.l0pack at h;split at h<;>cases h
 rename_i a b c e g j
 exact Qs hI (sh:=z97.l0sh) (so:=z97.l0sh) (F:=λR rec done x=>z97.l0P c e rec done x) (enc:=λ(x':(Int×J0))=>Qb z97.l0sh [.s a,.i b,.lr c,.i e,.i x'.1,.li x'.2]) [4,5] [4,5] (g,j) (by kernel_rfl) (by kernel_rfl) (λx=>by kernel_rfl) (λo=>by kernel_rfl) λR k d x'=>z97.l0_link R k d a b c e (x'.1) (x'.2)
theorem Qtr:Qo (ifun Tryz.f48).body=true:=by kernel_rfl
theorem z97.loopsT (hI:InlOK Tryz.prog z97.C λR=>z97.C.inlK 6):LoopsOK z97.C (λR=>z97.C.inlK 6) 48 0 (ifun Tryz.f48).body:=by
 intro id b hm st p hp
 obtain rfl:=Qr Qtr hm
 unfold z97.C at hp
 simp only at hp
 try split at hp
 all_goals first
  |(simp at hp;done)
  |(exfalso;omega)
  |exact z97.l0_sound hI st p hp
theorem z97.loops119 (hI:InlOK Tryz.prog z97.C λR=>z97.C.inlK 0) (base:Nat):LoopsOK z97.C (λR=>z97.C.inlK 0) 119 base (ifun Tryz.f119).body:=by
 intro id b hm st p hp
 exfalso
 unfold z97.C at hp
 simp only at hp
 try split at hp
 all_goals first|(simp at hp;done)|omega
theorem z97.loops117 (hI:InlOK Tryz.prog z97.C λR=>z97.C.inlK 1) (base:Nat):LoopsOK z97.C (λR=>z97.C.inlK 1) 117 base (ifun Tryz.f117).body:=by
 intro id b hm st p hp
 exfalso
 unfold z97.C at hp
 simp only at hp
 try split at hp
 all_goals first|(simp at hp;done)|omega
theorem z97.inlF:InlF Tryz.prog z97.C where
 prim g h hp:=by
  unfold z97.C at hp;simp only at hp;split at hp
  ·simp only [Option.some.injEq] at hp;subst hp;exact prim185
  ·simp at hp
 fn g fn h:=by
  unfold z97.C at h;simp only at h;split at h
  ·simp only [Option.some.injEq] at h;subst h;exact ⟨_,_,fun119,rfl⟩
  ·simp only [Option.some.injEq] at h;subst h;exact ⟨_,_,fun117,rfl⟩
  ·simp at h
 loops g fn h:=by
  unfold z97.C at h;simp only at h;split at h
  ·simp only [Option.some.injEq] at h;subst h;exact λhI base=>z97.loops119 hI base
  ·simp only [Option.some.injEq] at h;subst h;exact λhI base=>z97.loops117 hI base
  ·simp at h
theorem z97.sound:Sn z97.pack 48:=by
 intro vs p h;unfold z97.pack at h;split at h<;>cases h
 exact Ws Qd Qe rfl (Qa z88.sound (Qa z96.sound Qi)) z97.inlF ⟨Tryz.func48,rfl,by kernel_rfl⟩ z97.loopsT rfl (z97.link _) z89.hdec
theorem z98.inlF:InlF Tryz.prog z98.C where
 prim g h hp:=by simp [z98.C] at hp
 fn g fn h:=by simp [z98.C] at h
 loops g fn h:=by simp [z98.C] at h
theorem z98.sound:SoundP Tryz.prog 192 (blkP [227] z98.pk):=by
 refine Qe4 Qd Qe rfl Qu z98.inlF ⟨Tryz.func192,rfl,by kernel_rfl⟩ rfl λcss rest p h=>?_
 unfold z98.pk at h;split at h<;>cases h
 exact ⟨_,_,z98.dec,rfl,rfl,z98.link _ _ _,λv css' r h=>by unfold z98.dec at h;split at h<;>cases h;exact ⟨rfl,rfl,rfl⟩⟩
theorem z99.sound:Sn z99.pack 270:=by
 intro vs p h;unfold z99.pack at h;split at h<;>cases h
 exact Qj Qd Qe rfl rfl rfl rfl (Qa z67.sound (Qa z79.sound (Qa z70.sound Qi))) ⟨Tryz.func270,rfl,by kernel_rfl⟩ rfl (z99.link _) z82.hdec
theorem z100.inlF:InlF Tryz.prog z100.C where
 prim g h hp:=by
  unfold z100.C at hp;simp only at hp;split at hp
  ·simp only [Option.some.injEq] at hp;subst hp;exact z98.sound
  ·simp at hp
 fn g fn h:=by simp [z100.C] at h
 loops g fn h:=by simp [z100.C] at h
theorem z100.sound:SoundP Tryz.prog 195 (blkP [227,85] z100.pk):=by
 refine Qe4 Qd Qe rfl (Qa z86.sound (Qa z99.sound (Qa z93.sound Qi))) z100.inlF ⟨Tryz.func195,rfl,by kernel_rfl⟩ rfl λcss rest p h=>?_
 unfold z100.pk at h;split at h<;>cases h
 exact ⟨_,_,z100.dec,rfl,rfl,z100.link _ _ _ _ _ _ _ _,λv css' r h=>by unfold z100.dec at h;split at h<;>cases h;exact ⟨rfl,rfl,rfl⟩⟩
theorem z101.l0_sound (hI:InlOK Tryz.prog z101.C λR=>z101.C.inlK 6):Ql z101.C 6 193 0 0 (Qf 0 (ifun Tryz.f193).body) z101.l0sh z101.l0pack:=by
 refine Qm λls p h=>?_
 unfold z101.l0pack at h;split at h<;>cases h
 rename_i a b c e g
 exact Yf hI (sh:=z101.l0sh) (so:=z101.l0sh) (so':=z101.l0so1) (F:=λR rec done x=>z101.l0P a b e rec done x) (enc:=λ(x':Int)=>Qb z101.l0sh [.ls a,.s b,.i c,.i e,.i x']) (.exit 0) [4] [4] [0] g (by kernel_rfl) (by kernel_rfl) (λx=>by kernel_rfl) (λo=>by kernel_rfl) (λo=>by kernel_rfl) λR k d x'=>z101.l0_link R k d a b c e (x')
theorem Qtc:Qo (ifun Tryz.f193).body=true:=by kernel_rfl
theorem z101.loopsT (hI:InlOK Tryz.prog z101.C λR=>z101.C.inlK 6):LoopsOK z101.C (λR=>z101.C.inlK 6) 193 0 (ifun Tryz.f193).body:=by
 intro id b hm st p hp
 obtain rfl:=Qr Qtc hm
 unfold z101.C at hp
 simp only at hp
 try split at hp
 all_goals first
  |(simp at hp;done)
  |(exfalso;omega)
  |exact z101.l0_sound hI st p hp
theorem z101.sound:Sn z101.pack 193:=by
 intro vs p h;unfold z101.pack at h;split at h<;>cases h
 exact Qz Qd Qe rfl rfl rfl Qu ⟨Tryz.func193,rfl,by kernel_rfl⟩ z101.loopsT rfl (z101.link _ _) z13.hdec
theorem z102.l0_sound (hI:InlOK Tryz.prog z102.C λR=>z102.C.inlK 6):Ql z102.C 6 269 0 0 (Qf 0 (ifun Tryz.f269).body) z102.l0sh z102.l0pack:=by
 refine Qm λls p h=>?_
 unfold z102.l0pack at h;split at h<;>cases h
 rename_i a c e g j m
 exact Yf hI (sh:=z102.l0sh) (so:=z102.l0sh) (so':=z102.l0so1) (F:=λR rec done x=>z102.l0P a j rec done x) (enc:=λ(x':(Int×Int))=>Qb z102.l0sh [.s a,.i c,.b e,.i x'.1,.i j,.i x'.2]) (.exit 0) [3,5] [3,5] [0,1] (g,m) (by kernel_rfl) (by kernel_rfl) (λx=>by kernel_rfl) (λo=>by kernel_rfl) (λo=>by kernel_rfl) λR k d x'=>z102.l0_link R k d a c e (x'.1) j (x'.2)
theorem Qs6:Qo (ifun Tryz.f269).body=true:=by kernel_rfl
theorem z102.loopsT (hI:InlOK Tryz.prog z102.C λR=>z102.C.inlK 6):LoopsOK z102.C (λR=>z102.C.inlK 6) 269 0 (ifun Tryz.f269).body:=by
 intro id b hm st p hp
 obtain rfl:=Qr Qs6 hm
 unfold z102.C at hp
 simp only at hp
 try split at hp
 all_goals first
  |(simp at hp;done)
  |(exfalso;omega)
  |exact z102.l0_sound hI st p hp
theorem z102.sound:Sn z102.pack 269:=by
 intro vs p h;unfold z102.pack at h;split at h<;>cases h
 exact Qz Qd Qe rfl rfl rfl Qu ⟨Tryz.func269,rfl,by kernel_rfl⟩ z102.loopsT rfl (z102.link _) (by intro v r h;unfold z102.dec at h;split at h<;>cases h;exact ⟨rfl,rfl⟩)
theorem z103.sound:Sn z103.pack 194:=by
 intro vs p h;unfold z103.pack at h;split at h<;>cases h
 exact Qj Qd Qe rfl rfl rfl rfl (Qa z102.sound (Qa z28.sound Qi)) ⟨Tryz.func194,rfl,by kernel_rfl⟩ rfl (z103.link _) (by intro v r h;unfold z103.dec at h;split at h<;>cases h;exact ⟨rfl,rfl⟩)
theorem z104.inlF:InlF Tryz.prog z104.C where
 prim g h hp:=by
  unfold z104.C at hp;simp only at hp;split at hp
  ·simp only [Option.some.injEq] at hp;subst hp;exact z98.sound
  ·simp only [Option.some.injEq] at hp;subst hp;exact z100.sound
  ·simp at hp
 fn g fn h:=by simp [z104.C] at h
 loops g fn h:=by simp [z104.C] at h
theorem z104.sound:SoundP Tryz.prog 122 (blkP [227] z104.pk):=by
 refine Qe4 Qd Qe rfl (Qa z90.sound (Qa z101.sound (Qa z103.sound (Qa z24.sound Qi)))) z104.inlF ⟨Tryz.func122,rfl,by kernel_rfl⟩ rfl λcss rest p h=>?_
 unfold z104.pk at h;split at h<;>cases h
 exact ⟨_,_,z104.dec,rfl,rfl,z104.link _ _ _ _ _ _,λv css' r h=>by unfold z104.dec at h;split at h<;>cases h;exact ⟨rfl,rfl,rfl⟩⟩
theorem z105.sound:Sn z105.pack 58:=by
 intro vs p h;unfold z105.pack at h;split at h<;>cases h
 exact Qj Qd Qe rfl rfl rfl rfl (Qa z62.sound Qi) ⟨Tryz.func58,rfl,by kernel_rfl⟩ rfl (z105.link _ _) z12.hdec
theorem z106.inlF:InlF Tryz.prog z106.C where
 prim g h hp:=by simp [z106.C] at hp
 fn g fn h:=by
  unfold z106.C at h;simp only at h;split at h
  ·simp only [Option.some.injEq] at h;subst h;exact ⟨_,_,fun272,rfl⟩
  ·simp at h
 loops g fn h:=by
  unfold z106.C at h;simp only at h;split at h
  ·simp only [Option.some.injEq] at h;subst h;exact λhI base=>noLoops rfl _ _ _ _
  ·simp at h
theorem z106.sound:Sn z106.pack 261:=by
 intro vs p h;unfold z106.pack at h;split at h<;>cases h
 exact Ws Qd Qe rfl (Qa z2.sound Qi) z106.inlF ⟨Tryz.func261,rfl,by kernel_rfl⟩ (λ_=>noLoops rfl _ _ _ _) rfl (z106.link _ _) z13.hdec
theorem z107.l0_sound (hI:InlOK Tryz.prog z107.C λR=>z107.C.inlK 6):Ql z107.C 6 190 0 0 (Qf 0 (ifun Tryz.f190).body) z107.l0sh z107.l0pack:=by
 refine Qm λls p h=>?_
 unfold z107.l0pack at h;split at h<;>cases h
 rename_i a b c
 exact Qs hI (sh:=z107.l0sh) (so:=z107.l0so0) (F:=λR rec done x=>z107.l0P a rec done x) (enc:=λ(x':(J1))=>Qb z107.l0sh [.s a,.i b,.s x']) [2] [0] c (by kernel_rfl) (by kernel_rfl) (λx=>by kernel_rfl) (λo=>by kernel_rfl) λR k d x'=>z107.l0_link R k d a b (x')
theorem Qsh:Qo (ifun Tryz.f190).body=true:=by kernel_rfl
theorem z107.loopsT (hI:InlOK Tryz.prog z107.C λR=>z107.C.inlK 6):LoopsOK z107.C (λR=>z107.C.inlK 6) 190 0 (ifun Tryz.f190).body:=by
 intro id b hm st p hp
 obtain rfl:=Qr Qsh hm
 unfold z107.C at hp
 simp only at hp
 try split at hp
 all_goals first
  |(simp at hp;done)
  |(exfalso;omega)
  |exact z107.l0_sound hI st p hp
theorem z107.sound:Sn z107.pack 190:=by
 intro vs p h;unfold z107.pack at h;split at h<;>cases h
 exact Qz Qd Qe rfl rfl rfl (Qa z5.sound (Qa z105.sound (Qa z106.sound Qi))) ⟨Tryz.func190,rfl,by kernel_rfl⟩ z107.loopsT rfl (z107.link _) z13.hdec
theorem z108.sound:Sn z108.pack 262:=by
 intro vs p h;unfold z108.pack at h;split at h<;>cases h
 exact Qj Qd Qe rfl rfl rfl rfl Qu ⟨Tryz.func262,rfl,by kernel_rfl⟩ rfl (z108.link _) z12.hdec
theorem z109.sound:Sn z109.pack 265:=by
 intro vs p h;unfold z109.pack at h;split at h<;>cases h
 exact Qj Qd Qe rfl rfl rfl rfl Qu ⟨Tryz.func265,rfl,by kernel_rfl⟩ rfl (z109.link _) z12.hdec
theorem z110.sound:Sn z110.pack 264:=by
 intro vs p h;unfold z110.pack at h;split at h<;>cases h
 exact Qj Qd Qe rfl rfl rfl rfl (Qa z108.sound (Qa z109.sound Qi)) ⟨Tryz.func264,rfl,by kernel_rfl⟩ rfl (z110.link _) z12.hdec
theorem z111.sound:Sn z111.pack 266:=by
 intro vs p h;unfold z111.pack at h;split at h<;>cases h
 exact Qj Qd Qe rfl rfl rfl rfl (Qa z109.sound Qi) ⟨Tryz.func266,rfl,by kernel_rfl⟩ rfl (z111.link _) z12.hdec
theorem z112.l0_sound (hI:InlOK Tryz.prog z112.C λR=>z112.C.inlK 6):Ql z112.C 6 267 0 0 (Qf 0 (ifun Tryz.f267).body) z112.l0sh z112.l0pack:=by
 refine Qm λls p h=>?_
 unfold z112.l0pack at h;split at h<;>cases h
 rename_i a c e g
 exact Yf hI (sh:=z112.l0sh) (so:=z112.l0so0) (so':=z112.l0sh) (F:=λR rec done x=>z112.l0P a e rec done x) (enc:=λ(x':Nat)=>Qb z112.l0sh [.s a,.b c,.s e,.n x']) .ret [3] [0,2] [3] g (by kernel_rfl) (by kernel_rfl) (λx=>by kernel_rfl) (λo=>by kernel_rfl) (λo=>by kernel_rfl) λR k d x'=>z112.l0_link R k d a c e (x')
theorem Qpa:Qo (ifun Tryz.f267).body=true:=by kernel_rfl
theorem z112.loopsT (hI:InlOK Tryz.prog z112.C λR=>z112.C.inlK 6):LoopsOK z112.C (λR=>z112.C.inlK 6) 267 0 (ifun Tryz.f267).body:=by
 intro id b hm st p hp
 obtain rfl:=Qr Qpa hm
 unfold z112.C at hp
 simp only at hp
 try split at hp
 all_goals first
  |(simp at hp;done)
  |(exfalso;omega)
  |exact z112.l0_sound hI st p hp
theorem z112.sound:Sn z112.pack 267:=by
 intro vs p h;unfold z112.pack at h;split at h<;>cases h
 exact Qz Qd Qe rfl rfl rfl (Qa z109.sound Qi) ⟨Tryz.func267,rfl,by kernel_rfl⟩ z112.loopsT rfl (z112.link _) z12.hdec
theorem z113.sound:Sn z113.pack 332:=by
 intro vs p h;unfold z113.pack at h;split at h<;>cases h
 exact Qj Qd Qe rfl rfl rfl rfl Qu ⟨Tryz.func332,rfl,by kernel_rfl⟩ rfl (z113.link _) z12.hdec
theorem z114.sound:Sn z114.pack 316:=by
 intro vs p h;unfold z114.pack at h;split at h<;>cases h
 exact Qj Qd Qe rfl rfl rfl rfl (Qa z106.sound (Qa z113.sound Qi)) ⟨Tryz.func316,rfl,by kernel_rfl⟩ rfl (z114.link _ _) z13.hdec
theorem z115.sound:Sn z115.pack 268:=by
 intro vs p h;unfold z115.pack at h;split at h<;>cases h
 exact Qj Qd Qe rfl rfl rfl rfl (Qa z114.sound Qi) ⟨Tryz.func268,rfl,by kernel_rfl⟩ rfl (z115.link _ _) z12.hdec
theorem z116.l0_sound (hI:InlOK Tryz.prog z116.C λR=>z116.C.inlK 0):Ql z116.C 0 263 0 1 (Qf 0 (ifun Tryz.f263).body) z116.l0sh z116.l0pack:=by
 refine Qm λls p h=>?_
 unfold z116.l0pack at h;split at h<;>cases h
 rename_i a b c e g j m
 exact Yf hI (sh:=z116.l0sh) (so:=z116.l0so0) (so':=z116.l0sh) (F:=λR rec done x=>z116.l0P a j rec done x) (enc:=λ(x':Nat)=>Qb z116.l0sh [.s a,.s b,.i c,.s e,.i g,.s j,.n x']) .ret [6] [0,5] [6] m (by kernel_rfl) (by kernel_rfl) (λx=>by kernel_rfl) (λo=>by kernel_rfl) (λo=>by kernel_rfl) λR k d x'=>z116.l0_link R k d a b c e g j (x')
theorem z116.l0a_sound (hI:InlOK Tryz.prog z116.C λR=>z116.C.inlK 0):Ql z116.C 0 263 0 1 (Qf 0 (ifun Tryz.f263).body) z116.l0ash z116.l0apack:=by
 refine Qm λls p h=>?_
 unfold z116.l0apack at h;split at h<;>cases h
 rename_i a b c e g j m
 exact Yf hI (sh:=z116.l0ash) (so:=z116.l0aso0) (so':=z116.l0ash) (F:=λR rec done x=>z116.l0aP a j rec done x) (enc:=λ(x':Nat)=>Qb z116.l0ash [.s a,.s b,.i c,.s e,.i g,.s j,.n x']) .ret [6] [0,5] [6] m (by kernel_rfl) (by kernel_rfl) (λx=>by kernel_rfl) (λo=>by kernel_rfl) (λo=>by kernel_rfl) λR k d x'=>z116.l0a_link R k d a b c e g j (x')
theorem Qps:Qo (ifun Tryz.f263).body=true:=by kernel_rfl
theorem z116.loops263 (hI:InlOK Tryz.prog z116.C λR=>z116.C.inlK 0) (base:Nat):LoopsOK z116.C (λR=>z116.C.inlK 0) 263 base (ifun Tryz.f263).body:=by
 intro id b hm st p hp
 obtain rfl:=Qr Qps hm
 unfold z116.C at hp
 simp only at hp
 try split at hp
 all_goals first
  |(simp at hp;done)
  |(exfalso;omega)
  |exact (orP_some hp).elim (λh=>z116.l0_sound hI st p h) (λh=>z116.l0a_sound hI st p h)
theorem z116.inlF:InlF Tryz.prog z116.C where
 prim g h hp:=by simp [z116.C] at hp
 fn g fn h:=by
  unfold z116.C at h;simp only at h;split at h
  ·simp only [Option.some.injEq] at h;subst h;exact ⟨_,_,⟨Tryz.func263,rfl,by kernel_rfl⟩,rfl⟩
  ·simp at h
 loops g fn h:=by
  unfold z116.C at h;simp only at h;split at h
  ·simp only [Option.some.injEq] at h;subst h;exact λhI base=>z116.loops263 hI base
  ·simp at h
theorem z116.noTop:LoopsOK z116.C (λR=>z116.C.inlK 6) 191 0 (ifun Tryz.f191).body:=by
 intro id b hm st p hp
 exfalso
 unfold z116.C at hp
 simp only at hp
 try split at hp
 all_goals first|(simp at hp;done)|omega
theorem z116.sound:Sn z116.pack 191:=by
 intro vs p h;unfold z116.pack at h;split at h<;>cases h
 exact Ws Qd Qe rfl (Qa z108.sound (Qa z110.sound (Qa z109.sound (Qa z111.sound (Qa z112.sound (Qa z67.sound (Qa z115.sound Qi))))))) z116.inlF ⟨Tryz.func191,rfl,by kernel_rfl⟩ (λ_=>z116.noTop) rfl (z116.link _) (by intro v r h;unfold z116.dec at h;split at h<;>cases h;exact ⟨rfl,rfl⟩)
theorem z117.l0_sound (hI:InlOK Tryz.prog z117.C λR=>z117.C.inlK 6):Ql z117.C 6 121 0 0 (Qf 0 (ifun Tryz.f121).body) z117.l0sh z117.l0pack:=by
 refine Qm λls p h=>?_
 unfold z117.l0pack at h;split at h<;>cases h
 rename_i a b c e g j
 exact Yf hI (sh:=z117.l0sh) (so:=z117.l0sh) (so':=z117.l0so1) (F:=λR rec done x=>z117.l0P a rec done x) (enc:=λ(x':(Int×J2))=>Qb z117.l0sh [.s a,.i b,.i c,.i x'.1,.lr g,.lr x'.2]) (.exit 0) [3,5] [3,5] [0,1,2,4] (e,j) (by kernel_rfl) (by kernel_rfl) (λx=>by kernel_rfl) (λo=>by kernel_rfl) (λo=>by kernel_rfl) λR k d x'=>z117.l0_link R k d a b c (x'.1) g (x'.2)
theorem Qvi:Qo (ifun Tryz.f121).body=true:=by kernel_rfl
theorem z117.loopsT (hI:InlOK Tryz.prog z117.C λR=>z117.C.inlK 6):LoopsOK z117.C (λR=>z117.C.inlK 6) 121 0 (ifun Tryz.f121).body:=by
 intro id b hm st p hp
 obtain rfl:=Qr Qvi hm
 unfold z117.C at hp
 simp only at hp
 try split at hp
 all_goals first
  |(simp at hp;done)
  |(exfalso;omega)
  |exact z117.l0_sound hI st p hp
theorem z117.sound:Sn z117.pack 121:=by
 intro vs p h;unfold z117.pack at h;split at h<;>cases h
 exact Qz Qd Qe rfl rfl rfl (Qa z107.sound (Qa z116.sound Qi)) ⟨Tryz.func121,rfl,by kernel_rfl⟩ z117.loopsT rfl (z117.link _) (by intro v r h;unfold z117.dec at h;split at h<;>cases h;exact ⟨rfl,rfl⟩)
theorem z118.l0_sound (hI:InlOK Tryz.prog z118.C λR=>z118.C.inlK 6):Ql z118.C 6 51 0 0 (Qf 0 (ifun Tryz.f51).body) z118.l0sh z118.l0pack:=by
 refine Qm λls p h=>?_
 unfold z118.l0pack at h;split at h<;>cases h
 rename_i a b c e g j m n q r
 exact Yf hI (sh:=z118.l0sh) (so:=z118.l0sh) (so':=z118.l0so1) (F:=λR rec done x=>z118.l0P rec done x) (enc:=λ(x':(J2×Int×Int×J2×Int×Int×Int))=>Qb z118.l0sh [.i a,.i b,.lr c,.lr x'.1,.i x'.2.1,.i x'.2.2.1,.lr x'.2.2.2.1,.i x'.2.2.2.2.1,.i x'.2.2.2.2.2.1,.i x'.2.2.2.2.2.2]) (.exit 0) [3,4,5,6,7,8,9] [3,4,5,6,7,8,9] [0,1,2,4,5,6,7,8,9,10] (e,g,j,m,n,q,r) (by kernel_rfl) (by kernel_rfl) (λx=>by kernel_rfl) (λo=>by kernel_rfl) (λo=>by kernel_rfl) λR k d x'=>z118.l0_link R k d a b c (x'.1) (x'.2.1) (x'.2.2.1) (x'.2.2.2.1) (x'.2.2.2.2.1) (x'.2.2.2.2.2.1) (x'.2.2.2.2.2.2)
theorem Qui:Qo (ifun Tryz.f51).body=true:=by kernel_rfl
theorem z118.loopsT (hI:InlOK Tryz.prog z118.C λR=>z118.C.inlK 6):LoopsOK z118.C (λR=>z118.C.inlK 6) 51 0 (ifun Tryz.f51).body:=by
 intro id b hm st p hp
 obtain rfl:=Qr Qui hm
 unfold z118.C at hp
 simp only at hp
 try split at hp
 all_goals first
  |(simp at hp;done)
  |(exfalso;omega)
  |exact z118.l0_sound hI st p hp
theorem z118.inlF:InlF Tryz.prog z118.C where
 prim g h hp:=by
  unfold z118.C at hp;simp only at hp;split at hp
  ·simp only [Option.some.injEq] at hp;subst hp;exact z104.sound
  ·simp at hp
 fn g fn h:=by simp [z118.C] at h
 loops g fn h:=by simp [z118.C] at h
theorem z118.sound:Sn z118.pack 51:=by
 intro vs p h;unfold z118.pack at h;split at h<;>cases h
 exact Ws Qd Qe rfl (Qa z117.sound Qi) z118.inlF ⟨Tryz.func51,rfl,by kernel_rfl⟩ z118.loopsT rfl (z118.link _) (by intro v r h;unfold z118.dec at h;split at h<;>cases h;exact ⟨rfl,rfl⟩)
theorem z119.sound:Sn z119.pack 49:=by
 intro vs p h;unfold z119.pack at h;split at h<;>cases h
 exact Qj Qd Qe rfl rfl rfl rfl (Qa z118.sound (Qa z97.sound Qi)) ⟨Tryz.func49,rfl,by kernel_rfl⟩ rfl z119.link z12.hdec
theorem z120.l0_sound (hI:InlOK Tryz.prog z120.C λR=>z120.C.inlK 6):Ql z120.C 6 55 0 0 (Qf 0 (ifun Tryz.f55).body) z120.l0sh z120.l0pack:=by
 refine Qm λls p h=>?_
 unfold z120.l0pack at h;split at h<;>cases h
 rename_i a c e g j
 exact Yf hI (sh:=z120.l0sh) (so:=z120.l0sh) (so':=z120.l0so1) (F:=λR rec done x=>z120.l0P a c g rec done x) (enc:=λ(x':Int)=>Qb z120.l0sh [.lr a,.lr c,.b e,.i g,.i x']) (.exit 0) [4] [4] [0] j (by kernel_rfl) (by kernel_rfl) (λx=>by kernel_rfl) (λo=>by kernel_rfl) (λo=>by kernel_rfl) λR k d x'=>z120.l0_link R k d a c e g (x')
theorem Qqv:Qo (ifun Tryz.f55).body=true:=by kernel_rfl
theorem z120.loopsT (hI:InlOK Tryz.prog z120.C λR=>z120.C.inlK 6):LoopsOK z120.C (λR=>z120.C.inlK 6) 55 0 (ifun Tryz.f55).body:=by
 intro id b hm st p hp
 obtain rfl:=Qr Qqv hm
 unfold z120.C at hp
 simp only at hp
 try split at hp
 all_goals first
  |(simp at hp;done)
  |(exfalso;omega)
  |exact z120.l0_sound hI st p hp
theorem z120.sound:Sn z120.pack 55:=by
 intro vs p h;unfold z120.pack at h;split at h<;>cases h
 exact Qz Qd Qe rfl rfl rfl Qu ⟨Tryz.func55,rfl,by kernel_rfl⟩ z120.loopsT rfl (z120.link _ _) z12.hdec
theorem z121.sound:Sn z121.pack 125:=by
 intro vs p h;unfold z121.pack at h;split at h<;>cases h
 exact Qj Qd Qe rfl rfl rfl rfl Qu ⟨Tryz.func125,rfl,by kernel_rfl⟩ rfl (z121.link _ _) z12.hdec
theorem z122.sound:Sn z122.pack 59:=by
 intro vs p h;unfold z122.pack at h;split at h<;>cases h
 exact Qj Qd Qe rfl rfl rfl rfl (Qa z121.sound Qi) ⟨Tryz.func59,rfl,by kernel_rfl⟩ rfl (z122.link _ _) z12.hdec
theorem z123.l0_sound (hI:InlOK Tryz.prog z123.C λR=>z123.C.inlK 6):Ql z123.C 6 126 0 0 (Qf 0 (ifun Tryz.f126).body) z123.l0sh z123.l0pack:=by
 refine Qm λls p h=>?_
 unfold z123.l0pack at h;split at h<;>cases h
 rename_i a b c
 exact Qs hI (sh:=z123.l0sh) (so:=z123.l0sh) (F:=λR rec done x=>z123.l0P b rec done x) (enc:=λ(x':(Int×Nat))=>Qb z123.l0sh [.i x'.1,.s b,.n x'.2]) [0,2] [0,2] (a,c) (by kernel_rfl) (by kernel_rfl) (λx=>by kernel_rfl) (λo=>by kernel_rfl) λR k d x'=>z123.l0_link R k d (x'.1) b (x'.2)
theorem Qo1:Qo (ifun Tryz.f126).body=true:=by kernel_rfl
theorem z123.loopsT (hI:InlOK Tryz.prog z123.C λR=>z123.C.inlK 6):LoopsOK z123.C (λR=>z123.C.inlK 6) 126 0 (ifun Tryz.f126).body:=by
 intro id b hm st p hp
 obtain rfl:=Qr Qo1 hm
 unfold z123.C at hp
 simp only at hp
 try split at hp
 all_goals first
  |(simp at hp;done)
  |(exfalso;omega)
  |exact z123.l0_sound hI st p hp
theorem z123.sound:Sn z123.pack 126:=by
 intro vs p h;unfold z123.pack at h;split at h<;>cases h
 exact Qz Qd Qe rfl rfl rfl Qu ⟨Tryz.func126,rfl,by kernel_rfl⟩ z123.loopsT rfl (z123.link _) z13.hdec
theorem z124.inlF:InlF Tryz.prog z124.C where
 prim g h hp:=by simp [z124.C] at hp
 fn g fn h:=by
  unfold z124.C at h;simp only at h;split at h
  ·simp only [Option.some.injEq] at h;subst h;exact ⟨_,_,fun197,rfl⟩
  ·simp only [Option.some.injEq] at h;subst h;exact ⟨_,_,fun272,rfl⟩
  ·simp at h
 loops g fn h:=by
  unfold z124.C at h;simp only at h;split at h
  ·simp only [Option.some.injEq] at h;subst h;exact λhI base=>noLoops rfl _ _ _ _
  ·simp only [Option.some.injEq] at h;subst h;exact λhI base=>noLoops rfl _ _ _ _
  ·simp at h
theorem z124.sound:Sn z124.pack 128:=by
 intro vs p h;unfold z124.pack at h;split at h<;>cases h
 exact Ws Qd Qe rfl (Qa z2.sound Qi) z124.inlF ⟨Tryz.func128,rfl,by kernel_rfl⟩ (λ_=>noLoops rfl _ _ _ _) rfl (z124.link _ _) z13.hdec
theorem z125.l0_sound (hI:InlOK Tryz.prog z125.C λR=>z125.C.inlK 6):Ql z125.C 6 60 0 0 (Qf 0 (ifun Tryz.f60).body) z125.l0sh z125.l0pack:=by
 refine Qm λls p h=>?_
 unfold z125.l0pack at h;split at h<;>cases h
 rename_i a b c e
 exact Qs hI (sh:=z125.l0sh) (so:=z125.l0so0) (F:=λR rec done x=>z125.l0P b rec done x) (enc:=λ(x':(J1×Int))=>Qb z125.l0sh [.s x'.1,.s b,.i c,.i x'.2]) [0,3] [0] (a,e) (by kernel_rfl) (by kernel_rfl) (λx=>by kernel_rfl) (λo=>by kernel_rfl) λR k d x'=>z125.l0_link R k d (x'.1) b c (x'.2)
theorem Qsd:Qo (ifun Tryz.f60).body=true:=by kernel_rfl
theorem z125.loopsT (hI:InlOK Tryz.prog z125.C λR=>z125.C.inlK 6):LoopsOK z125.C (λR=>z125.C.inlK 6) 60 0 (ifun Tryz.f60).body:=by
 intro id b hm st p hp
 obtain rfl:=Qr Qsd hm
 unfold z125.C at hp
 simp only at hp
 try split at hp
 all_goals first
  |(simp at hp;done)
  |(exfalso;omega)
  |exact z125.l0_sound hI st p hp
theorem z125.sound:Sn z125.pack 60:=by
 intro vs p h;unfold z125.pack at h;split at h<;>cases h
 exact Qz Qd Qe rfl rfl rfl (Qa z123.sound (Qa z3.sound (Qa z124.sound Qi))) ⟨Tryz.func60,rfl,by kernel_rfl⟩ z125.loopsT rfl (z125.link _ _) z13.hdec
theorem z126.l0_sound (hI:InlOK Tryz.prog z126.C λR=>z126.C.inlK 0):Ql z126.C 0 120 0 2 (Qf 0 (ifun Tryz.f120).body) z126.l0sh z126.l0pack:=by
 refine Qm λls p h=>?_
 unfold z126.l0pack at h;split at h<;>cases h
 rename_i a b c e g j m n q r t u v w
 exact Qs hI (sh:=z126.l0sh) (so:=z126.l0sh) (F:=λR rec done x=>z126.l0P b c e rec done x) (enc:=λ(x':(J1×Int×(List J1)))=>Qb z126.l0sh [.s x'.1,.s b,.i c,.i e,.i x'.2.1,.i j,.i m,.i n,.li q,.li r,.li t,.ls u,.ls v,.ls x'.2.2]) [0,4,13] [0,4,13] (a,g,w) (by kernel_rfl) (by kernel_rfl) (λx=>by kernel_rfl) (λo=>by kernel_rfl) λR k d x'=>z126.l0_link R k d (x'.1) b c e (x'.2.1) j m n q r t u v (x'.2.2)
theorem fun8:FunOK Tryz.prog 8 Tryz.f8 (ifun Tryz.f8).body:=⟨Tryz.func8,rfl,by kernel_rfl⟩
theorem Qsy:Qo (ifun Tryz.f120).body=true:=by kernel_rfl
theorem z126.loops50 (hI:InlOK Tryz.prog z126.C λR=>z126.C.inlK 1) (base:Nat):LoopsOK z126.C (λR=>z126.C.inlK 1) 50 base (ifun Tryz.f50).body:=by
 intro id b hm st p hp
 exfalso
 unfold z126.C at hp
 simp only at hp
 try split at hp
 all_goals first|(simp at hp;done)|omega
theorem z126.loops120 (hI:InlOK Tryz.prog z126.C λR=>z126.C.inlK 0) (base:Nat):LoopsOK z126.C (λR=>z126.C.inlK 0) 120 base (ifun Tryz.f120).body:=by
 intro id b hm st p hp
 obtain rfl:=Qr Qsy hm
 unfold z126.C at hp
 simp only at hp
 try split at hp
 all_goals first
  |(simp at hp;done)
  |(exfalso;omega)
  |exact z126.l0_sound hI st p hp
theorem prim54:SoundP Tryz.prog 54 (cloneP (.strs true []) 9 16):=Qfv (C:=tabC) Qd (f:=Tryz.f54) (t:=121) ⟨Tryz.func54,rfl,by kernel_rfl⟩ rfl (by decide) (by kernel_rfl) (by kernel_rfl) (by kernel_rfl) (by decide) (by kernel_rfl) rfl rfl (by kernel_rfl)
theorem prim57:SoundP Tryz.prog 57 (cloneP (.recs true 5 []) 85 48):=Qfv (C:=tabC) Qd (f:=Tryz.f57) (t:=74) ⟨Tryz.func57,rfl,by kernel_rfl⟩ rfl (by decide) (by kernel_rfl) (by kernel_rfl) (by kernel_rfl) (by decide) (by kernel_rfl) rfl rfl (by kernel_rfl)
theorem z126.inlF:InlF Tryz.prog z126.C where
 prim g h hp:=by
  unfold z126.C at hp;simp only at hp;split at hp
  ·simp only [Option.some.injEq] at hp;subst hp;exact prim54
  ·simp only [Option.some.injEq] at hp;subst hp;exact z8.sound
  ·simp only [Option.some.injEq] at hp;subst hp;exact prim57
  ·simp only [Option.some.injEq] at hp;subst hp;exact z9.sound
  ·simp at hp
 fn g fn h:=by
  unfold z126.C at h;simp only at h;split at h
  ·simp only [Option.some.injEq] at h;subst h;exact ⟨_,_,⟨Tryz.func50,rfl,by kernel_rfl⟩,rfl⟩
  ·simp only [Option.some.injEq] at h;subst h;exact ⟨_,_,⟨Tryz.func120,rfl,by kernel_rfl⟩,rfl⟩
  ·simp at h
 loops g fn h:=by
  unfold z126.C at h;simp only at h;split at h
  ·simp only [Option.some.injEq] at h;subst h;exact λhI base=>z126.loops50 hI base
  ·simp only [Option.some.injEq] at h;subst h;exact λhI base=>z126.loops120 hI base
  ·simp at h
theorem z126.noTop:LoopsOK z126.C (λR=>z126.C.inlK 6) 8 0 (ifun Tryz.f8).body:=by
 intro id b hm st p hp
 exfalso
 unfold z126.C at hp
 simp only at hp
 try split at hp
 all_goals first|(simp at hp;done)|omega
theorem z126.sound:Sn z126.pack 8:=by
 intro vs p h;unfold z126.pack at h;split at h<;>cases h
 exact Ws Qd Qe rfl (Qa z20.sound (Qa z18.sound (Qa z97.sound (Qa z119.sound (Qa z125.sound (Qa z124.sound (Qa z7.sound (Qa z118.sound (Qa z120.sound (Qa z105.sound (Qa z122.sound Qi))))))))))) z126.inlF fun8 (λ_=>z126.noTop) rfl (z126.link _ _ _ _ _ _ _) z12.hdec
end
end Go.Proofs.YtihfdjkjpncjfaaGreatDoor.A
end
section
namespace Go.Proofs.YtihfdjkjpncjfaaGreatDoor.A
open Go Go.RowKit Go.ChangeShapes Go.WideShapes
noncomputable section
inductive SC where
 |b
 |i (k:IntKind)
 |s
inductive CT where
 |sc (c:SC)
 |sl (cs:List SC)
def scOf:CT->Option SC
 |.sc c=>some c
 |_=>none
def Y8:List CT->Option (List SC)
 |[]=>some []
 |c::l=>(scOf c).bind λx=>(Y8 l).map (x :: ·)
def okS:SC->V->Prop
 |.b,v=>∃x,v=.bool x
 |.i k,v=>∃n,v=.int k n/\(Lit.int k n).wf=true
 |.s,v=>∃l,v=.str l/\l.length<=maxLen
def okSL:List SC->List V->Prop
 |[],vs=>vs=[]
 |c::cs,vs=>∃v l,vs=v::l/\okS c v/\okSL cs l
def okC:CT->V->Prop
 |.sc c,v=>okS c v
 |.sl [.i k],v=>∃l,v=.ints false k l/\(∀n∈l,(Lit.int k n).wf=true)/\l.length<=maxLen
 |.sl [.s],v=>∃l,v=.strs false l/\(∀s∈l,s.length<=maxLen)/\l.length<=maxLen
 |.sl cs,v=>∃l,v=.recs false cs.length l/\(∀r∈l,okSL cs r)/\l.length<=maxLen
def okCL:List CT->List V->Prop
 |[],vs=>vs=[]
 |c::cs,vs=>∃v l,vs=v::l/\okC c v/\okCL cs l
def ctsF (P:Program) (rec:TypeId->Option (List CT)):Nat->List Field->Option (List CT)
 |_,[]=>some []
 |off,f::fs=>if f.offset=off then (rec f.type).bind λl=>if P.cellsOf f.type=l.length then (ctsF P rec (off+l.length) fs).map (l ++ ·) else none else none
def ctsA (l:List CT):Nat->List CT
 |0=>[]
 |n+1=>l++ctsA l n
def cts (P:Program):Nat->TypeId->Option (List CT)
 |0,_=>none
 |
  n+1,t=>
  match P.underlying t with
  |some .bool=>some [.sc .b]
  |some (.int k)=>some [.sc (.i k)]
  |some .string=>some [.sc .s]
  |some (.struct fs)=>(ctsF P (cts P n) 0 fs.toList).bind λl=>if P.cellsOf t=l.length then some l else none
  |some (.array m e)=>(cts P n e).bind λl=>if P.cellsOf e=l.length/\P.cellsOf t=m*l.length then some (ctsA l m) else none
  |some (.slice e)=>(cts P n e).bind λl=>(Y8 l).bind λcs=>if P.cellsOf e=cs.length/\0<cs.length then some [.sl cs] else none
  |_=>none
abbrev noO:Nat->Prop:=λ_=>False
def Qiu (W:World) (c:CT) (cv:Value) (v:V):Prop:=okC c v/\Rep0 noO W cv v/\cv.oneCell'=true
def Yt (W:World) (l:List CT) (cs:List Value) (vs:List V):Prop:=
 cs.length=l.length/\vs.length=l.length/\∀(j:Nat) (c:CT) (cv:Value) (v:V),l[j]? = some c->cs[j]? = some cv->vs[j]? = some v->Qiu W c cv v
theorem cellsR_nil (W:World):Yt W [] [] []:=⟨rfl,rfl,λ(j:Nat) c cv v h=>by simp at h⟩
theorem Qby {W:World} {c:CT} {cv:Value} {v:V} (h:Qiu W c cv v):Yt W [c] [cv] [v]:=by
 refine ⟨rfl,rfl,λj c' cv' v' h1 h2 h3=>?_⟩
 cases j with
 |zero=>simp at h1 h2 h3;subst h1 h2 h3;exact h
 |succ j=>simp at h1
theorem Qlr {W:World} {l l':List CT} {cs cs':List Value} {vs vs':List V} (h:Yt W l cs vs) (h':Yt W l' cs' vs'):Yt W (l++l') (cs++cs') (vs++vs'):=by
 obtain ⟨a1,a2,a3⟩:=h;obtain ⟨b1,b2,b3⟩:=h'
 refine ⟨by simp [a1,b1],by simp [a2,b2],λj c cv v h1 h2 h3=>?_⟩
 by_cases hj:j<l.length
 ·rw [Z36 hj] at h1
  rw [Z36 (by omega)] at h2 h3
  exact a3 j c cv v h1 h2 h3
 ·rw [Z56 (by omega)] at h1 h2 h3
  rw [a1] at h2;rw [a2] at h3
  exact b3 _ c cv v h1 h2 h3
theorem Qhc {W:World}:∀{l:List CT} {cs:List Value} {vs:List V},Yt W l cs vs->okCL l vs
 |[],cs,vs,h=>List.length_eq_zero_iff.1 h.2.1
 |
  c::l,cs,vs,h=>by
  obtain ⟨h1,h2,h3⟩:=h
  match cs,vs,h1,h2 with
  |
   cv::cs,v::vs,h1,h2=>
   exact ⟨v,vs,rfl,(h3 0 c cv v rfl rfl rfl).1,Qhc (cs:=cs) ⟨by simpa using h1,by simpa using h2,λj c' cv' v' a b d=>h3 (j+1) c' cv' v' (by simpa using a) (by simpa using b) (by simpa using d)⟩⟩
theorem Qld:∀{l:List CT} {ss:List SC} {vs:List V},Y8 l=some ss->okCL l vs->okSL ss vs
 |[],ss,vs,h,hv=>by simp [Y8] at h;subst h;exact hv
 |
  c::l,ss,vs,h,hv=>by
  simp only [Y8,Z7,Z19] at h
  obtain ⟨x,hx,y,hy,rfl⟩:=h
  obtain ⟨v,r,rfl,h1,h2⟩:=hv
  refine ⟨v,r,rfl,?_,Qld hy h2⟩
  cases c with
  |sc c=>simp [scOf] at hx;subst hx;exact h1
  |sl _=>simp [scOf] at hx
theorem Qly:∀{l:List CT} {ss:List SC},Y8 l=some ss->ss.length=l.length
 |[],ss,h=>by simp [Y8] at h;subst h;rfl
 |
  c::l,ss,h=>by
  simp only [Y8,Z7,Z19] at h
  obtain ⟨x,hx,y,hy,rfl⟩:=h
  simp [Qly hy]
theorem Qf3 {α:Type} {Q:Nat->α->Prop}:∀{n:Nat},(∀i,i<n->∃x,Q i x)->∃l:List α,l.length=n/\∀(i:Nat) (x:α),l[i]? = some x->Q i x
 |0,_=>⟨[],rfl,λi x h=>by simp at h⟩
 |
  n+1,h=>by
  obtain ⟨l,h1,h2⟩:=Qf3 (n:=n) λi hi=>h i (by omega)
  obtain ⟨x,hx⟩:=h n (by omega)
  refine ⟨l++[x],by simp [h1],λi y hy=>?_⟩
  by_cases hi:i<l.length
  ·rw [Z36 hi] at hy;exact h2 i y hy
  ·rw [Z56 (by omega)] at hy
   have:i-l.length=0:=by
    rcases Z65 (i-l.length) 1 with h0|h0
    ·omega
    ·rw [Z13 (by simp;omega)] at hy;simp at hy
   rw [this] at hy;simp at hy;subst hy
   have:i=n:=by omega
   subst this;exact hx
theorem Qkg {α:Type} (z:Nat) (hz:0<z):∀(l:List (List α)) (j:Nat),(∀e∈l,e.length=z)->l.flatten[j]? = (l[j/z]?).bind (·[j%z]?)
 |[],j,_=>by simp
 |
  e::l,j,h=>by
  have he:=h e (by simp)
  rw [Z39]
  by_cases hj:j<z
  ·rw [Z36 (by omega),Nat.div_eq_of_lt hj,Nat.mod_eq_of_lt hj];rfl
  ·rw [Z56 (by omega),Qkg z hz l _ (λx hx=>h x (by simp [hx])),he]
   have h1:j/z=(j-z)/z+1:=by rw [<-Nat.add_div_right (j-z) hz,Nat.sub_add_cancel (by omega)]
   have h2:j%z=(j-z)%z:=by rw [<-Nat.add_mod_right (j-z) z,Nat.sub_add_cancel (by omega)]
   rw [h1,h2];rfl
theorem ones {α:Type} {c:SC} {f:α->V} {Q:α->Prop} (hc:∀v,okS c v->∃n,v=f n/\Q n):∀vss:J2,(∀r∈vss,okSL [c] r) ->
  ∃zs:List α,vss.flatten=zs.map f/\zs.length=vss.length/\∀n∈zs,Q n
 |[],_=>⟨[],rfl,rfl,by simp⟩
 |
  r::vss,h=>by
  obtain ⟨zs,e1,e2,e3⟩:=ones hc vss λx hx=>h x (by simp [hx])
  obtain ⟨v,l,rfl,hv,hl⟩:=h r (by simp)
  have hl:l=[]:=hl
  subst hl
  obtain ⟨n,rfl,hq⟩:=hc v hv
  exact ⟨n::zs,by simp [e1],by simp [e2],by simpa using ⟨hq,e3⟩⟩
theorem Qvo {W:World} {t e n m:Nat} {ss:List SC} {l:List CT} {a:Addr} {len cap:Nat} (hs:Y8 l=some ss) (hz:0<ss.length) (hl:len<=cap) (hm:cap<=maxLen)
  (h:∀i,i<len->∃cs vs,W.cells? 0 (a.add (i*ss.length)) ss.length=some cs/\Yt W l cs vs):∃v,okC (.sl ss) v/\Rep0 noO W (.slice (some a) len cap) v:=by
 obtain ⟨rows,h1,h2⟩:=Qf3 h
 have hsl:=Qly hs
 have hrow:∀(i:Nat) (r:List Value),rows[i]? = some r->∃vs:List V,r.length=ss.length/\okSL ss vs/\vs.length=ss.length/\∀(j:Nat) (cv:Value) (v:V),r[j]? = some cv->vs[j]? = some v->W.cell? (a.add (i*ss.length+j))=some cv/\Rep0 noO W cv v/\cv.oneCell'=true:=by
  intro i r hr
  obtain ⟨vs,hc,hv⟩:=h2 i r hr
  obtain ⟨_,hlen,hcell⟩:=World.cells?_some hc
  refine ⟨vs,hlen,Qld hs (Qhc hv),hv.2.1.trans hsl.symm,λj cv v hj hjv=>?_⟩
  have hjl:j<l.length:=by have:=(List.getElem?_eq_some_iff.1 hj).1;omega
  have:=hv.2.2 j l[j] cv v (by simp) hj hjv
  refine ⟨?_,this.2⟩
  rw [<-Go.Deep.add_add,hcell j (by omega),hj]
 have hall:∀i,i<rows.length->∃vs:List V,okSL ss vs/\vs.length=ss.length/\∀(j:Nat) (v:V),vs[j]? = some v->∃cv,W.cell? (a.add (i*ss.length+j))=some cv/\Rep0 noO W cv v/\cv.oneCell'=true:=by
  intro i hi
  obtain ⟨vs,q1,q2,q3,q4⟩:=hrow i rows[i] (by simp [hi])
  refine ⟨vs,q2,q3,λj v hv=>?_⟩
  have:j<ss.length:=by have:=(List.getElem?_eq_some_iff.1 hv).1;omega
  exact ⟨_,q4 j (rows[i][j]'(by omega)) v (by simp) hv⟩
 obtain ⟨vss,g1,g2⟩:=Qf3 hall
 have hvlen:∀e∈vss,e.length=ss.length:=λe he=>by obtain ⟨i,hi,rfl⟩:=Z76 he;exact (g2 i _ (by simp [hi])).2.1
 have gen:∀v:V,flatV v=some (len,vss.flatten)->isExact v=false->Rep0 noO W (.slice (some a) len cap) v:=by
  intro v hf hx
  have hcell:∀(j:Nat) (v:V),vss.flatten[j]? = some v->∃cv,W.cell? (a.add j)=some cv/\Rep0 noO W cv v/\cv.oneCell'=true:=by
   intro j v hv
   rw [Qkg ss.length hz vss j hvlen] at hv
   obtain ⟨r,hr,hv⟩:=Z7.1 hv
   obtain ⟨cv,k1,k2⟩:=(g2 _ r hr).2.2 _ v hv
   refine ⟨cv,?_,k2⟩
   rw [show j=j/ss.length*ss.length+j%ss.length by rw [Z54];exact (Z69 j ss.length).symm]
   exact k1
  refine .slice (some a) len cap v vss.flatten (λj=>(W.cell? (a.add j)).getD Go.undef) hf (by simp [hx]) hl (by simp) (λj hj=>?_) (λj hj=>?_) (λj hj=>?_)
  ·obtain ⟨cv,k1,k2,k3⟩:=hcell j _ (Z1 hj)
   exact ⟨a,rfl,λh=>h.elim,by rw [k1];rfl⟩
  ·obtain ⟨cv,k1,k2,k3⟩:=hcell j _ (Z1 hj)
   rw [k1];exact k3
  ·obtain ⟨cv,k1,k2,k3⟩:=hcell j _ (Z1 hj)
   rw [k1];exact k2
 have hlen':vss.length=len:=by omega
 have recs:∃v,(∃l,v=V.recs false ss.length l/\(∀r∈l,okSL ss r)/\l.length<=maxLen)/\Rep0 noO W (.slice (some a) len cap) v:=by
  refine ⟨.recs false ss.length vss,⟨vss,rfl,λr hr=>?_,by omega⟩,gen _ ?_ rfl⟩
  ·obtain ⟨i,hi,rfl⟩:=Z76 hr;exact (g2 i _ (by simp [hi])).1
  ·simp only [flatV];rw [if_pos ⟨hz,hvlen⟩,hlen']
 match ss,hs,hz,recs,g2,gen,hvlen with
 |[],_,hz,_,_,_,_=>simp at hz
 |[.b],_,_,recs,_,_,_=>exact recs
 |x::y::_,_,_,recs,_,_,_=>exact by cases x<;>exact recs
 |
  [.i k],_,_,recs,g2,gen,hvlen=>
  obtain ⟨zs,e1,e2,e3⟩:=ones (c:=.i k) (f:=V.int k) (λv h=>h) vss λr hr=>by
   obtain ⟨i,hi,rfl⟩:=Z76 hr;exact (g2 i _ (by simp [hi])).1
  refine ⟨.ints false k zs,⟨zs,rfl,e3,by omega⟩,gen _ ?_ rfl⟩
  simp only [flatV];rw [e1,e2,hlen']
 |
  [.s],_,_,recs,g2,gen,hvlen=>
  obtain ⟨zs,e1,e2,e3⟩:=ones (c:=.s) (f:=V.str) (λv h=>h) vss λr hr=>by
   obtain ⟨i,hi,rfl⟩:=Z76 hr;exact (g2 i _ (by simp [hi])).1
  refine ⟨.strs false zs,⟨zs,rfl,e3,by omega⟩,gen _ ?_ rfl⟩
  simp only [flatV];rw [e1,e2,hlen']
theorem Qr5 {W:World} {ss:List SC} (hz:0<ss.length):∃v,okC (.sl ss) v/\Rep0 noO W (.slice none 0 0) v:=by
 have gen:∀v:V,flatV v=some (0,[])->isExact v=false->Rep0 noO W (.slice none 0 0) v:=λv hf hx=>
  .slice none 0 0 v [] (λ_=>Go.undef) hf (by simp [hx]) (Z3 _) (λ_=>rfl) (λj hj=>by simp at hj) (λj hj=>by simp at hj) (λj hj=>by simp at hj)
 match ss,hz with
 |[.i k],_=>exact ⟨.ints false k [],⟨[],rfl,by simp,by simp⟩,gen _ rfl rfl⟩
 |[.s],_=>exact ⟨.strs false [],⟨[],rfl,by simp,by simp⟩,gen _ rfl rfl⟩
 |[.b],_=>exact ⟨.recs false 1 [],⟨[],rfl,by simp,by simp⟩,gen _ (by simp [flatV]) rfl⟩
 |a::a'::ss,_=>exact ⟨.recs false (a::a'::ss).length [],by cases a<;>exact ⟨[],rfl,by simp,by simp⟩,gen _ (by simp [flatV]) rfl⟩
section
variable {H:Type} {enc:TypeId×Value->H} {P:Program} {W:World}
theorem Qdf:∀(n:Nat) (t:TypeId) (l:List CT),cts P n t=some l->∀(fuel:Nat) (cs:List Value) (x:DataW H×List MemPlace),DataW.trod enc P W 0 (λ_=>true) true fuel t cs=some x ->
  ∃vs,Yt W l cs vs
 |0,t,l,h,_,_,_,_=>by simp [cts] at h
 |
  n+1,t,l,h,fuel,cs,x,hx=>by
  unfold cts at h
  split at h
  ·rename_i ht
   simp at h;subst h
   obtain ⟨bb,rfl,_⟩:=DataW.trod_bool ht hx
   exact ⟨[.bool bb],Qby ⟨⟨bb,rfl⟩,.bool bb,rfl⟩⟩
  ·rename_i k ht
   simp at h;subst h
   obtain ⟨b,rfl,_,hw⟩:=DataW.trod_int ht hx
   exact ⟨[.int k b],Qby ⟨⟨b,rfl,hw⟩,.int k b,rfl⟩⟩
  ·rename_i ht
   simp at h;subst h
   obtain ⟨b,rfl,_,hw⟩:=DataW.trod_string ht hx
   exact ⟨[.str b.data.toList],Qby ⟨⟨_,rfl,by simpa using hw⟩,.str _ _ rfl,rfl⟩⟩
  ·rename_i fs ht
   obtain ⟨l',h1,h2⟩:=Z7.1 h
   split at h2
   case isFalse=>simp at h2
   rename_i hsz
   simp at h2;subst h2
   obtain ⟨xs,m,_,_,hlen,hxl,hf⟩:=DataW.trod_struct ht hx
   have key:∀(gs:List Field) (off:Nat) (l':List CT),ctsF P (cts P n) off gs=some l'->(∀f∈gs,∃y,DataW.trod enc P W 0 (λ_=>true) true m f.type ((cs.drop f.offset).take (P.cellsOf f.type))=some y) ->
     ∃vs,Yt W l' ((cs.drop off).take l'.length) vs:=by
    intro gs
    induction gs with
    |nil=>intro off l' h _;simp [ctsF] at h;subst h;exact ⟨[],by simpa using cellsR_nil W⟩
    |
     cons f gs ih=>
     intro off l' h hg
     unfold ctsF at h
     split at h
     case isFalse=>simp at h
     rename_i hoff
     obtain ⟨lf,h1,h2⟩:=Z7.1 h
     split at h2
     case isFalse=>simp at h2
     rename_i hsz
     obtain ⟨l2,h3,rfl⟩:=Z19.1 h2
     obtain ⟨y,hy⟩:=hg f (by simp)
     obtain ⟨vs1,c1⟩:=Qdf n f.type lf h1 m _ y hy
     obtain ⟨vs2,c2⟩:=ih _ _ h3 λf' hf'=>hg f' (by simp [hf'])
     refine ⟨vs1++vs2,?_⟩
     have hc:=Qlr c1 c2
     rw [hoff,hsz] at hc
     have hl1:lf.length<=(cs.drop off).length:=by
      have:=c1.1;rw [hoff,hsz,Z10] at this;omega
     rw [Z6,List.take_add,Z92]
     exact hc
   have hall:∀f∈fs.toList,∃y,DataW.trod enc P W 0 (λ_=>true) true m f.type ((cs.drop f.offset).take (P.cellsOf f.type))=some y:=by
    intro f hf'
    obtain ⟨i,hi,rfl⟩:=Z76 hf'
    have hi':i<fs.size:=by simpa using hi
    have:=hf i (fs.toList[i]) (by simp [hi'])
    rw [Z1 (by omega)] at this
    exact ⟨_,this⟩
   obtain ⟨vs,hv⟩:=key fs.toList 0 _ h1 hall
   refine ⟨vs,?_⟩
   rwa [Z59,Z18 (by omega)] at hv
  ·rename_i m e ht
   obtain ⟨l',h1,h2⟩:=Z7.1 h
   split at h2
   case isFalse=>simp at h2
   rename_i hsz
   simp at h2;subst h2
   obtain ⟨xs,q,_,_,hlen,hxl,hf⟩:=DataW.trod_array ht hx
   have key:∀(k:Nat),k<=m->∃vs,Yt W (ctsA l' k) ((cs.drop ((m-k)*l'.length)).take (k*l'.length)) vs:=by
    intro k
    induction k with
    |zero=>intro _;exact ⟨[],by simpa [ctsA] using cellsR_nil W⟩
    |
     succ k ih=>
     intro hk
     obtain ⟨vs2,c2⟩:=ih (by omega)
     have h3:=hf (m-(k+1)) (by omega)
     rw [Z1 (by omega)] at h3
     obtain ⟨vs1,c1⟩:=Qdf n e l' h1 q _ _ h3
     refine ⟨vs1++vs2,?_⟩
     have hc:=Qlr c1 c2
     rw [hsz.1] at hc
     have e1:(m-k)*l'.length=(m-(k+1))*l'.length+l'.length:=by
      rw [<-Nat.succ_mul];congr 1;omega
     have e2:(k+1)*l'.length=l'.length+k*l'.length:=by rw [Nat.succ_mul,Nat.add_comm]
     rw [e1,<-Z92] at hc
     rw [e2,List.take_add]
     exact hc
   obtain ⟨vs,hv⟩:=key m (Z3 _)
   refine ⟨vs,?_⟩
   rwa [Nat.sub_self,Nat.zero_mul,Z59,Z18 (by omega)] at hv
  ·rename_i e ht
   obtain ⟨l',h1,h2⟩:=Z7.1 h
   obtain ⟨ss,h3,h4⟩:=Z7.1 h2
   split at h4
   case isFalse=>simp at h4
   rename_i hsz
   simp at h4;subst h4
   rcases Go.Deep.open_slice ht hx with ⟨rfl,_⟩|⟨a,len,cap,m,q,D,Pl,rfl,_,hl,hm,hmm,_,hi⟩
   ·obtain ⟨v,k1,k2⟩:=Qr5 (W:=W) hsz.2
    exact ⟨[v],Qby ⟨k1,k2,rfl⟩⟩
   ·simp only [if_true] at hmm
    subst hmm
    rw [hsz.1] at hi
    obtain ⟨v,k1,k2⟩:=Qvo (t:=0) (e:=0) (n:=0) (m:=0) h3 hsz.2 hl hm λi hi'=>by
     obtain ⟨cs',c1,c2⟩:=hi i (by omega)
     obtain ⟨vs,c3⟩:=Qdf n e l' h1 q _ _ c2
     exact ⟨cs',vs,c1,c3⟩
    exact ⟨[v],Qby ⟨k1,k2,rfl⟩⟩
  ·simp at h
inductive AT where
 |one (c:CT)
 |agg (l:List CT)
def okA:AT->V->Prop
 |.one c,v=>okC c v
 |.agg l,v=>∃vs,v=.agg vs/\okCL l vs
def okAL:List AT->List V->Prop
 |[],vs=>vs=[]
 |c::cs,vs=>∃v l,vs=v::l/\okA c v/\okAL cs l
def atOf (P:Program) (n:Nat) (t:TypeId):Option AT:=
 (cts P n t).bind λl=>match P.underlying t with
  |some (.struct _)|some (.array _ _)=>some (.agg l)
  |
   _=>match l with
   |[c]=>some (.one c)
   |_=>none
def Qbi (P:Program) (n:Nat):List TypeId->Option (List AT)
 |[]=>some []
 |t::ts=>(atOf P n t).bind λx=>(Qbi P n ts).map (x :: ·)
theorem Qs9 {n:Nat} {t:TypeId} {q:AT} (hq:atOf P n t=some q) {base:Nat} {v:Value} {d:DataW H} {ps:List MemPlace} (hval:Value.okWide P W .any base t v) (h:DataW.Trod enc P W 0 (λ_=>true) true t v d ps) :
  ∃x,okA q x/\Rep0 noO W v x:=by
 obtain ⟨l,h1,h2⟩:=Z7.1 hq
 obtain ⟨fuel,hf⟩:=h
 obtain ⟨vs,hv⟩:=Qdf n t l h1 fuel _ _ hf
 have aggCase:(∃cs,v=.agg cs)->∃x,okA (.agg l) x/\Rep0 noO W v x:=by
  rintro ⟨cs,rfl⟩
  have hc:(Value.agg cs).cells.toList=cs.toList:=rfl
  rw [hc] at hv
  refine ⟨.agg vs,⟨vs,rfl,Qhc hv⟩,.agg cs vs (by have:=hv.1;have:=hv.2.1;simp at *;omega) (λj hj=>?_) (λj hj=>?_)⟩ <;>
  ·have hj1:j<cs.size:=by have:=hv.1;have:=hv.2.1;simp at *;omega
   have:=hv.2.2 j (l[j]'(by have:=hv.2.1;omega)) cs[j] vs[j] (by simp) (by simp [hj1]) (by simp)
   have e:cs.getD j Go.undef=cs[j]:=by simp [Array.getD,hj1]
   rw [e]
   first|exact this.2.2|exact this.2.1
 split at h2
 ·rename_i fs ht
  simp at h2;subst h2
  obtain ⟨cs,rfl,_⟩:=okWide_struct ht hval
  exact aggCase ⟨cs,rfl⟩
 ·rename_i m e ht
  simp at h2;subst h2
  unfold Value.okWide at hval
  rw [ht] at hval
  obtain ⟨cs,rfl,_⟩:=hval
  exact aggCase ⟨cs,rfl⟩
 ·rename_i hns hna
  split at h2
  case h_2=>simp at h2
  rename_i c
  simp at h2;subst h2
  obtain ⟨a1,a2,a3⟩:=hv
  match vs,a2 with
  |
   [x],_=>
   have hcells:v.cells = #[v]:=by
    cases v with
    |
     agg cs=>
     exfalso
     unfold Value.okWide at hval
     cases n with
     |zero=>simp [cts] at h1
     |
      succ n=>
      unfold cts at h1
      split at h1<;>rename_i ht
      ·rw [ht] at hval;simp [Cell.okWide,Cell.ok,ht] at hval
      ·rw [ht] at hval;simp [Cell.okWide,Cell.ok,ht] at hval
      ·rw [ht] at hval;simp [Cell.okWide,Cell.ok,ht] at hval
      ·exact hns _ ht
      ·exact hna _ _ ht
      ·rw [ht] at hval;simp [Cell.okWide,Cell.ok,ht] at hval
      ·simp at h1
    |_=>rfl
   rw [hcells] at a3
   have:=a3 0 c v x rfl rfl rfl
   exact ⟨x,this.1,this.2.1⟩
theorem Qlh {n:Nat}:∀{ts:List TypeId} {qs:List AT} {args:List Value} {ds:List (DataW H)} {ps:List MemPlace} {base:Nat},Qbi P n ts=some qs->DataW.TrodAll enc P W 0 (λ_=>true) true ts args ds ps ->
  (∀(j:Nat) t v,ts[j]? = some t->args[j]? = some v->Value.okWide P W .any base t v) ->
  ∃vs,args.length=vs.length/\okAL qs vs/\∀j (h:j<vs.length),Rep0 noO W (args.getD j Go.undef) vs[j]
 |
  [],qs,args,ds,ps,base,hq,h,_=>by
  simp [Qbi] at hq;subst hq
  obtain ⟨rfl,rfl,rfl⟩:=trodAll_nil h
  exact ⟨[],rfl,rfl,λj h=>by simp at h⟩
 |
  t::ts,qs,args,ds,ps,base,hq,h,hval=>by
  simp only [Qbi,Z7,Z19] at hq
  obtain ⟨q,hq1,qs',hq2,rfl⟩:=hq
  obtain ⟨v,vs,d,ds',p,p',rfl,rfl,rfl,h1,h2⟩:=trodAll_cons h
  obtain ⟨x,k1,k2⟩:=Qs9 hq1 (hval 0 t v rfl rfl) h1
  obtain ⟨xs,l1,l2,l3⟩:=Qlh hq2 h2 λj t v a b=>hval (j+1) t v (by simpa using a) (by simpa using b)
  refine ⟨x::xs,by simp [l1],⟨x,xs,rfl,k1,l2⟩,λj hj=>?_⟩
  cases j with
  |zero=>exact k2
  |succ j=>simpa using l3 j (by simpa using hj)
theorem Qus {ts:List TypeId} (hl:laidOutB P=true) (hr:ts.all (λt=>P.readableRec t&&decide (t<P.types.size))=true) {W':World} (hb:Below W.heap.size W W') {sp:Nat->Bool} :
  ∀
   {vs:List Value} {ds:List (DataW H)} {ps:List MemPlace},DataW.TrodAll enc P W 0 (λ_=>true) true ts vs ds ps->(∀x∈ps,x.block<W.heap.size)->(∀x∈ps,sp x.block=true) ->
   DataW.TrodAll enc P W' 0 sp true ts vs ds ps:=by
 induction ts with
 |
  nil=>
  intro vs ds ps h _ _
  obtain ⟨rfl,rfl,rfl⟩:=trodAll_nil h
  exact trodAll_mk0
 |
  cons t ts ih=>
  intro vs ds ps h hlt hsp
  obtain ⟨v,vs',d,ds',p,p',rfl,rfl,rfl,h1,h2⟩:=trodAll_cons h
  simp only [List.all_cons,Z4,decide_eq_true_eq] at hr
  exact trodAll_cons_mk (WideElems.Trod_stays hl hr.1.1 hr.1.2 h1 (λx hx=>hb.same (hlt x (by simp [hx]))) (λx hx=>hsp x (by simp [hx])))
   (ih hr.2 h2 (λx hx=>hlt x (by simp [hx])) (λx hx=>hsp x (by simp [hx])))
theorem Qor {f:Func} {s:ChangeSpec} {apart fresh handsOn again:Bool} {W W':World} {args:Array Value} {v:Value} {ds gs:List (DataW H)} {before pa pv:List MemPlace}
  (hW:DataW.Whole enc P f.params.toList s.vars apart W args.toList ds gs before)
  (hres:∀(b:Nat) (sp:Nat->Bool) (hd:Bool),DataW.TrodAll enc P W' b sp hd f.resultTypes.toList (v.resultList f.resultTypes.size) (s.fn H (ds++gs)).results [])
  (hargs:∀sp:Nat->Bool,(∀p∈before,sp p.block=true)->DataW.TrodAll enc P W' 0 sp true f.params.toList args.toList (s.fn H (ds++gs)).args pa)
  (hvars:∀sp:Nat->Bool,(∀p∈before,sp p.block=true)->DataW.TrodVars enc P W' sp s.vars (s.fn H (ds++gs)).vars pv)
  (hps:before=pa++pv) (hb:Below W.heap.size W W')
  (hok:∀(j:Nat) (t:TypeId) (r:Value),f.resultTypes[j]? = some t->(v.resultList f.resultTypes.size)[j]? = some r->Value.okWide P W' .any 0 t r) :
  s.post enc P f apart fresh handsOn again W args v W':=by
 have hlt:∀p∈before,p.block<W.heap.size:=λp hp=>hW.lt p hp
 have hold:∀p∈before,(λb=>decide (b<W.heap.size)) p.block=true:=λp hp=>by simpa using hlt p hp
 refine ⟨ds,gs,before,[],pa,pv,hW,hres _ _ _,hargs _ hold,hvars _ hold,World.keptBut_mono (λp hp=>⟨hp,?_⟩) (hb.frame (·∈before)),λ_=>?_⟩
 ·rw [hps,Z22] at hp
  exact Or.inr hp
 ·obtain ⟨_,_,_,_,_,hz,hn⟩:=hW
  refine ⟨hok,_,_,([]++pa)++pv,⟨[]++pa,pv,trodAll_append (hargs _ (λ_ _=>rfl)) (hres _ _ _),hvars _ (λ_ _=>rfl),rfl,?_,?_⟩,?_⟩
  ·intro b off hp
   have hin:MemPlace.cell b off∈before:=by rw [hps];simpa using hp
   rw [hb.frozen (hlt _ hin)]
   exact hz b off hin
  ·intro ha
   have:=hn ha
   rw [hps] at this
   simpa using this
  ·intro p hp _
   rw [hps]
   simpa using hp
theorem Qu2 {g:Nat} {f:Func} {c:Code} (hf:FunOK P g f c) {s:ChangeSpec} {n:Nat} {qs:List AT} {tb:TypeId} (hl:laidOutB P=true) (hr:f.params.toList.all (λt=>P.readableRec t&&decide (t<P.types.size))=true)
  (hq:Qbi P n f.params.toList=some qs) (hres:f.resultTypes = #[tb]) (htb:P.underlying tb=some .bool) (hv:s.vars=[])
  (hs:∀ds:List (DataW H),ds.length=f.params.toList.length->s.fn H ds={results:=[.lit (.bool true)],args:=ds})
  (plain:∀vs,okAL qs vs->∃p r,SoundC P g vs p/\p.m=some r/\p.enc r=.bool true)
  (W:World) (base:Nat) (args:Array Value) (ds gs:List (DataW H)) (before:List MemPlace)
  (hval:∀(j:Nat) t v,f.params[j]? = some t->args[j]? = some v->Value.okWide P W .any base t v)
  (hW:DataW.Whole enc P f.params.toList s.vars false W args.toList ds gs before) :
  Calls P g args W λe W'=>∃v,e=.returned v/\s.post enc P f false true false false W args v W':=by
 have hW':=hW
 have hlt:∀p∈before,p.block<W.heap.size:=λp hp=>hW.lt p hp
 obtain ⟨p,q,hA,hV,rfl,hfz,hnd⟩:=hW
 have hA:DataW.TrodAll enc P W 0 (λ_=>true) true f.params.toList args.toList ds p:=hA
 rw [hv] at hV
 obtain ⟨rfl,rfl⟩:=trodVars_none hV
 obtain ⟨vs,h1,h2,h3⟩:=Qlh hq hA λj t v a b=>hval j t v (by simpa using a) (by simpa using b)
 obtain ⟨pk,r,hsound,hm,he⟩:=plain vs h2
 have hcall:=hsound noO W args r hm (by simpa using h1) (λj hj=>by
  have h4:=h3 j hj
  have:args.getD j Go.undef=args.toList.getD j Go.undef:=by
   have hj':j<args.size:=by rw [<-Z23,h1];exact hj
   simp [Array.getD,List.getD,hj']
  rwa [this]) (λb h=>h.elim)
 unfold CallR at hcall
 rw [hf.enters] at hcall
 have hlen:∀{ts:List TypeId} {vs:List Value} {ds:List (DataW H)} {ps:List MemPlace},DataW.TrodAll enc P W 0 (λ_=>true) true ts vs ds ps->ds.length=ts.length:=by
  intro ts
  induction ts with
  |nil=>intro vs ds ps h;obtain ⟨_,rfl,_⟩:=trodAll_nil h;rfl
  |cons t ts ih=>intro vs ds ps h;obtain ⟨_,_,_,_,_,_,_,rfl,_,_,h2⟩:=trodAll_cons h;simp [ih h2]
 refine hcall.mono λe W' h=>?_
 cases e with
 |
  returned cv=>
  obtain ⟨hg,hrep⟩:=h
  rw [he] at hrep
  obtain rfl:cv=.bool true:=by
   cases hrep
   ·rfl
   ·rename_i hf _;cases hf
  have hb:Below W.heap.size W W':=⟨hg.os,hg.tape,hg.output,hg.size,λk hk=>hg.block k hk (by simp)⟩
  have hfn:=hs ds (hlen hA)
  refine ⟨_,rfl,Qor (pa:=p) (pv:=[]) hW' ?_ ?_ ?_ rfl hb ?_⟩
  ·intro b sp hd
   rw [Z35,hfn,hres]
   exact trodAll_cons_mk (shut_bool htb _) trodAll_mk0
  ·intro sp hsp
   rw [Z35,hfn]
   exact Qus hl hr hb hA (λx hx=>hlt x (by simp [hx])) (λx hx=>hsp x (by simp [hx]))
  ·intro sp hsp
   rw [Z35,hfn,hv]
   rfl
  ·exact ok_one hres rfl (okWide_bool_mk htb _)
 |_=>exact h.elim
end
end
end Go.Proofs.YtihfdjkjpncjfaaGreatDoor.A
end
section
namespace Go.Proofs.YtihfdjkjpncjfaaGreatDoor.A
open Go
theorem own:ownKnob Tryz.prog.godebug=none:=by kernel_rfl
theorem laidOut:laidOutB Tryz.prog=true:=by kernel_rfl
theorem rowed:mapsRowed Tryz.prog=true:=by kernel_rfl
theorem Qvj:(Tryz.prog.stops == [])=true:=by kernel_rfl
theorem Qq0:(Tryz.prog.stopKnobs == [])=true:=by kernel_rfl
theorem Qnw:Tryz.prog.stopsHeard=true:=by kernel_rfl
theorem Qq5:Tryz.prog.mayEnter=true:=by kernel_rfl
theorem Qpg:false=Tryz.prog.looks []:=by kernel_rfl
theorem main:Tryz.pinned.checked.prog.mainIs=some (true,("865417fab56b13a282402552e48e6d2f50d2bb4136acd6c04ea7e0746bf992cd":String).toList):=by kernel_rfl
noncomputable def relay (l:J0):Obj->Obj
 |.cells _ t fz=>.cells (l.map λn=>Value.int .u8 n).toArray t fz
 |o=>o
noncomputable def accept:J0:=[128,191,160,191,128,159,144,191,128,143,0,0,0,0,0,0,0,0,0,0,0,0,0,0,0,0,0,0,0,0,0,0]
noncomputable def Qfz (os:Os):World:=
 let w:=World.holding Tryz.prog os ⟨#[],#[],[]⟩
 {w with heap:=(w.heap.modify 3 (relay (Go.Pinned.utf8FirstZ.map Int.ofNat))).modify 4 (relay accept)}
def Runs {σ R:Type} (F:(σ->Option R)->σ->Option R) (x:σ) (r:R):Prop:=
 (∃n,Q7 F n x=some r)/\∀n,Q7 F n x=none\/Q7 F n x=some r
theorem Runs.done {σ R:Type} {F:(σ->Option R)->σ->Option R} {x:σ} {r:R} (h:∀rec,F rec x=some r):Runs F x r:=by
 refine ⟨⟨1,h _⟩,λn=>?_⟩
 cases n with
 |zero=>exact .inl rfl
 |succ n=>exact .inr (h _)
theorem Runs.step {σ R:Type} {F:(σ->Option R)->σ->Option R} {x y:σ} {r:R} (h:∀rec,F rec x=rec y) (hy:Runs F y r):Runs F x r:=by
 obtain ⟨⟨m,hm⟩,ha⟩:=hy
 refine ⟨⟨m+1,by rw [<-hm];exact h _⟩,λn=>?_⟩
 cases n with
 |zero=>exact .inl rfl
 |succ n=>have:=ha n;rw [<-h (Q7 F n)] at this;exact this
theorem Runs.lfp {σ R:Type} {F:(σ->Option R)->σ->Option R} {x:σ} {r:R} (h:Runs F x r):A.lfp F x=some r:=by
 obtain ⟨⟨m,hm⟩,ha⟩:=h
 unfold A.lfp
 have hex:∃n,(Q7 F n x).isSome:=⟨m,by rw [hm];rfl⟩
 rw [dif_pos hex]
 rcases ha (Classical.choose hex) with h0|h0
 ·have:=Classical.choose_spec hex
  rw [h0] at this;simp at this
 ·exact h0
theorem Qg {n:Int} (h1:-9223372036854775808<=n) (h2:n<9223372036854775808):wr .i64 n=n:=by
 simp only [wr,IntKind.wrap,IntKind.signed,IntKind.bits]
 simp;omega
theorem Qp {n:Int} (h1:0<=n) (h2:n<18446744073709551616):wr .u64 n=n:=by
 simp only [wr,IntKind.wrap,IntKind.signed,IntKind.bits]
 simp;omega
theorem W9 (n:Int):wr .u64 n=n%18446744073709551616:=by
 simp [wr,IntKind.wrap,IntKind.signed,IntKind.bits]
theorem Qak {n:Int} (h1:0<=n) (h2:n<256):wr .u8 n=n:=by
 simp only [wr,IntKind.wrap,IntKind.signed,IntKind.bits]
 simp;omega
theorem Qp2 {n:Int} (h:(Lit.int .u32 n).wf=true):0<=n/\n<4294967296:=by
 simp [Lit.wf,IntKind.min,IntKind.max,IntKind.signed,IntKind.bits] at h;omega
theorem Qfy {n:Int} (h:(Lit.int .u8 n).wf=true):0<=n/\n<256:=by
 simp [Lit.wf,IntKind.min,IntKind.max,IntKind.signed,IntKind.bits] at h;omega
theorem Qck {a b:Int} (h:0<=a):Int.tdiv a b=a/b:=Int.tdiv_eq_ediv_of_nonneg h
theorem Qbo {a b:Int} (h:0<=a):Int.tmod a b=a%b:=Z38 h
def toB (B n:Nat):J0:=if h:2<=B/\0<n then ((n%B:Nat):Int)::toB B (n/B) else []
termination_by n
decreasing_by exact Z89 h.2 h.1
def valB (B:Nat):J0->Int
 |[]=>0
 |x::l=>x+B*valB B l
theorem toB_zero (B:Nat):toB B 0=[]:=by unfold toB;rw [dif_neg];omega
theorem Wq {B n:Nat} (hB:2<=B) (hn:0<n):toB B n=((n%B:Nat):Int)::toB B (n/B):=by
 rw [toB];rw [dif_pos ⟨hB,hn⟩]
def inB (B:Nat) (l:J0):Prop:=∀x∈l,0<=x/\x<B
theorem Jd {B:Nat} {x:Int} {l:J0}:inB B (x::l)↔(0<=x/\x<B)/\inB B l:=by simp [inB]
theorem Qed (B:Nat):inB B []:=by simp [inB]
theorem Qn8 {B:Nat} {l l':J0}:inB B (l++l')↔inB B l/\inB B l':=by
 simp only [inB,Z22]
 exact ⟨λh=>⟨λx hx=>h x (.inl hx),λx hx=>h x (.inr hx)⟩,λh x hx=>hx.elim (h.1 x) (h.2 x)⟩
theorem Wi {B:Nat} (hB:2<=B) (n:Nat):inB B (toB B n):=by
 induction n using Nat.strongRecOn with
 |
  _ n ih=>
  rcases Z16 n with rfl|hn
  ·rw [toB_zero];exact Qed B
  ·rw [Wq hB hn,Jd]
   refine ⟨⟨by omega,?_⟩,ih _ (Z89 hn hB)⟩
   exact_mod_cast Z88 n (by omega)
theorem W5 {B:Nat} (hB:2<=B) (n:Nat):valB B (toB B n)=n:=by
 induction n using Nat.strongRecOn with
 |
  _ n ih=>
  rcases Z16 n with rfl|hn
  ·rw [toB_zero];rfl
  ·rw [Wq hB hn,valB,ih _ (Z89 hn hB)]
   exact_mod_cast Nat.mod_add_div n B
theorem Qet {B:Nat}:∀{l:J0},inB B l->0<=valB B l
 |[],_=>Int.le_refl 0
 |
  x::l,h=>by
  rw [Jd] at h
  have:=Qet h.2
  have:=Z80 (Int.natCast_nonneg B) this
  unfold valB;omega
theorem Qd7 {B:Nat} (hB:2<=B):∀{l:J0},inB B l->valB B l<(B^l.length:Nat)
 |[],_=>by simp [valB]
 |
  x::l,h=>by
  rw [Jd] at h
  have h1:=Qd7 hB h.2
  have h2:(B:Int)*(valB B l+1)<=B*(B^l.length:Nat):=Int.mul_le_mul_of_nonneg_left (by omega) (by omega)
  have h3:(B:Int)*(valB B l+1)=B*valB B l+B:=by rw [Int.mul_add,Int.mul_one]
  have h4:((B^(x::l).length:Nat):Int)=B*(B^l.length:Nat):=by
   rw [Z8,Z55,Z54];exact_mod_cast rfl
  rw [h4];unfold valB;omega
theorem Qgs (B:Nat):∀(l l':J0),valB B (l++l')=valB B l+(B^l.length:Nat)*valB B l'
 |[],l'=>by simp [valB]
 |
  x::l,l'=>by
  rw [Z86,valB,valB,Qgs B l l',Z8,Z55,Z54 (B^l.length) B,Z43,Int.mul_add,Int.mul_assoc,Int.add_assoc]
theorem Qgb {B:Nat} (hB:2<=B):∀{l:J0},inB B l->(∀h:l≠[],l.getLast h≠0)->l=toB B (valB B l).toNat
 |[],_,_=>by simp [valB,toB_zero]
 |
  x::l,h,hl=>by
  rw [Jd] at h
  have hn:=Qet h.2
  have ih:=Qgb hB h.2 λhne=>by have:=hl (by simp);rwa [List.getLast_cons hne] at this
  have hpos:0<(valB B (x::l)).toNat:=by
   have hm:=Z80 (Int.natCast_nonneg B) hn
   unfold valB
   by_cases hx:x=0
   ·have hne:l≠[]:=λe=>by subst e;exact hl (by simp) (by simpa using hx)
    have:0<valB B l:=by
     rcases Int.lt_or_eq_of_le hn with h0|h0
     ·exact h0
     ·rw [<-h0] at ih;simp [toB_zero] at ih;exact absurd ih hne
    have:=Int.mul_pos (show (0:Int)<B by omega) this
    omega
   ·omega
  have e1:(valB B (x::l)).toNat=x.toNat+B*(valB B l).toNat:=by
   have hv:valB B (x::l)=x+B*valB B l:=rfl
   rw [hv]
   have hm:=Z80 (Int.natCast_nonneg B) hn
   have:((B*(valB B l).toNat:Nat):Int)=B*valB B l:=by rw [Z43,Int.toNat_of_nonneg hn]
   omega
  have hx:x.toNat<B:=by omega
  rw [Wq hB hpos,e1,Nat.add_mul_mod_self_left,Nat.mod_eq_of_lt hx,Nat.add_mul_div_left _ _ (by omega),Nat.div_eq_of_lt hx,Z24,<-ih,Int.toNat_of_nonneg h.1.1]
theorem Qod {B:Nat} (hB:2<=B) (n:Nat):∀h:toB B n≠[],(toB B n).getLast h≠0:=by
 induction n using Nat.strongRecOn with
 |
  _ n ih=>
  intro h
  rcases Z16 n with rfl|hn
  ·exact absurd (toB_zero B) h
  ·have e:=Wq hB hn
   simp only [e]
   by_cases hq:toB B (n/B)=[]
   ·simp only [hq,List.getLast_singleton]
    have h0:n/B=0:=by
     rcases Z16 (n/B) with h0|h0
     ·exact h0
     ·rw [Wq hB h0] at hq;simp at hq
    have:n<B:=by
     rcases Z65 n B with h1|h1
     ·exact h1
     ·have:=Nat.div_pos h1 (by omega);omega
    rw [Nat.mod_eq_of_lt this];omega
   ·rw [List.getLast_cons hq]
    exact ih _ (Z89 hn hB) hq
theorem toB_nil {B n:Nat} (hB:2<=B):toB B n=[]↔n=0:=by
 constructor
 ·intro h
  rcases Z16 n with h0|h0
  ·exact h0
  ·rw [Wq hB h0] at h;simp at h
 ·rintro rfl;exact toB_zero B
theorem Qgj {B n:Nat} (hB:2<=B):n<B^(toB B n).length:=by
 have:=Qd7 hB (Wi hB n)
 rw [W5 hB] at this
 exact_mod_cast this
theorem Y4 {B:Nat} (hB:2<=B):∀{k n:Nat},n<B^k->(toB B n).length<=k
 |0,n,h=>by
         have:n=0:=by simpa using h
         subst this;simp [toB_zero]
 |
  k+1,n,h=>by
  rcases Z16 n with rfl|hn
  ·simp [toB_zero]
  ·rw [Wq hB hn,Z8]
   have:n/B<B^k:=Nat.div_lt_of_lt_mul (by rw [Z55,Z54] at h;exact h)
   have:=Y4 hB this
   omega
theorem Quy {B n:Nat} (hB:2<=B) (hn:0<n):B^((toB B n).length-1)<=n:=by
 rcases Z65 n (B^((toB B n).length-1)) with h|h
 ·have h1:=Y4 hB h
  have h2:toB B n≠[]:=λe=>by rw [toB_nil hB] at e;omega
  have:=Z30.2 h2
  omega
 ·exact h
theorem bif_t {α:Type} {p:Prop} [Decidable p] {a b:α} (h:p):(bif decide p then a else b)=a:=by simp [h]
theorem Qc {α:Type} {p:Prop} [Decidable p] {a b:α} (h:¬p):(bif decide p then a else b)=b:=by simp [h]
abbrev Qa3 {α:Type} (l:List α):Prop:=l.length<=1000000000
abbrev dg (n:Nat):J0:=toB 10000 n
theorem b4:2<=10000:=by decide
theorem Qag {B:Nat} {l:J0} {n:Nat} (h:n<l.length):valB B (l.take (n+1))=valB B (l.take n)+(B^n:Nat)*l[n]:=by
 rw [List.take_succ_eq_append_getElem h,Qgs,Z10,Nat.min_eq_left (by omega)]
 simp [valB]
theorem Wu {l:J0} {n:Nat} (h:n<l.length):l.getD n 0=l[n]:=by simp [List.getD,h]
theorem Qq7 {B:Nat} (hB:2<=B) {l:J0} (hl:inB B l) (hs:Qa3 l):z127.F l=some (toB B (valB B l).toNat):=by
 have key:∀n:Nat,n<=l.length->∃m:Nat,m<=n/\Runs (λrec x=>z127.l0P l rec some x) (n:Int) (m:Int)/\valB B (l.take m)=valB B (l.take n)/\(m=0\/l.getD (m-1) 0≠0):=by
  intro n
  induction n with
  |zero=>exact λ_=>⟨0,Z3 0,.done λrec=>by simp [z127.l0P],rfl,.inl rfl⟩
  |
   succ n ih=>
   intro hn
   have hs':l.length<=1000000000:=hs
   have e:wr .i64 (((n+1:Nat):Int)-1)=(n:Int):=by rw [Qg]<;>omega
   have e0:((n+1:Nat):Int)>0:=by omega
   have e1:(0:Int)<=(n:Int)/\(n:Int)<(l.length:Int):=by omega
   by_cases hz:l.getD n 0=0
   ·obtain ⟨m,h1,h2,h3,h4⟩:=ih (by omega)
    refine ⟨m,by omega,.step (λrec=>?_) h2,?_,h4⟩
    ·unfold z127.l0P
     rw [bif_t e0,e,if_pos e1,Zi,bif_t hz]
    ·rw [h3,Qag (show n<l.length by omega),<-Wu,hz];simp
   ·refine ⟨n+1,Z3 _,.done λrec=>?_,rfl,.inr (by simpa using hz)⟩
    unfold z127.l0P
    rw [bif_t e0,e,if_pos e1,Zi,Qc hz]
 obtain ⟨m,h1,h2,h3,h4⟩:=key l.length (Z3 _)
 unfold z127.F z127.l0
 rw [h2.lfp]
 simp only [Zb]
 rw [if_pos (by omega),Zi]
 rw [Z62] at h3
 rw [<-h3]
 congr 1
 apply Qgb hB (λx hx=>hl x (Z42 hx))
 intro hne
 rcases h4 with rfl|h4
 ·simp at hne
 ·rw [List.getLast_eq_getElem]
  have hm:0<m:=by
   rcases Z16 m with h0|h0
   ·subst h0;simp at hne
   ·exact h0
  rw [Wu (by omega)] at h4
  simp only [Z10,List.getElem_take]
  have:min m l.length-1=m-1:=by omega
  simp only [this]
  exact h4
theorem Qj0 {n:Nat} (hn:n<9223372036854775808):z16.F (n:Int)=some (dg n):=by
 have key:∀(n:Nat),n<9223372036854775808->∀s:J0,Qa3 s->(s.length+(dg n).length<=1000000000)->Runs (λrec x=>z16.l0P rec some x) ((n:Int),s) ((0:Int),s++dg n):=by
  intro n
  induction n using Nat.strongRecOn with
  |
   _ n ih=>
   intro hn s hs hl
   rcases Z16 n with rfl|h0
   ·refine .done λrec=>?_
    simp [z16.l0P,toB_zero]
   ·have e:dg n=((n%10000:Nat):Int)::dg (n/10000):=Wq b4 h0
    have hd:n/10000<n:=Z89 h0 (by decide)
    rw [e] at hl ⊢
    have h2:=ih (n/10000) hd (by omega) (s++[((n%10000:Nat):Int)]) (by simp at *;omega) (by simp at *;omega)
    rw [Z50,List.singleton_append] at h2
    refine .step (λrec=>?_) h2
    unfold z16.l0P
    simp only
    have e1:Int.tmod (n:Int) 10000=((n%10000:Nat):Int):=by rw [Qbo (by omega)];rfl
    have e2:wr .i64 (Int.tdiv (n:Int) 10000)=((n/10000:Nat):Int):=by rw [Qck (by omega),Qg (by omega) (by omega)];rfl
    rw [bif_t (by omega),if_pos (by simp at *;omega),e1,e2]
 unfold z16.F z16.l0
 have hl:(dg n).length<=5:=Y4 b4 (by omega)
 rw [(key n hn [] (by simp) (by simp;omega)).lfp]
 simp
def ch (d:Int):UInt8:=UInt8.ofNat (48+d.toNat)
def txt (n:Nat):J1:=if n=0 then [48] else (toB 10 n).reverse.map ch
theorem b10:2<=10:=by decide
theorem Qcv {d:Int} (h0:0<=d) (h:d<10):(ch d).toNat=48+d.toNat:=by
 unfold ch;rw [UInt8.toNat_ofNat'];omega
def dig4 (d:Int):J0:=[d%10,d/10%10,d/100%10,d/1000%10]
theorem Qse {d:Int} (h0:0<=d):inB 10 (dig4 d):=by
 intro x hx;simp [dig4] at hx;rcases hx with rfl|rfl|rfl|rfl<;>omega
theorem Qpe {d:Int} (h0:0<=d) (h:d<10000):valB 10 (dig4 d)=d:=by simp [dig4,valB];omega
theorem Qlk:∀{l:J0},inB 10000 l->inB 10 (l.flatMap dig4)
 |[],_=>Qed 10
 |x::l,h=>by rw [Jd] at h;rw [Z79,Qn8];exact ⟨Qse h.1.1,Qlk h.2⟩
theorem Qma:∀{l:J0},inB 10000 l->valB 10 (l.flatMap dig4)=valB 10000 l
 |[],_=>rfl
 |
  x::l,h=>by
  rw [Jd] at h
  rw [Z79,Qgs,Qpe h.1.1 h.1.2,Qma h.2]
  simp [dig4,valB]
theorem Qfl:∀(l:J0),(l.flatMap dig4).length=4*l.length
 |[]=>rfl
 |x::l=>by rw [Z79,Z6,Qfl l];simp [dig4];omega
theorem Qtz (s:J1) (hs:Qa3 s) (d:Int) (h0:0<=d) (hd:d<10000):∃d',z10.l2 (s,d,(0:Int))=some (((dig4 d).reverse.map ch)++s,d',4):=by
 have hs':s.length<=1000000000:=hs
 have one:∀(s:J1) (d:Int) (k:Nat),s.length<=1000000004->0<=d->d<10000->k<4->∀rec,z10.l2P rec some (s,d,(k:Int))=rec (ch (d%10)::s,d/10,((k+1:Nat):Int)):=by
  intro s d k hs h0 hd hk rec
  unfold z10.l2P
  simp only
  rw [bif_t (by omega),if_pos (by simp;omega),Qbo h0,Qck h0,Qg (n:=48+d%10) (by omega) (by omega),Qak (by omega) (by omega),Qg (n:=d/10) (by omega) (by omega),Qg (by omega) (by omega)]
  have:(48+d%10).toNat=48+(d%10).toNat:=by omega
  simp [ch,this]
 refine ⟨d/10/10/10/10,?_⟩
 unfold z10.l2
 refine Runs.lfp (.step (one s d 0 (by omega) h0 hd (by decide)) (.step (one _ (d/10) 1 (by simp;omega) (by omega) (by omega) (by decide)) (.step (one _ (d/10/10) 2 (by simp;omega) (by omega) (by omega) (by decide)) (.step (one _ (d/10/10/10) 3 (by simp;omega) (by omega) (by omega) (by decide)) (.done λrec=>?_)))))
 unfold z10.l2P
 simp only
 rw [Qc (by omega)]
 have e1:d/10/10=d/100:=by omega
 have e2:d/10/10/10=d/1000:=by omega
 simp [dig4,e1,show d/100/10=d/1000 by omega]
theorem Qp1 {l:J0} (hl:inB 10000 l) (hs:4*l.length<=1000000000):z10.l0 l ([],(0:Int))=some ((l.flatMap dig4).reverse.map ch,(l.length:Int)):=by
 have key:∀(k:Nat),k<=l.length->Runs (λrec x=>z10.l0P l rec some x) (((l.take (l.length-k)).flatMap dig4).reverse.map ch,((l.length-k:Nat):Int)) ((l.flatMap dig4).reverse.map ch,(l.length:Int)):=by
  intro k
  induction k with
  |
   zero=>
   intro _
   refine .done λrec=>?_
   unfold z10.l0P
   simp
  |
   succ k ih=>
   intro hk
   have hi:l.length-(k+1)<l.length:=by omega
   have hm:=hl l[l.length-(k+1)] (Z9 hi)
   obtain ⟨d',h2⟩:=Qtz (((l.take (l.length-(k+1))).flatMap dig4).reverse.map ch) (by
    show List.length _<=_;rw [Z28,List.length_reverse,Qfl,Z10];omega) _ hm.1 hm.2
   refine .step (λrec=>?_) (ih (by omega))
   unfold z10.l0P
   simp only
   rw [bif_t (by omega),if_pos (by omega),Zi,Wu hi,h2]
   simp only [Zb]
   rw [Qg (by omega) (by omega)]
   have e:l.take (l.length-k)=l.take (l.length-(k+1))++[l[l.length-(k+1)]]:=by
    rw [<-List.take_succ_eq_append_getElem hi];congr 1;omega
   have e2:((l.length-(k+1):Nat):Int)+1=((l.length-k:Nat):Int):=by omega
   rw [e,e2,List.flatMap_append]
   simp only [Z79,List.flatMap_nil,Z35,List.reverse_append,Z52]
 have:=key l.length (Z3 _)
 simp only [Nat.sub_self,List.take_zero,List.flatMap_nil,List.reverse_nil,List.map_nil] at this
 exact this.lfp
theorem Qi2 {d:Int} (h0:0<=d) (h:d<10):((ch d).toNat:Int)=48↔d=0:=by rw [Qcv h0 h];omega
theorem Qsi {n:Nat} (hs:4*(dg n).length<=1000000000):z10.F (dg n)=some (txt n):=by
 unfold z10.F txt
 by_cases hn:n=0
 ·subst hn;simp [dg,toB_zero]
 ·have hne:dg n≠[]:=λe=>hn ((toB_nil b4).1 e)
  have hlen:=Z30.2 hne
  rw [Qc (by omega),if_neg hn,Qp1 (Wi b4 n) hs]
  simp only [Zb]
  generalize hfl:(dg n).flatMap dig4=fl
  have hin:inB 10 fl:=by rw [<-hfl];exact Qlk (Wi b4 n)
  have hv:valB 10 fl=n:=by rw [<-hfl,Qma (Wi b4 n),W5 b4]
  have hl:fl.length<=1000000000:=by rw [<-hfl,Qfl];exact hs
  have key:∀k:Nat,k<=fl.length->valB 10 (fl.take k)=n->∃m:Nat,m<=k/\Runs (λrec x=>z10.l4P (fl.reverse.map ch) rec some x) ((fl.length-k:Nat):Int) ((fl.length-m:Nat):Int)/\valB 10 (fl.take m)=n/\(m=0\/fl.getD (m-1) 0≠0):=by
   intro k
   induction k with
   |zero=>intro _ h;simp [valB] at h;omega
   |
    succ k ih=>
    intro hk h
    have hi:fl.length-(k+1)<(fl.reverse.map ch).length:=by simp;omega
    have hk':k<fl.length:=by omega
    have hm:=hin fl[k] (Z9 hk')
    have eg:(fl.reverse.map ch).getD (fl.length-(k+1)) 0=ch fl[k]:=by
     have e0:fl.length-1-(fl.length-(k+1))=k:=by omega
     simp only [List.getD,Z1 hi,Z40,Z15,List.getElem_reverse,e0]
    by_cases hz:fl[k]=0
    ·obtain ⟨m,h1,h2,h3,h4⟩:=ih (by omega) (by rw [Qag hk',hz] at h;simpa using h)
     refine ⟨m,by omega,.step (λrec=>?_) h2,h3,h4⟩
     unfold z10.l4P
     rw [if_pos (by simp;omega),Zi,eg,bif_t ((Qi2 hm.1 hm.2).2 hz),Qg (by omega) (by omega)]
     congr 1;omega
    ·refine ⟨k+1,Z3 _,.done λrec=>?_,h,.inr (by rw [Nat.add_sub_cancel,Wu hk'];exact hz)⟩
     unfold z10.l4P
     rw [if_pos (by simp;omega),Zi,eg,Qc (λe=>hz ((Qi2 hm.1 hm.2).1 e))]
  obtain ⟨m,h1,h2,h3,h4⟩:=key fl.length (Z3 _) (by rw [Z62];exact hv)
  rw [Nat.sub_self] at h2
  unfold z10.l4
  rw [show (0:Int)=((0:Nat):Int) from rfl,h2.lfp]
  simp only [Zb]
  rw [if_pos (by rw [Z28,List.length_reverse];omega),Zi]
  have hm:m≠0:=by rintro rfl;simp [valB] at h3;omega
  have e:fl.take m=toB 10 n:=by
   have:=Qgb b10 (l:=fl.take m) (λx hx=>hin x (Z42 hx)) λhne=>by
    rcases h4 with h4|h4
    ·exact absurd h4 hm
    ·rw [List.getLast_eq_getElem]
     rw [Wu (by omega)] at h4
     simp only [Z10,List.getElem_take]
     have:min m fl.length-1=m-1:=by omega
     simp only [this];exact h4
   rwa [h3,Zi] at this
  rw [<-e,<-List.map_drop,List.reverse_take]
theorem Qcc {B:Nat}:∀{l:J0} {j:Nat} {x:Int},j<l.length->valB B (l.set j x)=valB B l+(x-l.getD j 0)*(B^j:Nat)
 |y::l,0,x,_=>by simp [valB];omega
 |
  y::l,j+1,x,h=>by
  have:=Qcc (B:=B) (l:=l) (j:=j) (x:=x) (by simpa using h)
  rw [List.set_cons_succ,valB,valB,this,Z75,Z55,Z54 (B^j) B,Z43,Int.mul_add,Int.add_assoc]
  congr 2
  rw [Int.mul_left_comm]
theorem Qcl {B:Nat} {l:J0} {j:Nat} {x:Int} (h:inB B l) (hx:0<=x/\x<B):inB B (l.set j x):=λy hy=>by
 rcases List.mem_or_eq_of_mem_set hy with h1|rfl
 ·exact h y h1
 ·exact hx
theorem Qa4 {B:Nat}:∀(l:J0) (k:Nat),valB B (l.drop k)=l.getD k 0+B*valB B (l.drop (k+1))
 |[],k=>by simp [valB]
 |x::l,0=>by simp [valB]
 |x::l,k+1=>by rw [List.drop_succ_cons,List.drop_succ_cons,Z75];exact Qa4 l k
theorem Jn {B:Nat} (hB:0<B) {l:J0} (h:inB B l) (k:Nat):0<=l.getD k 0/\l.getD k 0<B:=by
 by_cases hk:k<l.length
 ·rw [Wu hk];exact h _ (Z9 hk)
 ·simp [List.getD,Z13 (show l.length<=k by omega)];omega
theorem Qjm {B:Nat} {l:J0} (h:inB B l) (k:Nat):inB B (l.take k):=λx hx=>h x (Z42 hx)
theorem Qdg (B:Nat):∀n:Nat,valB B (List.replicate n (0:Int))=0
 |0=>rfl
 |n+1=>by rw [List.replicate_succ,valB,Qdg B n];simp
theorem Qc4 {B:Nat} (hB:0<B) (n:Nat):inB B (List.replicate n (0:Int)):=λx hx=>by
 rw [List.mem_replicate] at hx;rw [hx.2];omega
def cmpI (m n:Int):Int:=if m<n then -1 else if m=n then 0 else 1
theorem Qtf {B:Nat} (hB:2<=B) {l:J0} (h:inB B l) {k:Nat} (hk:k<=l.length):valB B (l.take k)<(B^k:Nat):=by
 have:=Qd7 hB (Qjm h k)
 rwa [Z10,Nat.min_eq_left hk] at this
theorem Qjo {B:Nat} (hB:2<=B) {a b:J0} (ha:inB B a) (hb:inB B b) {k:Nat} (hka:k<a.length) (hkb:k<b.length) :
  (a[k]<b[k]->valB B (a.take (k+1))<valB B (b.take (k+1)))/\(a[k]=b[k]->(valB B (a.take (k+1))-valB B (b.take (k+1))=valB B (a.take k)-valB B (b.take k))):=by
 rw [Qag hka,Qag hkb]
 have h1:=Qtf hB ha (k:=k) (by omega)
 have h2:=Qet (Qjm hb k)
 refine ⟨λh=>?_,λh=>by rw [h];omega⟩
 have h3:((B^k:Nat):Int)*(a[k]+1)<=(B^k:Nat)*b[k]:=Int.mul_le_mul_of_nonneg_left (by omega) (by omega)
 rw [Int.mul_add,Int.mul_one] at h3
 omega
theorem Qgz {B m n:Nat} (hB:2<=B) (h:(toB B m).length<(toB B n).length):m<n:=by
 have h1:=Qgj (n:=m) hB
 have hn:0<n:=by
  rcases Z16 n with rfl|h0
  ·rw [toB_zero] at h;simp at h
  ·exact h0
 have h2:=Quy hB hn
 have h3:B^(toB B m).length<=B^((toB B n).length-1):=Z70 (by omega) (by omega)
 omega
def tv:Int->J1->Int
 |acc,[]=>acc
 |acc,b::s=>tv (10*acc+(b.toNat:Int)-48) s
def digit (b:UInt8):Prop:=48<=b.toNat/\b.toNat<=57
def Qw (s:J1):Prop:=∀b∈s,digit b
theorem Qdd:∀(s t:J1) (a:Int),tv a (s++t)=tv (tv a s) t
 |[],_,_=>rfl
 |b::s,t,a=>Qdd s t _
theorem Qcj:∀(s:J1) (a:Int),tv a s=a*(10^s.length:Nat)+tv 0 s
 |[],a=>by simp [tv]
 |
  b::s,a=>by
  have h1:=Qcj s (10*a+(b.toNat:Int)-48)
  have h2:=Qcj s (10*0+(b.toNat:Int)-48)
  show tv (10*a+(b.toNat:Int)-48) s=a*_+tv (10*0+(b.toNat:Int)-48) s
  rw [h1,h2,Z8,Z55,Z43]
  generalize ((10^s.length:Nat):Int)=p
  grind
theorem Jg:∀{s:J1},Qw s->0<=tv 0 s/\tv 0 s<(10^s.length:Nat)
 |[],_=>by simp [tv]
 |
  b::s,h=>by
  have hb:=h b (by simp)
  have ih:=Jg (s:=s) λx hx=>h x (by simp [hx])
  have e:tv 0 (b::s)=((b.toNat:Int)-48)*(10^s.length:Nat)+tv 0 s:=by
   show tv (10*0+(b.toNat:Int)-48) s=_
   rw [Qcj];simp
  have hp:(0:Int)<=(10^s.length:Nat):=Int.natCast_nonneg _
  unfold digit at hb
  have h1:0<=((b.toNat:Int)-48)*(10^s.length:Nat):=Z80 (by omega) hp
  have h2:((b.toNat:Int)-48)*(10^s.length:Nat)<=9*(10^s.length:Nat):=Int.mul_le_mul_of_nonneg_right (by omega) hp
  rw [e,Z8,Z55,Z43]
  omega
theorem Qj4:∀{l:J0},inB 10 l->tv 0 (l.reverse.map ch)=valB 10 l
 |[],_=>rfl
 |
  x::l,h=>by
  rw [Jd] at h
  rw [List.reverse_cons,Z52,Qdd,Qj4 h.2]
  show 10*valB 10 l+((ch x).toNat:Int)-48=x+10*valB 10 l
  rw [Qcv h.1.1 h.1.2];omega
theorem Qbb (n:Nat):Qw (txt n):=by
 unfold txt
 split
 ·intro b hb;simp at hb;subst hb;unfold digit;decide
 ·intro b hb
  rw [List.mem_map] at hb
  obtain ⟨d,hd,rfl⟩:=hb
  have:=Wi b10 n d (List.mem_reverse.1 hd)
  unfold digit
  rw [Qcv this.1 this.2];omega
theorem Qe1 (n:Nat):tv 0 (txt n)=n:=by
 unfold txt
 split
 ·rename_i h;subst h;decide
 ·rw [Qj4 (Wi b10 n),W5 b10]
theorem Qtl (n:Nat):txt n≠[]:=by
 unfold txt
 split
 ·simp
 ·rename_i h
  simp only [ne_eq,List.map_eq_nil_iff,List.reverse_eq_nil_iff]
  exact λe=>h ((toB_nil b10).1 e)
theorem Qk9 {n:Nat} (hn:n≠0):∃b s,txt n=b::s/\b.toNat≠48:=by
 have h:=Qod b10 n (λe=>hn ((toB_nil b10).1 e))
 have hne:toB 10 n≠[]:=λe=>hn ((toB_nil b10).1 e)
 have hin:=Wi b10 n _ (List.getLast_mem hne)
 refine ⟨ch ((toB 10 n).getLast hne),((toB 10 n).dropLast.reverse.map ch),?_,?_⟩
 ·unfold txt
  rw [if_neg hn]
  conv=>lhs;rw [<-List.dropLast_concat_getLast hne]
  rw [List.reverse_append];rfl
 ·rw [Qcv hin.1 hin.2];omega
theorem J5 {n k:Nat} (h:n<10^k) (hk:0<k):(txt n).length<=k:=by
 unfold txt
 split
 ·show 1<=k;omega
 ·rw [Z28,List.length_reverse];exact Y4 b10 h
abbrev neg (z:Int):Bool:=decide (z<0)
theorem Qpu (n:Nat):(((dg n).length:Nat):Int)=0↔n=0:=by
 constructor
 ·intro h;exact (toB_nil b4).1 (List.length_eq_zero_iff.1 (Int.ofNat_eq_zero.1 h))
 ·rintro rfl;simp [dg,toB_zero]
theorem Qsf (n:Nat):(((dg n).length:Nat):Int)>0↔0<n:=by
 have:=Qpu n;omega
theorem Qua (n:Nat) (b:Bool):z15.F (dg n) b=some (dg n,b&&decide (0<n)):=by
 unfold z15.F
 cases b
 ·rfl
 ·simp only [Zd,Z68]
  congr 2
  exact decide_eq_decide.2 (Qsf n)
theorem Qm8 {z:Int} {b:Bool} (h:(b=true/\z<=0)\/(b=false/\0<=z)):z15.F (dg z.natAbs) b=some (dg z.natAbs,neg z):=by
 rw [Qua]
 congr 2
 rcases h with ⟨rfl,h⟩|⟨rfl,h⟩
 ·rw [Z68];exact decide_eq_decide.2 (by omega)
 ·rw [Z60];symm;exact Zf (by omega)
theorem Qct {z:Int} (h:-9223372036854775808<z/\z<9223372036854775808):z17.F z=some (dg z.natAbs,neg z):=by
 unfold z17.F
 by_cases hz:z<0
 ·have e:wr .i64 (0-z)=((z.natAbs:Nat):Int):=by rw [Qg (by omega) (by omega)];omega
  rw [bif_t hz,e,Qj0 (by omega)]
  simp only [Zb]
  rw [Qm8 (z:=z) (.inl ⟨rfl,by omega⟩)];rfl
 ·have e:z=((z.natAbs:Nat):Int):=by omega
  rw [Qc hz]
  conv=>lhs;rw [e]
  rw [Qj0 (by omega)]
  simp only [Zb]
  rw [Qm8 (z:=z) (.inr ⟨rfl,by omega⟩)];rfl
theorem Qrm {z:Int} (hs:4*(dg z.natAbs).length<=1000000000) (hl:(txt z.natAbs).length<=1000000000):z11.F (dg z.natAbs) (neg z)=some (if z<0 then 45::txt z.natAbs else txt z.natAbs):=by
 unfold z11.F
 rw [Qsi hs]
 simp only [Zb]
 by_cases h:z<0
 ·rw [bif_t h,if_pos (by simp;omega),if_pos h];rfl
 ·rw [Qc h,if_neg h]
theorem Qn2 (x y:Int):cmpI (x-y) 0=cmpI x y:=by
 unfold cmpI;split<;>split<;>(try split)<;>(try split)<;>first|rfl|omega
abbrev LB:Nat:=18446744073709551616
abbrev lb (n:Nat):J0:=toB LB n
theorem bL:2<=LB:=by decide
theorem Qvb (n:Nat):(((lb n).length:Nat):Int)=0↔n=0:=by
 constructor
 ·intro h;exact (toB_nil bL).1 (List.length_eq_zero_iff.1 (Int.ofNat_eq_zero.1 h))
 ·rintro rfl;simp [lb,toB_zero]
theorem W0 (n:Nat):z29.F (lb n)=some (decide (n=0)):=by
 unfold z29.F;congr 1;exact decide_eq_decide.2 (Qvb n)
theorem Qmk {l:J0} {i:Nat}:z38.F l (i:Int)=some (l.getD i 0):=by
 unfold z38.F
 by_cases h:(i:Int)>=(l.length:Int)
 ·rw [bif_t h]
  have:l.getD i 0=0:=by simp [List.getD,Z13 (show l.length<=i by omega)]
  rw [this]
 ·rw [Qc h,if_pos (by omega),Zi]
theorem Qd8 {l:J0} (hl:inB LB l) (hs:Qa3 l):z32.F l=some (lb (valB LB l).toNat):=by
 have h:=Qq7 bL hl hs
 unfold z127.F at h
 unfold z32.F
 have e:z32.l0 l=z127.l0 l:=rfl
 rw [e]
 revert h
 cases z127.l0 l ((l.length:Nat):Int) with
 |none=>exact id
 |
  some o=>
  simp only [Zb]
  intro h
  split at h
  ·rename_i hc
   rw [if_pos ⟨hc.1,Int.le_refl _,hc.2⟩];exact h
  ·simp at h
theorem Qb6 (x y:Int):z22.F x y=some (cmpI x y):=by
 unfold z22.F z21.F cmpI
 simp only [Zb,decide_true,Zn,Zc]
 by_cases h:x<y
 ·rw [bif_t h,if_pos h]
 ·rw [Qc h,if_neg h]
  by_cases h':x>y
  ·rw [bif_t h',if_neg (by omega)]
  ·rw [Qc h',if_pos (by omega)]
theorem Qlf (x y:Int):z40.F x y=some (cmpI x y):=Qb6 x y
theorem Qlc {a b:J0} (ha:inB LB a) (hb:inB LB b) (hl:a.length=b.length) (hal:a.length<=900000000):∀k:Nat,k<=a.length ->
  ∃o:Int⊕Int,Runs (λrec x=>z41.l0P a b rec some x) ((k:Int)-1) o/\(match o with | .inl _=>(0:Int) | .inr q=>q)=cmpI (valB LB (a.take k)) (valB LB (b.take k))
 |0,_=>⟨.inl (-1),.done λrec=>by unfold z41.l0P;rw [Qc (by omega)];rfl,by simp [cmpI,valB]⟩
 |
  k+1,hk=>by
  have hka:k<a.length:=by omega
  have hkb:k<b.length:=by omega
  have e0:((k+1:Nat):Int)-1=(k:Int):=by omega
  obtain ⟨p1,p2⟩:=Qjo bL ha hb hka hkb
  obtain ⟨p3,_⟩:=Qjo bL hb ha hkb hka
  have c1:(0:Int)<=(k:Int)/\(k:Int)<(a.length:Int):=by omega
  have c2:(0:Int)<=(k:Int)/\(k:Int)<(b.length:Int):=by omega
  rw [e0]
  by_cases h:a[k]=b[k]
  ·obtain ⟨o,r1,r2⟩:=Qlc ha hb hl hal k (by omega)
   refine ⟨o,.step (λrec=>?_) r1,?_⟩
   ·unfold z41.l0P
    rw [bif_t (by omega),Zi,Wu hka,Wu hkb,if_pos c1,if_pos c2,Qlf]
    simp only [Zb]
    have:cmpI a[k] b[k]=0:=by unfold cmpI;rw [if_neg (by omega),if_pos h]
    rw [this,Qg (by omega) (by omega)]
    rfl
   ·rw [r2]
    have:=p2 h
    unfold cmpI
    split<;>split<;>(try split)<;>(try split)<;>first|rfl|omega
  ·refine ⟨.inr (cmpI a[k] b[k]),.done λrec=>?_,?_⟩
   ·unfold z41.l0P
    rw [bif_t (by omega),Zi,Wu hka,Wu hkb,if_pos c1,if_pos c2,Qlf]
    simp only [Zb]
    have:¬cmpI a[k] b[k]=0:=by unfold cmpI;split<;>(try split)<;>omega
    rw [Zf this]
    rfl
   ·rcases Int.lt_or_gt_of_ne h with h'|h'
    ·have:=p1 h'
     unfold cmpI;rw [if_pos h',if_pos this]
    ·have:=p3 h'
     unfold cmpI;rw [if_neg (by omega),if_neg (by omega),if_neg (by omega),if_neg (by omega)]
theorem Qcq {m n:Nat} (hl:(lb m).length<=900000000):z41.F (lb m) (lb n)=some (cmpI m n):=by
 unfold z41.F
 rw [Qb6]
 simp only [Zb]
 by_cases he:(lb m).length=(lb n).length
 ·have e1:cmpI ((lb m).length:Int) ((lb n).length:Int)=0:=by unfold cmpI;rw [if_neg (by omega),if_pos (by omega)]
  rw [e1]
  simp only [decide_true,Zn,Zc]
  obtain ⟨o,r1,r2⟩:=Qlc (a:=lb m) (b:=lb n) (Wi bL m) (Wi bL n) he hl (lb m).length (Z3 _)
  rw [Qg (by omega) (by omega)]
  unfold z41.l0
  rw [r1.lfp]
  simp only [Zb]
  rw [Z62,he,Z62,W5 bL,W5 bL] at r2
  rw [<-r2]
  cases o<;>rfl
 ·rcases Nat.lt_or_gt_of_ne he with h|h
  ·have:=Qgz bL h
   have e1:cmpI ((lb m).length:Int) ((lb n).length:Int) = -1:=by unfold cmpI;rw [if_pos (by omega)]
   have e2:cmpI (m:Int) n = -1:=by unfold cmpI;rw [if_pos (by omega)]
   rw [e1,e2];rfl
  ·have:=Qgz bL h
   have e1:cmpI ((lb m).length:Int) ((lb n).length:Int)=1:=by unfold cmpI;rw [if_neg (by omega),if_neg (by omega)]
   have e2:cmpI (m:Int) n=1:=by unfold cmpI;rw [if_neg (by omega),if_neg (by omega)]
   rw [e1,e2];rfl
theorem Qfg (a:Int) (h0:0<=a):wr .u64 ((BitVec.ofInt (IntKind.bits .u64) a &&& BitVec.ofInt (IntKind.bits .u64) (4294967295:Int)).toNat:Int)=a%4294967296:=by
 have e:(BitVec.ofInt (IntKind.bits .u64) a &&& BitVec.ofInt (IntKind.bits .u64) (4294967295:Int)).toNat=(a%4294967296).toNat:=by
  rw [BitVec.toNat_and]
  have e1:(BitVec.ofInt (IntKind.bits .u64) (4294967295:Int)).toNat=2^32-1:=rfl
  have e2:(BitVec.ofInt (IntKind.bits .u64) a).toNat=(a%18446744073709551616).toNat:=by
   rw [BitVec.toNat_ofInt];rfl
  rw [e1,Nat.and_two_pow_sub_one_eq_mod,e2]
  omega
 rw [e,Qp (by omega) (by omega)];omega
theorem Qty (a:Int):Int.fdiv a (2^(min 32 (64:Nat)))=a/4294967296:=by
 rw [Int.fdiv_eq_ediv_of_nonneg _ (by decide)];rfl
theorem Qoz {a b:Int} (ha:0<=a/\a<18446744073709551616) (hb:0<=b/\b<18446744073709551616):z50.F a b=some (a*b/18446744073709551616,a*b%18446744073709551616):=by
 unfold z50.F
 simp only [Qty]
 rw [Qfg a ha.1,Qfg b hb.1]
 generalize hx1:a/4294967296=x1
 generalize hx0:a%4294967296=x0
 generalize hy1:b/4294967296=y1
 generalize hy0:b%4294967296=y0
 have ea:a=4294967296*x1+x0:=by omega
 have eb:b=4294967296*y1+y0:=by omega
 have bx1:0<=x1/\x1<=4294967295:=by omega
 have bx0:0<=x0/\x0<=4294967295:=by omega
 have by1:0<=y1/\y1<=4294967295:=by omega
 have by0:0<=y0/\y0<=4294967295:=by omega
 have m00:0<=x0*y0/\x0*y0<=4294967295*4294967295:=⟨Z80 bx0.1 by0.1,Int.mul_le_mul bx0.2 by0.2 by0.1 (by decide)⟩
 have m10:0<=x1*y0/\x1*y0<=4294967295*4294967295:=⟨Z80 bx1.1 by0.1,Int.mul_le_mul bx1.2 by0.2 by0.1 (by decide)⟩
 have m01:0<=x0*y1/\x0*y1<=4294967295*4294967295:=⟨Z80 bx0.1 by1.1,Int.mul_le_mul bx0.2 by1.2 by1.1 (by decide)⟩
 have m11:0<=x1*y1/\x1*y1<=4294967295*4294967295:=⟨Z80 bx1.1 by1.1,Int.mul_le_mul bx1.2 by1.2 by1.1 (by decide)⟩
 have eab:a*b=18446744073709551616*(x1*y1)+4294967296*(x1*y0)+4294967296*(x0*y1)+x0*y0:=by rw [ea,eb];grind
 rw [eab]
 generalize x0*y0=p00 at *
 generalize x1*y0=p10 at *
 generalize x0*y1=p01 at *
 generalize x1*y1=p11 at *
 rw [Qp (n:=p00) (by omega) (by omega),Qp (n:=p10) (by omega) (by omega),Qp (n:=p01) (by omega) (by omega),Qp (n:=p11) (by omega) (by omega)]
 rw [Qp (n:=p10+p00/4294967296) (by omega) (by omega)]
 rw [Qfg _ (by omega)]
 rw [Qp (n:=p11+(p10+p00/4294967296)/4294967296) (by omega) (by omega)]
 rw [Qp (n:=(p10+p00/4294967296)%4294967296+p01) (by omega) (by omega)]
 rw [Qp (n:=p11+(p10+p00/4294967296)/4294967296+((p10+p00/4294967296)%4294967296+p01)/4294967296) (by omega) (by omega)]
 rw [W9]
 congr 2;omega
theorem Qf5 {x y c:Int} (hx:0<=x) (hy:0<=y) (hc:0<=c/\c<=1):z0.F x y c=some ((x+y+c)%18446744073709551616,(x+y+c)/18446744073709551616):=by
 unfold z0.F;rw [if_pos (by omega)]
theorem Qeb {s:J0} {i j:Nat} {x:Int} (h:i≠j):(s.set i x).getD j 0=s.getD j 0:=by
 simp [List.getD,List.getElem?_set_ne h]
theorem Qg1 (n j:Nat):(List.replicate n (0:Int)).getD j 0=0:=by
 simp only [List.getD,List.getElem?_replicate];split<;>rfl
theorem Qh7 {a b:J0} {n:Nat} (ha:inB LB a) (hb:inB LB b) (hn:n<=900000000) (han:a.length<n) (hbn:b.length<n) :
  ∀
   (f i:Nat) (c:Int) (s:J0),i+f=n->s.length=n->inB LB s->(∀j,i<=j->s.getD j 0=0)->0<=c/\c<=1 ->
   valB LB s+(c+valB LB (a.drop i)+valB LB (b.drop i))*(LB^i:Nat)=valB LB a+valB LB b ->
   ∃c' s',Runs (λrec x=>z58.l0P (n:Int) a b rec some x) (c,(i:Int),s) (c',(n:Int),s')/\inB LB s'/\s'.length=n/\(0<=c'/\c'<=1)/\valB LB s'+c'*(LB^n:Nat)=valB LB a+valB LB b
 |
  0,i,c,s,hf,hl,hs,hz,hc,hv=>by
  have:i=n:=by omega
  subst this
  refine ⟨c,s,.done λrec=>?_,hs,hl,hc,?_⟩
  ·unfold z58.l0P
   simp only
   rw [Qc (by omega)]
  ·rw [Z73 (by omega),Z73 (by omega)] at hv
   simpa [valB] using hv
 |
  f+1,i,c,s,hf,hl,hs,hz,hc,hv=>by
  have hLB:((LB:Nat):Int)=18446744073709551616:=rfl
  have h1:=Jn (B:=LB) (by decide) ha i
  have h2:=Jn (B:=LB) (by decide) hb i
  have hi:i<s.length:=by omega
  obtain ⟨c',s',r1,r2,r3,r4,r5⟩:=Qh7 ha hb hn han hbn f (i+1) ((a.getD i 0+b.getD i 0+c)/18446744073709551616) (s.set i ((a.getD i 0+b.getD i 0+c)%18446744073709551616)) (by omega) (by simp [hl]) (Qcl hs (by omega))
   (λj hj=>by rw [Qeb (by omega)];exact hz j (by omega)) (by omega) (by
    rw [Qcc hi,hz i (Z3 _),<-hv,Qa4 a i,Qa4 b i,Z55,Z54 (LB^i) LB,Z43]
    generalize hx:a.getD i 0+b.getD i 0+c=x
    have e2:x=18446744073709551616*(x/18446744073709551616)+x%18446744073709551616:=(Int.mul_ediv_add_emod x _).symm
    have e3:((LB:Nat):Int)=18446744073709551616:=rfl
    rw [e3]
    generalize x/18446744073709551616=q at *
    generalize x%18446744073709551616=m at *
    subst e2
    generalize ((LB^i:Nat):Int)=p
    generalize valB LB (a.drop (i+1))=w
    generalize valB LB (b.drop (i+1))=w'
    generalize a.getD i 0=u at *
    generalize b.getD i 0=v at *
    have hc':c=18446744073709551616*q+m-u-v:=by omega
    subst hc'
    grind)
  refine ⟨c',s',.step (λrec=>?_) r1,r2,r3,r4,r5⟩
  unfold z58.l0P
  simp only [Qmk,Zb]
  rw [bif_t (by omega),Qf5 h1.1 h2.1 hc]
  simp only [Zb]
  rw [if_pos (by omega),Zi,if_pos hi,Qg (by omega) (by omega)]
  rfl
theorem Qk1 {n k:Nat} (h:(lb n).length<=k):n<LB^k:=Z12 (Qgj bL) (Z70 (by decide) h)
theorem Qey {m n:Nat} (hl:(lb m).length+(lb n).length<=800000000):z58.F (lb m) (lb n)=some (lb (m+n)):=by
 unfold z58.F
 generalize hk:max (lb m).length (lb n).length=k
 have e0:(if (((lb n).length:Nat):Int)>(((lb m).length:Nat):Int) then (((lb n).length:Nat):Int) else (((lb m).length:Nat):Int))=(k:Int):=by split<;>omega
 have e1:wr .i64 ((k:Int)+1)=((k+1:Nat):Int):=by rw [Qg (by omega) (by omega)];omega
 rw [e0,e1,if_pos (by omega),Zi,Z82]
 obtain ⟨c',s',r1,r2,r3,r4,r5⟩:=Qh7 (a:=lb m) (b:=lb n) (n:=k+1) (Wi bL m) (Wi bL n) (by omega) (by omega) (by omega) (k+1) 0 0 (List.replicate (k+1) 0) (by omega) (by simp) (Qc4 (by decide) _)
  (λj _=>Qg1 _ j) (by omega) (by rw [Qdg];simp)
 have e:z58.l0 ((k+1:Nat):Int) (lb m) (lb n) ((0:Int),(0:Int),List.replicate (k+1) 0)=some (c',((k+1:Nat):Int),s'):=r1.lfp
 rw [e]
 simp only [Zb]
 rw [W5 bL,W5 bL] at r5
 have hm:m<LB^k:=Qk1 (by omega)
 have hn:n<LB^k:=Qk1 (by omega)
 have hc:c'=0:=by
  rcases (show c'=0\/c'=1 by omega) with h|h
  ·exact h
  ·exfalso
   subst h
   have:=Qet r2
   have e3:((LB^(k+1):Nat):Int)=(LB^k:Nat)*18446744073709551616:=by rw [Z55,Z43];rfl
   rw [e3] at r5
   omega
 subst hc
 rw [Qd8 r2 (by show List.length _<=_;omega)]
 simp only [Zb]
 congr 2;omega
theorem Qjs {a b:J0} (ha:inB LB a) (hb:inB LB b) (hal:a.length<=900000000) :
  ∀
   (f i:Nat) (c:Int) (s:J0),i+f=a.length->s.length=a.length->inB LB s->(∀j,i<=j->s.getD j 0=0)->0<=c/\c<=1 ->
   valB LB s-c*(LB^i:Nat)=valB LB (a.take i)-valB LB (b.take i) ->
   ∃c' s',Runs (λrec x=>z42.l0P (a.length:Int) a b rec some x) (c,(i:Int),s) (c',(a.length:Int),s')/\inB LB s'/\s'.length=a.length/\(0<=c'/\c'<=1)/\valB LB s'-c'*(LB^a.length:Nat)=valB LB a-valB LB (b.take a.length)
 |
  0,i,c,s,hf,hl,hs,hz,hc,hv=>by
  have:i=a.length:=by omega
  subst this
  refine ⟨c,s,.done λrec=>?_,hs,hl,hc,by rwa [Z62] at hv⟩
  unfold z42.l0P
  simp only
  rw [Qc (by omega)]
 |
  f+1,i,c,s,hf,hl,hs,hz,hc,hv=>by
  have hi:i<a.length:=by omega
  have his:i<s.length:=by omega
  have hLB:((LB:Nat):Int)=18446744073709551616:=rfl
  have h1:=Jn (B:=LB) (by decide) ha i
  have h2:=Jn (B:=LB) (by decide) hb i
  have eb:valB LB (b.take (i+1))=valB LB (b.take i)+(LB^i:Nat)*b.getD i 0:=by
   by_cases hb':i<b.length
   ·rw [Qag hb',Wu hb']
   ·rw [Z18 (by omega),Z18 (by omega)]
    simp [List.getD,Z13 (show b.length<=i by omega)]
  have hsub:z1.F (a.getD i 0) (b.getD i 0) c=some ((a.getD i 0-b.getD i 0-c)%18446744073709551616,if a.getD i 0<b.getD i 0+c then 1 else 0):=by
   unfold z1.F;rw [if_pos (by omega)]
  obtain ⟨c',s',r1,r2,r3,r4,r5⟩:=Qjs ha hb hal f (i+1) (if a.getD i 0<b.getD i 0+c then 1 else 0) (s.set i ((a.getD i 0-b.getD i 0-c)%18446744073709551616)) (by omega) (by simp [hl]) (Qcl hs (by omega))
   (λj hj=>by rw [Qeb (by omega)];exact hz j (by omega)) (by split<;>omega) (by
    rw [Qcc his,hz i (Z3 _),Qag hi,eb,Z55,Z54 (LB^i) LB,Z43,<-Wu hi]
    have e3:((LB:Nat):Int)=18446744073709551616:=rfl
    rw [e3]
    have e4:(a.getD i 0-b.getD i 0-c)%18446744073709551616=a.getD i 0-b.getD i 0-c+(if a.getD i 0<b.getD i 0+c then 1 else 0)*18446744073709551616:=by split<;>omega
    rw [e4]
    generalize (if a.getD i 0<b.getD i 0+c then (1:Int) else 0)=q
    generalize ((LB^i:Nat):Int)=p at *
    grind)
  refine ⟨c',s',.step (λrec=>?_) r1,r2,r3,r4,r5⟩
  unfold z42.l0P
  simp only [Qmk,Zb]
  rw [bif_t (by omega),if_pos (by omega),Zi,hsub]
  simp only [Zb]
  rw [if_pos (by omega),if_pos his,Qg (by omega) (by omega)]
  rfl
theorem Qhn {m n:Nat} (hl:(lb m).length<=800000000):z42.F (lb m) (lb n)=some (if n<=m then (lb (m-n),true) else ([],false)):=by
 unfold z42.F
 rw [Qcq (by omega)]
 simp only [Zb]
 by_cases h:n<=m
 ·have h0:¬cmpI (m:Int) n<0:=by unfold cmpI;split<;>(try split)<;>omega
  rw [Qc h0,if_pos h,if_pos (by omega),Zi,Z82]
  obtain ⟨c',s',r1,r2,r3,r4,r5⟩:=Qjs (a:=lb m) (b:=lb n) (Wi bL m) (Wi bL n) (by omega) (lb m).length 0 0 (List.replicate (lb m).length 0) (by omega) (by simp) (Qc4 (by decide) _)
   (λj _=>Qg1 _ j) (by omega) (by rw [Qdg];simp [valB])
  have hlen:(lb n).length<=(lb m).length:=by
   rcases Z65 (lb m).length (lb n).length with h'|h'
   ·have:=Qgz bL h';omega
   ·exact h'
  rw [Z18 hlen,W5 bL,W5 bL] at r5
  have h1:=Qd7 bL r2
  rw [r3] at h1
  have hc:c'=0:=by
   rcases (show c'=0\/c'=1 by omega) with h|h
   ·exact h
   ·subst h;omega
  subst hc
  have e:z42.l0 ((lb m).length:Int) (lb m) (lb n) ((0:Int),(0:Int),List.replicate (lb m).length 0)=some ((0:Int),((lb m).length:Int),s'):=r1.lfp
  rw [e]
  simp only [Zb]
  rw [Qd8 r2 (by show List.length _<=_;omega)]
  simp only [Zb]
  congr 3;omega
 ·have h0:cmpI (m:Int) n<0:=by unfold cmpI;rw [if_pos (by omega)];decide
  rw [bif_t h0,if_neg h]
theorem Qmt {l:J0} (hl:inB LB l) (hs:Qa3 l):z33.F l=some (lb (valB LB l).toNat):=by
 have hs':l.length<=1000000000:=hs
 unfold z33.F
 rw [if_pos (by omega),Qd8 hl hs];rfl
theorem W8 {x:Int} (h:0<=x/\x<18446744073709551616):z33.F [x]=some (lb x.toNat):=by
 rw [Qmt (Jd.2 ⟨h,Qed _⟩) (by show [x].length<=_;simp)]
 simp [valB]
theorem Qb1 {l:J0} (hs:Qa3 l):z43.F l=some l:=by
 have hs':l.length<=1000000000:=hs
 unfold z43.F
 rw [if_pos (by omega)]
theorem Qmu {x:Int} {a:J0} {off tot:Nat} (hx:0<=x/\x<18446744073709551616) (ha:inB LB a) (ht:tot<=1800000000) (hot:off+a.length<tot) :
  ∀
   (f i:Nat) (c:Int) (s:J0),i+f=a.length->s.length=tot->inB LB s->0<=c/\c<18446744073709551616 ->
   ∃
    c' s',Runs (λrec y=>z56.l0aP x off (tot-off) a (a.length:Int) rec some y) (c,(i:Int),s) (c',(a.length:Int),s')/\inB LB s'/\s'.length=tot/\(0<=c'/\c'<18446744073709551616) /\
    (∀j,off+a.length<=j->s'.getD j 0=s.getD j 0)/\valB LB s'+c'*(LB^(off+a.length):Nat)=valB LB s+(c+x*valB LB (a.drop i))*(LB^(off+i):Nat)
 |
  0,i,c,s,hf,hl,hs,hc=>by
  have:i=a.length:=by omega
  subst this
  refine ⟨c,s,.done λrec=>?_,hs,hl,hc,λj _=>rfl,?_⟩
  ·unfold z56.l0aP
   simp only
   rw [Qc (by omega)]
  ·rw [Z73 (Z3 _)];simp [valB]
 |
  f+1,i,c,s,hf,hl,hs,hc=>by
  have hi:i<a.length:=by omega
  have his:off+i<s.length:=by omega
  have h1:=Jn (B:=LB) (by decide) ha i
  have h2:=Jn (B:=LB) (by decide) hs (off+i)
  have h1':0<=a.getD i 0/\a.getD i 0<18446744073709551616:=h1
  have h2':0<=s.getD (off+i) 0/\s.getD (off+i) 0<18446744073709551616:=h2
  have hp:0<=x*a.getD i 0/\x*a.getD i 0<=18446744073709551615*18446744073709551615:=⟨Z80 hx.1 h1'.1,Int.mul_le_mul (by omega) (by omega) h1'.1 (by decide)⟩
  obtain ⟨c',s',r1,r2,r3,r4,r5,r6⟩:=Qmu hx ha ht hot f (i+1) ((x*a.getD i 0+c+s.getD (off+i) 0)/18446744073709551616) (s.set (off+i) ((x*a.getD i 0+c+s.getD (off+i) 0)%18446744073709551616))
   (by omega) (by simp [hl]) (Qcl hs (by show 0<=_/\_<(18446744073709551616:Int);omega)) (by omega)
  refine ⟨c',s',.step (λrec=>?_) r1,r2,r3,r4,λj hj=>?_,?_⟩
  ·unfold z56.l0aP
   simp only
   rw [bif_t (by omega),if_pos (by omega),Zi,Qoz hx h1']
   simp only [Zb]
   rw [Qf5 (by omega) hc.1 (by omega)]
   simp only [Zb]
   rw [if_pos (by omega),if_pos his,Qf5 h2'.1 (by omega) (by omega)]
   simp only [Zb]
   rw [if_pos (by omega),if_pos his]
   generalize x*a.getD i 0=p at hp ⊢
   generalize s.getD (off+i) 0=u at h2' ⊢
   rw [Qp (n:=p/18446744073709551616+_) (by omega) (by omega),Qp (by omega) (by omega),Qg (by omega) (by omega)]
   congr 2
   ·omega
   ·congr 2;omega
  ·rw [r5 j hj,Qeb (by omega)]
  ·rw [r6,Qcc his,Qa4 a i]
   have e1:((LB^(off+(i+1)):Nat):Int)=18446744073709551616*(LB^(off+i):Nat):=by
    rw [<-Z33,Z55,Z54,Z43];rfl
   rw [e1]
   have e3:((LB:Nat):Int)=18446744073709551616:=rfl
   rw [e3]
   generalize hy:x*a.getD i 0+c+s.getD (off+i) 0=y
   have e2:y=18446744073709551616*(y/18446744073709551616)+y%18446744073709551616:=(Int.mul_ediv_add_emod y _).symm
   generalize y/18446744073709551616=q at *
   generalize y%18446744073709551616=m at *
   generalize ((LB^(off+i):Nat):Int)=p
   generalize valB LB (a.drop (i+1))=w
   generalize valB LB s=z
   generalize s.getD (off+i) 0=u at *
   generalize a.getD i 0=v at *
   have hc':c=18446744073709551616*q+m-u-x*v:=by omega
   subst hc'
   grind
theorem Qiy {a b:J0} {tot:Nat} (ha:inB LB a) (hb:inB LB b) (ht:tot<=1800000000) (hab:tot=a.length+b.length+1) :
  ∀
   (f i:Nat) (s:J0),i+f=b.length->s.length=tot->inB LB s->(∀j,i+a.length<=j->s.getD j 0=0)->valB LB s=valB LB a*valB LB (b.take i) ->
   ∃s',Runs (λrec y=>z56.l0P b (b.length:Int) a rec some y) ((i:Int),s) ((b.length:Int),s')/\inB LB s'/\s'.length=tot/\valB LB s'=valB LB a*valB LB b
 |
  0,i,s,hf,hl,hs,hz,hv=>by
  have:i=b.length:=by omega
  subst this
  refine ⟨s,.done λrec=>?_,hs,hl,by rwa [Z62] at hv⟩
  unfold z56.l0P
  simp only
  rw [Qc (by omega)]
 |
  f+1,i,s,hf,hl,hs,hz,hv=>by
  have hi:i<b.length:=by omega
  have hx:=Jn (B:=LB) (by decide) hb i
  have hx':0<=b.getD i 0/\b.getD i 0<18446744073709551616:=hx
  obtain ⟨c,s1,r1,r2,r3,r4,r5,r6⟩:=Qmu (x:=b.getD i 0) (a:=a) (off:=i) (tot:=tot) hx' ha ht (by omega) a.length 0 0 s (by omega) hl hs (by omega)
  have e0:z56.l0a (b.getD i 0) i (tot-i) a (a.length:Int) ((0:Int),(0:Int),s)=some (c,(a.length:Int),s1):=r1.lfp
  have hz1:s1.getD (i+a.length) 0=0:=by rw [r5 _ (Z3 _)];exact hz _ (Z3 _)
  have hi1:i+a.length<s1.length:=by omega
  obtain ⟨s',q1,q2,q3,q4⟩:=Qiy ha hb ht hab f (i+1) (s1.set (i+a.length) c) (by omega) (by simp [r3]) (Qcl r2 r4)
   (λj hj=>by rw [Qeb (by omega),r5 j (by omega)];exact hz j (by omega)) (by
    rw [Qcc hi1,hz1,Qag hi,Int.mul_add,<-hv,<-Wu hi]
    simp only [Z59,Z71,Int.zero_add] at r6
    generalize ((LB^(i+a.length):Nat):Int)=p at *
    generalize ((LB^i:Nat):Int)=p2 at *
    grind)
  refine ⟨s',.step (λrec=>?_) q1,q2,q3,q4⟩
  unfold z56.l0P
  simp only
  rw [bif_t (by omega),if_pos (by omega),if_pos (by omega),Zi,hl,e0]
  simp only [Zb,Zi]
  rw [if_pos (by omega),if_pos hi1,if_pos (by omega),if_pos hi1,hz1,Qg (by omega) (by omega),Qp (by omega) (by omega),Int.zero_add]
  rfl
theorem Qrs {a b:J0} (ha:inB LB a) (hb:inB LB b) (hl:a.length+b.length<=800000000):z56.F a b=some (lb (valB LB a*valB LB b).toNat):=by
 obtain ⟨s',r1,r2,r3,r4⟩:=Qiy (tot:=a.length+b.length+1) ha hb (by omega) rfl b.length 0 (List.replicate (a.length+b.length+1) 0) (by omega) (by simp) (Qc4 (by decide) _)
  (λj _=>Qg1 _ j) (by rw [Qdg];simp [valB])
 have e0:z56.l0 b (b.length:Int) a ((0:Int),List.replicate (a.length+b.length+1) 0)=some ((b.length:Int),s'):=r1.lfp
 have e1:wr .i64 (wr .i64 ((a.length:Int)+(b.length:Int))+1)=((a.length+b.length+1:Nat):Int):=by
  rw [Qg (n:=(a.length:Int)+(b.length:Int)) (by omega) (by omega),Qg (by omega) (by omega)];omega
 unfold z56.F
 rw [e1,if_pos (by omega),Zi,e0]
 simp only [Zb]
 rw [Qd8 r2 (by show List.length _<=_;omega),r4]
 rfl
theorem Qa9 {m n:Nat} (hl:(lb m).length+(lb n).length<=800000000):z56.F (lb m) (lb n)=some (lb (m*n)):=by
 rw [Qrs (Wi bL m) (Wi bL n) hl,W5 bL,W5 bL]
 congr 2
theorem whole_Of (n:Nat) (b:Bool):z31.F (lb n) b=some (lb n,b&&decide (0<n)):=by
 unfold z31.F
 cases b
 ·rfl
 ·rw [W0]
  simp only [Zd,Z68,Zb]
  congr 2
  by_cases h:n=0
  ·subst h;rfl
  ·rw [Zf h,Zt (by omega:0<n)];rfl
theorem whole_Of' {z:Int} {b:Bool} (h:(b=true/\z<=0)\/(b=false/\0<=z)):z31.F (lb z.natAbs) b=some (lb z.natAbs,neg z):=by
 rw [whole_Of]
 congr 2
 rcases h with ⟨rfl,h⟩|⟨rfl,h⟩
 ·rw [Z68];exact decide_eq_decide.2 (by omega)
 ·rw [Z60];symm;exact Zf (by omega)
theorem Yb {z:Int} {n:Nat} {b:Bool} (hn:n=z.natAbs) (h:(b=true/\z<=0)\/(b=false/\0<=z)):z31.F (lb n) b=some (lb z.natAbs,neg z):=by
 subst hn;exact whole_Of' h
theorem whole_From {z:Int} (h:-9223372036854775808<=z/\z<9223372036854775808):z34.F z=some (lb z.natAbs,neg z):=by
 unfold z34.F
 by_cases hz:z<0
 ·have e:wr .u64 (0-wr .u64 z)=((z.natAbs:Nat):Int):=by rw [W9 z,W9];omega
  rw [bif_t hz,e,W8 (by omega)]
  simp only [Zb,Zi]
  rw [whole_Of' (z:=z) (.inl ⟨rfl,by omega⟩)];rfl
 ·have e:wr .u64 z=((z.natAbs:Nat):Int):=by rw [Qp (by omega) (by omega)];omega
  rw [Qc hz,e,W8 (by omega)]
  simp only [Zb,Zi]
  rw [whole_Of' (z:=z) (.inr ⟨rfl,by omega⟩)];rfl
theorem Qmq (z:Int):z36.F (lb z.natAbs) (neg z)=some (lb (-z).natAbs,neg (-z)):=by
 unfold z36.F
 rw [Yb (z:=-z) (by omega) (by by_cases h:z<0;exact .inr ⟨by simp [neg,h],by omega⟩;exact .inl ⟨by simp [neg,h],by omega⟩)]
 rfl
theorem Qav (z:Int):z30.F (lb z.natAbs) (neg z)=some (cmpI z 0):=by
 unfold z30.F cmpI
 rw [W0]
 simp only [Zb]
 by_cases h0:z=0
 ·subst h0;rfl
 ·rw [Qc (by omega)]
  by_cases h:z<0
  ·rw [bif_t h,if_pos h]
  ·rw [Qc h,if_neg h,if_neg h0]
theorem Quw {x y:Int} (hl:(lb x.natAbs).length+(lb y.natAbs).length<=800000000):z71.F (lb x.natAbs) (neg x) (lb y.natAbs) (neg y)=some (lb (x+y).natAbs,neg (x+y)):=by
 unfold z71.F
 by_cases hs:neg x=neg y
 ·have hs':(x<0↔y<0):=by simpa [neg] using hs
  rw [bif_t hs,Qey hl]
  simp only [Zb]
  rw [Yb (z:=x+y) (by omega) (by by_cases hx:x<0;exact .inl ⟨Zt hx,by omega⟩;exact .inr ⟨Zf hx,by omega⟩)]
  rfl
 ·have hs':¬(x<0↔y<0):=by simpa [neg] using hs
  rw [Qc hs,Qhn (by omega)]
  simp only [Zb]
  by_cases hc:y.natAbs<=x.natAbs
  ·rw [if_pos hc]
   simp only [Zd]
   rw [Yb (z:=x+y) (by omega) (by by_cases hx:x<0;exact .inl ⟨Zt hx,by omega⟩;exact .inr ⟨Zf hx,by omega⟩)]
   rfl
  ·rw [if_neg hc]
   simp only [Zc]
   rw [Qhn (by omega),if_pos (by omega)]
   simp only [Zb]
   rw [Yb (z:=x+y) (by omega) (by by_cases hy:y<0;exact .inl ⟨Zt hy,by omega⟩;exact .inr ⟨Zf hy,by omega⟩)]
   rfl
theorem Qou {x y:Int} (hl:(lb x.natAbs).length+(lb y.natAbs).length<=800000000):z72.F (lb x.natAbs) (neg x) (lb y.natAbs) (neg y)=some (lb (x-y).natAbs,neg (x-y)):=by
 unfold z72.F
 rw [Qmq]
 simp only [Zb]
 rw [Quw (by rw [Int.natAbs_neg];exact hl)]
 rfl
theorem Ql6 {x y:Int} (hl:(lb x.natAbs).length+(lb y.natAbs).length<=800000000):z73.F (lb x.natAbs) (neg x) (lb y.natAbs) (neg y)=some (cmpI x y):=by
 unfold z73.F
 rw [Qou hl]
 simp only [Zb]
 rw [Qav,Qn2]
 rfl
theorem Qvf (x y:Int):((!decide (neg x=neg y))&&decide (0<x.natAbs*y.natAbs))=neg (x*y):=by
 have h0:0<x.natAbs*y.natAbs↔x≠0/\y≠0:=by
  constructor
  ·intro h;exact ⟨by rintro rfl;simp at h,by rintro rfl;simp at h⟩
  ·rintro ⟨h1,h2⟩;exact Nat.mul_pos (by omega) (by omega)
 rw [Z61]
 simp only [Z4,Z49,decide_eq_true_eq,decide_eq_false_iff_not,h0]
 rcases Int.lt_trichotomy x 0 with hx|hx|hx<;>rcases Int.lt_trichotomy y 0 with hy|hy|hy
 ·have:=Int.mul_pos_of_neg_of_neg hx hy;simp [hx,hy];omega
 ·subst hy;simp
 ·have:=Int.mul_neg_of_neg_of_pos hx hy;simp [hx];omega
 ·subst hx;simp
 ·subst hx;simp
 ·subst hx;simp
 ·have:=Int.mul_neg_of_pos_of_neg hx hy;simp [hy];omega
 ·subst hy;simp
 ·have:=Int.mul_pos hx hy;simp;omega
theorem Qgl {x y:Int} (hl:(lb x.natAbs).length+(lb y.natAbs).length<=800000000):z57.F (lb x.natAbs) (neg x) (lb y.natAbs) (neg y)=some (lb (x*y).natAbs,neg (x*y)):=by
 unfold z57.F
 rw [Qa9 hl]
 simp only [Zb]
 rw [whole_Of,Qvf,Int.natAbs_mul]
 rfl
def sz (n:Nat):Nat:=(toB 10 n).length
theorem Qbr (n:Nat):n<10^sz n:=Qgj b10
theorem Q3 {n k:Nat} (h:n<10^k):sz n<=k:=Y4 b10 h
theorem Qf9 {m n:Nat} (h:m<=n):sz m<=sz n:=Q3 (Nat.lt_of_le_of_lt h (Qbr n))
theorem Q6 (n:Nat):(lb n).length<=sz n:=Y4 bL (Z12 (Qbr n) (Nat.pow_le_pow_left (by decide) _))
theorem Qq8 (n:Nat):(dg n).length<=sz n:=Y4 b4 (Z12 (Qbr n) (Nat.pow_le_pow_left (by decide) _))
theorem Qaz (m n:Nat):sz (m*n)<=sz m+sz n:=Q3 (by rw [Z93];exact Nat.mul_lt_mul_of_lt_of_le (Qbr m) (Z67 (Qbr n)) (Nat.pow_pos (by decide)))
theorem Qf2:sz 0=0:=by simp [sz,toB_zero]
theorem lb_zero:lb 0=[]:=toB_zero LB
def isD (b:UInt8):Bool:=decide (48<=b.toNat)&&decide (b.toNat<=57)
def digs (s:J1):Bool:=s.all isD
theorem Yv {s:J1}:digs s=true↔Qw s:=by simp [digs,Qw,digit,isD]
theorem Qtd (b c:UInt8):(b == c)=decide (b.toNat=c.toNat):=by
 rw [Z61];simp [UInt8.toNat_inj]
theorem Qvz (b:UInt8):([48,49,50,51,52,53,54,55,56,57]:J1).contains b=isD b:=by
 rw [Z61]
 simp only [List.contains_cons,List.contains_nil,Qtd,isD]
 simp
 omega
theorem Qeq {α:Type} {p:α->Bool}:∀{l:List α},l.dropWhile p=[]↔∀x∈l,p x=true
 |[]=>by simp
 |
  a::l=>by
  by_cases h:p a=true
  ·rw [List.dropWhile_cons_of_pos h,Qeq (l:=l)];simp [h]
  ·rw [List.dropWhile_cons_of_neg h];simp [h]
theorem Ql8 (s cs:J1):Lib.trimS s cs=[]↔∀b∈s,cs.contains b=true:=by
 unfold Lib.trimS Lib.trimLeftS Lib.trimRightS
 rw [Qeq]
 constructor
 ·intro h
  cases he:s.reverse.dropWhile (cs.contains ·) with
  |
   nil=>
   rw [Qeq] at he
   exact λb hb=>he b (List.mem_reverse.2 hb)
  |
   cons x l=>
   have h1:=List.head?_dropWhile_not (cs.contains ·) s.reverse
   rw [he] at h1
   have h2:=h x (by rw [he];simp)
   simp only [List.head?_cons] at h1
   rw [h2] at h1;simp at h1
 ·intro h
  have he:s.reverse.dropWhile (cs.contains ·)=[]:=Qeq.2 λb hb=>h b (List.mem_reverse.1 hb)
  rw [he];simp
theorem Qj7 (s:J1) (hs:s.length<=9223372036854775807):∃r,z4.F s [48,49,50,51,52,53,54,55,56,57]=some r/\decide (r=[])=digs s:=by
 unfold z4.F
 rw [if_pos ⟨hs,by decide,by decide⟩]
 refine ⟨_,rfl,?_⟩
 rw [Z61,decide_eq_true_iff,Ql8,digs,Z14]
 simp only [Qvz]
def numOK (s:J1):Bool:=!decide (s=[])&&digs s && !(decide (1<s.length)&&decide ((s.getD 0 0).toNat=48))
def mDigits (s:J1):Nat×Int:=if 4096<s.length then (0,7) else if numOK s then ((tv 0 s).toNat,0) else (0,5)
theorem Qq3 {s:J1} {i:Nat} (hi:i<s.length) (h:(s.getD i 0).toNat<128):Utf8.decode ⟨s.toArray⟩ i=((s.getD i 0).toNat,1):=by
 have e:(ByteArray.mk s.toArray).get! (i+0)=s.getD i 0:=by
  show s.toArray[i+0]! = _
  simp [List.getD,hi]
 unfold Utf8.decode
 simp only [e]
 rw [if_pos h]
theorem Qil {n:Int} (h1:-2147483648<=n) (h2:n<2147483648):wr .i32 n=n:=by
 simp only [wr,IntKind.wrap,IntKind.signed,IntKind.bits]
 simp;omega
theorem Qmy {s:J1} (hs:Qw s) (hl:s.length<=18):∀(f i:Nat) (d:Int),i+f=s.length->0<=d/\d<(10^i:Nat) ->
  Runs (λrec x=>z65.l2P s rec some x) (d,i) (tv d (s.drop i),s.length)
 |
  0,i,d,hf,_=>by
  have:i=s.length:=by omega
  subst this
  refine .done λrec=>?_
  unfold z65.l2P
  simp only
  rw [if_neg (by omega),Z73 (Z3 _)]
  rfl
 |
  f+1,i,d,hf,hd=>by
  have hi:i<s.length:=by omega
  have hb:=hs s[i] (Z9 hi)
  unfold digit at hb
  have eg:s.getD i 0=s[i]:=by simp [List.getD,hi]
  have hp:(10^i:Nat)<=10^17:=Z70 (by decide) (by omega)
  have hp':((10^i:Nat):Int)<=100000000000000000:=Int.ofNat_le.2 hp
  have ih:=Qmy hs hl f (i+1) (10*d+(s[i].toNat:Int)-48) (by omega) ⟨by omega,by rw [Z55,Z43];omega⟩
  rw [Z41 hi]
  refine .step (λrec=>?_) ih
  unfold z65.l2P
  simp only
  rw [if_pos hi,Qq3 hi (by rw [eg];omega),eg]
  simp only
  rw [Qil (by omega) (by omega),Qp (n:=(s[i].toNat:Int)-48) (by omega) (by omega),Qp (n:=10*d) (by omega) (by omega),Qp (by omega) (by omega)]
  congr 2;omega
theorem Qrc {s:J1} {n j k:Nat} (hs:Qw s) (hk:k<=s.length) (hk':k<=18) (hn:n<10^j) (hj:j<=8192) {R:Type} (rec done:(J1×Bool×J0)->Option R) :
  z65.j1011a rec done (k:Int) s (lb n)=rec (s.drop k,false,lb (n*1000000000000000000+(tv 0 (s.take k)).toNat)):=by
 have hds:Qw (s.take k):=λb hb=>hs b (Z42 hb)
 have hlen:(s.take k).length=k:=by rw [Z10];omega
 have htb:=Jg hds
 rw [hlen] at htb
 have hp:(10^k:Nat)<=10^18:=Z70 (by decide) hk'
 have hp':((10^k:Nat):Int)<=1000000000000000000:=Int.ofNat_le.2 hp
 have r:=Qmy hds (by omega) (s.take k).length 0 0 (by omega) ⟨Int.le_refl 0,by decide⟩
 have er:z65.l2a (s.take k) ((0:Int),0)=some (tv 0 (s.take k),(s.take k).length):=r.lfp
 obtain ⟨U,hU⟩:∃U:Nat,1000000000000000000=U:=⟨_,rfl⟩
 have hU':Int.toNat 1000000000000000000=U:=by omega
 have hUs:sz U<=19:=Q3 (by omega)
 have hsn:=Z45 (Q6 n) (Q3 hn)
 have hsu:=Z45 (Q6 U) hUs
 have hsm:=Z45 (Q6 (n*U)) (Z45 (Qaz n U) (Nat.add_le_add (Q3 hn) hUs))
 have hst:=Z45 (Q6 (tv 0 (s.take k)).toNat) (Q3 (k:=18) (by omega))
 have e1:z33.F [(1000000000000000000:Int)]=some (lb U):=by rw [W8 (by omega),hU']
 have e2:z33.F [tv 0 (s.take k)]=some (lb (tv 0 (s.take k)).toNat):=W8 (by omega)
 have e3:z56.F (lb n) (lb U)=some (lb (n*U)):=Qa9 (by omega)
 have e4:z58.F (lb (n*U)) (lb (tv 0 (s.take k)).toNat)=some (lb (n*U+(tv 0 (s.take k)).toNat)):=Qey (by omega)
 have e5:(0:Int)<=(k:Int)/\(k:Int)<=((s.length:Nat):Int):=by omega
 rw [hU]
 unfold z65.j1011a
 rw [if_pos e5,Zi,er]
 simp only [Zb]
 rw [e1]
 simp only [Zb]
 rw [e3]
 simp only [Zb]
 rw [e2]
 simp only [Zb]
 rw [e4]
 simp only [Zb]
 rw [if_pos e5]
theorem Qia:∀(m:Nat) (s:J1),s.length<=m->Qw s->∀(n j:Nat) (first:Bool),n<10^j->j+s.length<=8192->((first=true/\n=0)\/(first=false/\s.length%18=0)) ->
  ∃f',Runs (λrec x=>z65.l0P rec some x) (s,first,lb n) ([],f',lb (tv n s).toNat)
 |
  0,s,hm,hs,n,j,first,hn,hj,hf=>by
  have:s=[]:=List.length_eq_zero_iff.1 (by omega)
  subst this
  refine ⟨first,.done λrec=>?_⟩
  simp [z65.l0P,tv]
 |
  m+1,s,hm,hs,n,j,first,hn,hj,hf=>by
  by_cases hne:s=[]
  ·subst hne
   refine ⟨first,.done λrec=>?_⟩
   simp [z65.l0P,tv]
  ·have hpos:0<s.length:=Z30.2 hne
   have key:∃k:Nat,0<k/\k<=s.length/\k<=18/\(n=0\/k=18)/\(s.length-k)%18=0 /\
     ∀rec,z65.l0P rec some (s,first,lb n)=z65.j1011a rec some (k:Int) s (lb n):=by
    have hd:(!decide (s=([]:J1)))=true:=by rw [Zf hne];rfl
    rcases hf with ⟨rfl,hn0⟩|⟨rfl,h18⟩
    ·have em:Int.tmod (s.length:Int) 18=((s.length%18:Nat):Int):=by rw [Qbo (by omega)];rfl
     by_cases h0:s.length%18=0
     ·refine ⟨18,by omega,by omega,by omega,.inr rfl,by omega,λrec=>?_⟩
      unfold z65.l0P
      simp only [hd,Zn,Zd,Zc]
      rw [em,bif_t (by omega)];rfl
     ·refine ⟨s.length%18,by omega,Nat.mod_le _ _,by omega,.inl hn0,by omega,λrec=>?_⟩
      unfold z65.l0P
      simp only [hd,Zn,Zd,Zc]
      rw [em,Qc (by omega)]
    ·refine ⟨18,by omega,by omega,by omega,.inr rfl,by omega,λrec=>?_⟩
     unfold z65.l0P
     simp only [hd,Zo,Zd]
     rfl
   obtain ⟨k,k0,k1,k2,k3,k4,k5⟩:=key
   have hds:Qw (s.take k):=λb hb=>hs b (Z42 hb)
   have hdd:Qw (s.drop k):=λb hb=>hs b (Z57 hb)
   have hlen:(s.take k).length=k:=by rw [Z10];omega
   have htb:=Jg hds
   rw [hlen] at htb
   have htv:tv n (s.take k)=((n*1000000000000000000+(tv 0 (s.take k)).toNat:Nat):Int):=by
    rw [Qcj,hlen]
    rcases k3 with h|h
    ·subst h;simp;omega
    ·subst h
     have:((10^18:Nat):Int)=1000000000000000000:=rfl
     rw [this];omega
   have hn':n*1000000000000000000+(tv 0 (s.take k)).toNat<10^(j+k):=by
    have hp0:0<10^j:=Nat.pow_pos (by decide)
    rcases k3 with h|h
    ·subst h
     have:10^k<=10^(j+k):=Z70 (by decide) (by omega)
     omega
    ·subst h
     have e18:(10^(j+18):Nat)=10^j*1000000000000000000:=by rw [Z93]
     have e18':((10^18:Nat):Int)=1000000000000000000:=rfl
     rw [e18]
     have:(n+1)*1000000000000000000<=10^j*1000000000000000000:=Z11 _ hn
     omega
   obtain ⟨f',r⟩:=Qia m (s.drop k) (by rw [Z17];omega) hdd (n*1000000000000000000+(tv 0 (s.take k)).toNat) (j+k) false hn' (by rw [Z17];omega) (.inr ⟨rfl,by rw [Z17];exact k4⟩)
   refine ⟨f',.step (y:=(s.drop k,false,lb (n*1000000000000000000+(tv 0 (s.take k)).toNat))) (λrec=>?_) ?_⟩
   ·rw [k5,Qrc hs k1 k2 hn (by omega)]
   ·have e:tv n s=tv ((n*1000000000000000000+(tv 0 (s.take k)).toNat:Nat):Int) (s.drop k):=by
     conv=>lhs;rw [<-List.take_append_drop k s]
     rw [Qdd,htv]
    rw [e];exact r
theorem digits_Parse (s:J1):z65.F s=some (lb (mDigits s).1,(mDigits s).2):=by
 unfold z65.F mDigits
 by_cases h1:4096<s.length
 ·rw [bif_t (by omega),if_pos h1,lb_zero]
 ·rw [Qc (by omega),if_neg h1]
  by_cases h2:s=[]
  ·subst h2;rw [bif_t rfl];simp [numOK,lb_zero]
  ·rw [Qc h2]
   obtain ⟨r,t1,t2⟩:=Qj7 s (by omega)
   rw [t1]
   simp only [Zb]
   rw [t2]
   cases hd:digs s with
   |false=>simp [numOK,hd,lb_zero]
   |
    true=>
    have hds:=Yv.1 hd
    obtain ⟨f',r⟩:=Qia s.length s (Z3 _) hds 0 0 true (by decide) (by omega) (.inl ⟨rfl,rfl⟩)
    rw [lb_zero] at r
    have er:z65.l0 (s,true,[])=some ([],f',lb (tv ((0:Nat):Int) s).toNat):=r.lfp
    simp only [Zn,Zc]
    rw [er]
    have hpos:0<s.length:=Z30.2 h2
    by_cases h3:1<s.length
    ·rw [bif_t (by omega),if_pos (by omega)]
     by_cases h4:(s.getD 0 0).toNat=48
     ·rw [bif_t (by omega)]
      have:numOK s=false:=by simp [numOK,h3];intro _ _ ;simpa [List.getD] using h4
      rw [this];simp [lb_zero]
     ·rw [Qc (by omega)]
      have:numOK s=true:=by simp only [numOK,Zf h2,hd,Zf h4];simp
      rw [this];rfl
    ·rw [Qc (by omega)]
     have:numOK s=true:=by simp only [numOK,Zf h2,hd,Zf h3];simp
     rw [this];rfl
theorem Qfm (a:Int) (h0:0<=a) (h1:a<9223372036854775808):wr .i64 ((BitVec.ofInt (IntKind.bits .i64) a &&& BitVec.ofInt (IntKind.bits .i64) (1:Int)).toNat:Int)=a%2:=by
 have e:(BitVec.ofInt (IntKind.bits .i64) a &&& BitVec.ofInt (IntKind.bits .i64) (1:Int)).toNat=(a%2).toNat:=by
  rw [BitVec.toNat_and]
  have e1:(BitVec.ofInt (IntKind.bits .i64) (1:Int)).toNat=2^1-1:=rfl
  have e2:(BitVec.ofInt (IntKind.bits .i64) a).toNat=(a%18446744073709551616).toNat:=by
   rw [BitVec.toNat_ofInt];rfl
  rw [e1,Nat.and_two_pow_sub_one_eq_mod,e2]
  omega
 rw [e,Qg (by omega) (by omega)];omega
theorem shr1 (a:Int):Int.fdiv a (2^(min 1 (64:Nat)))=a/2:=by
 rw [Int.fdiv_eq_ediv_of_nonneg _ (by decide)];rfl
theorem Qd6:∀(f t n out:Nat),t<=f->t<9223372036854775808->sz out+t*sz n<=800000000 ->
  ∃n',Runs (λrec x=>z74.l0P rec some x) ((t:Int),lb n,lb out) ((0:Int),n',lb (out*n^t))
 |
  0,t,n,out,hf,ht,hb=>by
  have:t=0:=by omega
  subst this
  refine ⟨lb n,.done λrec=>?_⟩
  simp [z74.l0P]
 |
  f+1,t,n,out,hf,ht,hb=>by
  rcases Z16 t with h0|h0
  ·subst h0
   refine ⟨lb n,.done λrec=>?_⟩
   simp [z74.l0P]
  ·have hn:=Q6 n
   have ho:=Q6 out
   have hsq:=Qaz n n
   have hon:=Qaz out n
   have e2:(t:Int)/2=((t/2:Nat):Int):=by omega
   have em:(t:Int)%2=((t%2:Nat):Int):=by omega
   have hq:t*sz n=2*(t/2*sz n)+t%2*sz n:=by
    conv=>lhs;rw [<-Z69 t 2]
    rw [Z21,Z91]
   have hq2:t/2*sz (n*n)<=2*(t/2*sz n):=by
    have:=Nat.mul_le_mul_left (t/2) hsq
    have e:t/2*(sz n+sz n)=2*(t/2*sz n):=by rw [Nat.mul_add];omega
    omega
   have hpow:n^t=n^(t%2)*(n*n)^(t/2):=by
    rw [<-Nat.pow_two,<-Nat.pow_mul,<-Z93];congr 1;omega
   by_cases hodd:t%2=1
   ·rw [hodd,Z85] at hq
    by_cases h1:1<t
    ·have hge:1<=t/2:=by omega
     have hge':sz n<=t/2*sz n:=Nat.le_mul_of_pos_left _ hge
     obtain ⟨n',r⟩:=Qd6 f (t/2) (n*n) (out*n) (by omega) (by omega) (by omega)
     refine ⟨n',.step (λrec=>?_) (by rw [hpow,hodd,Nat.pow_one,<-Z91];exact r)⟩
     unfold z74.l0P
     simp only
     rw [bif_t (by omega),Qfm _ (by omega) (by omega),em,hodd,bif_t (by omega),Qa9 (by omega)]
     simp only [Zb]
     rw [bif_t (by omega),Qa9 (by omega),shr1,e2]
     rfl
    ·have ht1:t=1:=by omega
     subst ht1
     obtain ⟨n',r⟩:=Qd6 f 0 n (out*n) (by omega) (by omega) (by omega)
     refine ⟨n',.step (λrec=>?_) (by simpa using r)⟩
     unfold z74.l0P
     simp only
     rw [bif_t (by omega),Qfm _ (by omega) (by omega),bif_t (by decide),Qa9 (by omega)]
     simp only [Zb]
     rw [Qc (by omega),shr1]
     rfl
   ·have h2:t%2=0:=by omega
    rw [h2,Nat.zero_mul,Z71] at hq
    have hge:1<=t/2:=by omega
    have hge':sz n<=t/2*sz n:=Nat.le_mul_of_pos_left _ hge
    obtain ⟨n',r⟩:=Qd6 f (t/2) (n*n) out (by omega) (by omega) (by omega)
    refine ⟨n',.step (λrec=>?_) (by rw [hpow,h2,Nat.pow_zero,Z85];exact r)⟩
    unfold z74.l0P
    simp only
    rw [bif_t (by omega),Qfm _ (by omega) (by omega),em,h2,Qc (by omega),bif_t (by omega),Qa9 (by omega)]
    simp only [Zb]
    rw [shr1,e2]
theorem digits_power {n t:Nat} (ht:t<9223372036854775808) (h:t*sz n<=700000000):z74.F (lb n) (t:Int)=some (lb (n^t)):=by
 have h1:sz 1<=1:=Q3 (by decide)
 obtain ⟨n',r⟩:=Qd6 t t n 1 (Z3 _) ht (by omega)
 have e:z74.l0 ((t:Int),lb n,lb 1)=some ((0:Int),n',lb (1*n^t)):=r.lfp
 unfold z74.F
 rw [W8 (by omega)]
 simp only [Zb]
 rw [show Int.toNat 1=1 from rfl,e,Z85]
 rfl
theorem digits_Ten {t:Nat} (ht:t<=4096):z75.F (t:Int)=some (lb (10^t),0):=by
 have h1:sz 10<=2:=Q3 (by decide)
 have h2:=Nat.mul_le_mul_left t h1
 unfold z75.F
 rw [Qc (by omega),Qc (by omega),W8 (by omega)]
 simp only [Zb]
 rw [show Int.toNat 10=10 from rfl,digits_power (by omega) (by omega)]
 rfl
def Y6 (a b:Nat):Prop:=z52.F (lb a) (lb b)=some (lb (a/b),lb (a%b),0)
def Qbm (M:Nat):Prop:=∀x y,x<=M->y<=M->0<y->Y6 x y
theorem Qdb {m n:Int}:cmpI m n<0↔m<n:=by unfold cmpI;split<;>(try split)<;>omega
theorem Qcs {m n:Int}:cmpI m n>0↔n<m:=by unfold cmpI;split<;>(try split)<;>omega
theorem Qnl {m n:Int}:cmpI m n=0↔m=n:=by unfold cmpI;split<;>(try split)<;>omega
theorem Qc7 {a:Nat} (h0:0<a) (h:a<18446744073709551616):lb a=[(a:Int)]:=by
 show toB LB a=_
 rw [Wq bL h0,Nat.mod_eq_of_lt h,Nat.div_eq_of_lt h,toB_zero]
theorem Qmg {a b:Int} (ha:0<=a/\a<18446744073709551616) (hb:0<b):z46.F 0 a b=some (a/b,a%b):=by
 unfold z46.F
 rw [Qc (by omega),Qc (by omega),bif_t rfl,if_neg (by omega),if_neg (by omega),Qck ha.1,Qbo ha.1]
 have h1:=Int.ediv_nonneg ha.1 (Int.le_of_lt hb)
 have h2:=Int.ediv_le_self b ha.1
 rw [Qp h1 (by omega)]
theorem Qvn {a b:Int} (ha:0<=a/\a<18446744073709551616) (hb:0<b):z47.F [a] b=some ([a/b],a%b):=by
 have h0:z47.l0 [a] b ((0:Int),(0:Int),[(0:Int)])=some (a%b,(-1:Int),[a/b]):=by
  refine (Runs.step (y:=(a%b,(-1:Int),[a/b])) (λrec=>?_) (Runs.done λrec=>?_):Runs (λrec x=>z47.l0P [a] b rec some x) _ _).lfp
  ·unfold z47.l0P
   simp only [Z25]
   rw [bif_t (by omega),if_pos (by omega),show [a].getD (Int.toNat 0) 0=a from rfl,Qmg ha hb]
   rfl
  ·unfold z47.l0P
   simp only
   rw [Qc (by omega)]
 unfold z47.F
 simp only [Z25]
 rw [if_pos (by omega)]
 show ((z47.l0 [a] b ((0:Int),wr .i64 0,[(0:Int)])).bind _)=_
 rw [Qg (by omega) (by omega),h0]
 rfl
theorem Qkl {a b:Nat} (h:a<b) (hs:(lb a).length<=900000000):Y6 a b:=by
 unfold Y6 z52.F
 rw [W0]
 simp only [Zb]
 rw [Qc (by omega),Qcq hs]
 simp only [Zb]
 have:cmpI (a:Int) b<0:=by unfold cmpI;rw [if_pos (by omega)];decide
 rw [bif_t this,Nat.div_eq_of_lt h,Nat.mod_eq_of_lt h,lb_zero]
theorem Qt0 {a b:Nat} (ha:a<18446744073709551616) (hb:0<b):Y6 a b:=by
 have hl:(lb a).length<=1:=Y4 bL (by simpa using ha)
 rcases Z65 a b with h|h
 ·exact Qkl h (by omega)
 ·unfold Y6 z52.F
  rw [W0]
  simp only [Zb]
  rw [Qc (by omega),Qcq (by omega)]
  simp only [Zb]
  have:¬cmpI (a:Int) b<0:=by unfold cmpI;rw [if_neg (by omega)];split<;>omega
  rw [Qc this,Qc7 (by omega) ha,Qc7 hb (by omega),Qb1 (by show List.length _<=_;simp),Qb1 (by show List.length _<=_;simp)]
  simp only [Zb,Z25]
  rw [bif_t (by omega),if_pos (by omega),show [(b:Int)].getD 0 0=b from rfl,Qvn (by omega) (by omega)]
  simp only [Zb]
  have b1:a/b<=a:=Nat.div_le_self a b
  have b2:a%b<=a:=Nat.mod_le a b
  obtain ⟨q,hq⟩:∃q,a/b=q:=⟨_,rfl⟩
  obtain ⟨m,hm⟩:∃m,a%b=m:=⟨_,rfl⟩
  have e1:((a:Int)/b)=(q:Int):=by rw [<-hq];rfl
  have e2:((a:Int)%b)=(m:Int):=by rw [<-hm];rfl
  rw [hq] at b1 ⊢
  rw [hm] at b2 ⊢
  rw [e1,e2,W8 (by omega)]
  simp only [Zb]
  rw [W8 (by omega)]
  rfl
theorem quot_Gcd {M:Nat} (hD:Qbm M) {a b:Nat} (ha:a<=M) (hb:b<=M):z53.F (lb a) (lb b)=some (lb (Nat.gcd a b)):=by
 have key:∀(f a b:Nat),b<f->a<=M->b<=M->Runs (λrec x=>z53.l0P rec some x) (lb a,lb b) (lb (Nat.gcd a b),[]):=by
  intro f
  induction f with
  |zero=>intro a b h;omega
  |
   succ f ih=>
   intro a b h ha hb
   rcases Z16 b with h0|h0
   ·subst h0
    refine .done λrec=>?_
    unfold z53.l0P
    simp only [W0,Zb]
    rw [Nat.gcd_zero_right,lb_zero];rfl
   ·have hm:=Z88 a h0
    have hmm:=Nat.mod_le a b
    have e:Nat.gcd a b=Nat.gcd b (a%b):=by rw [Nat.gcd_comm,Nat.gcd_rec,Nat.gcd_comm]
    rw [e]
    refine .step (λrec=>?_) (ih b (a%b) (by omega) hb (by omega))
    unfold z53.l0P
    simp only [W0,Zb]
    rw [Zf (by omega),Zo,Zd,hD a b ha hb h0]
    rfl
 unfold z53.F
 have e:z53.l0 (lb a,lb b)=some (lb (Nat.gcd a b),[]):=(key (b+1) a b (by omega) ha hb).lfp
 rw [e];rfl
theorem Qvc (z:Int):decide (cmpI z 0<0)=neg z:=by
 unfold cmpI;apply decide_eq_decide.2;split<;>(try split)<;>omega
theorem Qk6 {z:Int} {g:Nat} (h:g∣z.natAbs) (h0:0<g):(z/(g:Int)).natAbs=z.natAbs/g/\(z/(g:Int)<0↔z<0):=by
 obtain ⟨k,hk⟩:=Int.ofNat_dvd_left.2 h
 subst hk
 have hg:(g:Int)≠0:=by omega
 rw [Int.mul_ediv_cancel_left _ hg,Int.natAbs_mul,Int.natAbs_natCast,Nat.mul_div_cancel_left _ h0]
 refine ⟨rfl,?_⟩
 constructor
 ·intro h;exact Int.mul_neg_of_pos_of_neg (by omega) h
 ·intro h
  rcases Int.lt_or_le k 0 with h'|h'
  ·exact h'
  ·have:=Z80 (show (0:Int)<=g by omega) h';omega
theorem frac_made {M:Nat} (hD:Qbm M) {num:Int} {den:Nat} (h0:0<den) (hn:num.natAbs<=M) (hd:den<=M) (hs:sz den<=700000000) :
  z54.F (lb num.natAbs) (neg num) (lb den)=some (lb (mkRat num den).num.natAbs,neg (mkRat num den).num,lb ((mkRat num den).den-1)):=by
 have hg:0<Nat.gcd num.natAbs den:=Nat.gcd_pos_of_pos_right _ h0
 have hgd:Nat.gcd num.natAbs den<=den:=Nat.gcd_le_right _ h0
 have hdv:=Nat.gcd_dvd_right num.natAbs den
 have hdv2:=Nat.gcd_dvd_left num.natAbs den
 have hp:0<den/Nat.gcd num.natAbs den:=Nat.div_pos hgd hg
 have hle:den/Nat.gcd num.natAbs den<=den:=Nat.div_le_self _ _
 have hsz:=Z45 (Q6 _) (Z45 (Qf9 hle) hs)
 obtain ⟨q1,q2⟩:=Qk6 hdv2 hg
 unfold z54.F z37.F
 simp only [Zb]
 rw [quot_Gcd hD hn hd]
 simp only [Zb]
 rw [Rat.num_mkRat,Rat.den_mkRat,if_neg (by omega),if_neg (by omega),Nat.gcd_comm den]
 generalize Nat.gcd num.natAbs den=g at *
 have d1:z52.F (lb num.natAbs) (lb g)=_:=hD _ _ hn (by omega) hg
 have d2:z52.F (lb den) (lb g)=_:=hD _ _ hd (by omega) hg
 rw [d1]
 simp only [Zb]
 rw [d2]
 simp only [Zb]
 rw [W8 (by omega)]
 simp only [Zb]
 rw [show Int.toNat 1=1 from rfl,Qhn (by omega),if_pos (by omega)]
 simp only [Zb]
 rw [Qav]
 simp only [Zb]
 rw [Qvc,Yb (z:=num/(g:Int)) q1.symm (by
  have hz:num/(g:Int)<0↔num<0:=q2
  by_cases h:num<0
  ·exact .inl ⟨Zt h,by omega⟩
  ·exact .inr ⟨Zf h,by omega⟩)]
 rfl
abbrev fr (q:Rat):J0×Bool×J0:=(lb q.num.natAbs,neg q.num,lb (q.den-1))
theorem frac_Of {M:Nat} (hD:Qbm M) {num den:Int} (h0:den≠0) (hn:num.natAbs<=M) (hd:den.natAbs<=M) (hs:sz den.natAbs<=700000000) :
  z55.F (lb num.natAbs) (neg num) (lb den.natAbs) (neg den)=some ((fr (Rat.divInt num den)).1,(fr (Rat.divInt num den)).2.1,(fr (Rat.divInt num den)).2.2,0):=by
 have hc:cmpI den 0=if den<0 then -1 else 1:=by
  unfold cmpI
  by_cases h:den<0
  ·rw [if_pos h,if_pos h]
  ·rw [if_neg h,if_neg h,if_neg h0]
 unfold z55.F
 rw [Qav]
 simp only [Zb]
 rw [hc]
 by_cases h:den<0
 ·have e:Rat.divInt num den=mkRat (-num) den.natAbs:=by
   have:den = -((den.natAbs:Nat):Int):=by omega
   conv=>lhs;rw [this]
   rw [Rat.divInt_neg',Rat.divInt_ofNat]
  rw [if_pos h,Qc (by decide),bif_t rfl,Qmq]
  simp only [Zb]
  unfold z55.j4 z37.F
  simp only [Zb]
  rw [frac_made hD (by omega) (by omega) hd hs,e]
  rfl
 ·have e:Rat.divInt num den=mkRat num den.natAbs:=by
   have:den=((den.natAbs:Nat):Int):=by omega
   conv=>lhs;rw [this]
   rw [Rat.divInt_ofNat]
  rw [if_neg h,Qc (by decide),Qc (by decide)]
  unfold z55.j4 z37.F
  simp only [Zb]
  rw [frac_made hD (by omega) hn hd hs,e]
  rfl
theorem Qsp (q:Rat) (a:J0) (b:Bool) (hs:sz q.den<=700000000):z59.F a b (lb (q.den-1))=some (lb q.den):=by
 have h1:sz 1<=1:=Q3 (by decide)
 have h2:=Z45 (Q6 (q.den-1)) (Z45 (Qf9 (Nat.sub_le _ _)) hs)
 have h3:=Z45 (Q6 1) h1
 unfold z59.F
 rw [W8 (by omega)]
 simp only [Zb]
 rw [show Int.toNat 1=1 from rfl,Qey (by omega),Nat.sub_add_cancel q.den_pos]
 rfl
theorem Qlw (q:Rat) (a:J0) (b:Bool) (hs:sz q.den<=700000000):z60.F a b (lb (q.den-1))=some (lb (q.den:Int).natAbs,neg (q.den:Int)):=by
 unfold z60.F
 rw [Qsp q a b hs]
 simp only [Zb]
 rw [Yb (z:=(q.den:Int)) (by omega) (.inr ⟨rfl,by omega⟩)]
 rfl
theorem Qo8 (q r:Rat):q/r=Rat.divInt (q.num*r.den) (q.den*r.num):=by
 rw [Rat.div_def,Rat.inv_def]
 conv=>lhs;rw [<-Rat.num_divInt_den q,Rat.divInt_mul_divInt]
theorem Quc {M:Nat} (hD:Qbm M) {q r:Rat} (h0:r≠0) (hn:(q.num*r.den).natAbs<=M) (hd:(q.den*r.num).natAbs<=M) (hs:sz q.num.natAbs+sz r.den<=600000000) (hs':sz r.num.natAbs+sz q.den<=600000000) :
  z61.F (lb q.num.natAbs) (neg q.num) (lb (q.den-1)) (lb r.num.natAbs) (neg r.num) (lb (r.den-1))=some ((fr (q/r)).1,(fr (q/r)).2.1,(fr (q/r)).2.2,0):=by
 have e1:sz (r.den:Int).natAbs=sz r.den:=rfl
 have e2:sz (q.den:Int).natAbs=sz q.den:=rfl
 have l1:=Q6 q.num.natAbs
 have l2:=Q6 (r.den:Int).natAbs
 have l3:=Q6 (q.den:Int).natAbs
 have l4:=Q6 r.num.natAbs
 have hr:r.num≠0:=λh=>h0 (Rat.num_eq_zero.1 h)
 have hqd:=q.den_nz
 have m1:=Qaz (q.den:Int).natAbs r.num.natAbs
 rw [<-Int.natAbs_mul] at m1
 unfold z61.F
 rw [Qlw r _ _ (by omega)]
 simp only [Zb]
 rw [Qgl (by omega)]
 simp only [Zb]
 rw [Qlw q _ _ (by omega)]
 simp only [Zb]
 rw [Qgl (by omega)]
 simp only [Zb]
 rw [frac_Of hD (Int.mul_ne_zero (by omega) hr) hn hd (by show sz _<=_;omega),Qo8]
 rfl
def cutNeg (s:J1):J1×Bool:=match s with|[]=>([],false)|b::t=>if b=45 then (t,true) else (b::t,false)
theorem Qjf (s:J1):(cutNeg s).1.length<=s.length:=by
 unfold cutNeg;split
 ·simp
 ·split<;>simp
theorem Qfr (s:J1):z64.F s [45]=some (cutNeg s):=by
 unfold z64.F z63.F z62.F cutNeg
 cases s with
 |nil=>rfl
 |
  cons b t=>
  have e1:([45]:J1).length=1:=rfl
  have e2:Int.toNat ((1:Nat):Int)=1:=rfl
  simp only [e1,e2]
  rw [bif_t (by simp;omega),if_pos (by simp;omega)]
  simp only [Zb,List.take_succ_cons,List.take_zero,List.drop_succ_cons,Z59,List.cons.injEq,and_true]
  by_cases h:b=45
  ·rw [Zt h,if_pos h,if_pos (by simp;omega)];rfl
  ·rw [Zf h,if_neg h];rfl
def mWhole (s:J1):Int×Int:=
 if (mDigits (cutNeg s).1).2≠0 then (0,(mDigits (cutNeg s).1).2)
 else if (cutNeg s).2&&decide ((mDigits (cutNeg s).1).1=0) then (0,5)
 else (if (cutNeg s).2 then -((mDigits (cutNeg s).1).1:Int) else (mDigits (cutNeg s).1).1,0)
theorem whole_Parse (s:J1):z82.F s=some (lb (mWhole s).1.natAbs,neg (mWhole s).1,(mWhole s).2):=by
 unfold z82.F mWhole
 rw [Qfr]
 simp only [Zb]
 rw [digits_Parse]
 simp only [Zb]
 generalize mDigits (cutNeg s).1=d
 generalize (cutNeg s).2=below
 by_cases h:d.2=0
 ·have h':¬(d.2≠0):=λhh=>hh h
  rw [Zt h,if_neg h']
  simp only [Zn,Zc]
  cases below with
  |
   true=>
   simp only [Zd,Z68,if_true]
   rw [W0]
   simp only [Zb]
   by_cases h0:d.1=0
   ·rw [Zt h0]
    simp only [if_true,Zd]
    rw [show Int.natAbs 0=0 from rfl,lb_zero];rfl
   ·rw [Zf h0]
    simp only [Zc]
    rw [Yb (z:=-(d.1:Int)) (by omega) (.inl ⟨rfl,by omega⟩)]
    simp
  |
   false=>
   simp only [Zc,Z60]
   rw [Yb (z:=(d.1:Int)) (by omega) (.inr ⟨rfl,by omega⟩)]
   simp
 ·rw [Zf h,if_pos h]
  simp only [Zo,Zd]
  rw [show Int.natAbs 0=0 from rfl,lb_zero];rfl
def cutDot:J1->J1×Option J1
 |[]=>([],none)
 |b::t=>if b=46 then ([],some t) else (b::(cutDot t).1,(cutDot t).2)
theorem Qem:∀{t:J1},(cutDot t).2=none->(cutDot t).1=t
 |[],_=>rfl
 |
  b::t,h=>by
  unfold cutDot at h ⊢
  split at h
  ·simp at h
  ·rename_i hb
   rw [if_neg hb]
   simp only at h ⊢
   rw [Qem h]
theorem Qdw:∀{t r:J1},(cutDot t).2=some r->t=(cutDot t).1++46::r
 |[],r,h=>by simp [cutDot] at h
 |
  b::t,r,h=>by
  unfold cutDot at h ⊢
  split at h
  ·rename_i hb
   rw [if_pos hb,hb]
   simp only [Zs] at h
   rw [h];rfl
  ·rename_i hb
   rw [if_neg hb]
   simp only at h ⊢
   conv=>lhs;rw [Qdw h]
   rfl
theorem Yw (b:UInt8) (t:J1) (c:UInt8):byteIdx (b::t) c=if b=c then 0 else if byteIdx t c<0 then -1 else byteIdx t c+1:=by
 unfold byteIdx
 rw [Z8,List.range_succ_eq_map,List.find?_cons]
 by_cases h:b=c
 ·simp [h]
 ·have h1:((b::t).getD 0 0 == c)=false:=by simp [h]
  rw [h1,if_neg h]
  simp only
  rw [List.find?_map]
  have e:((λi=>(b::t).getD i 0 == c)∘Nat.succ)=λi=>t.getD i 0 == c:=by funext i;simp [List.getD]
  rw [e]
  cases (List.range t.length).find? λi=>t.getD i 0 == c with
  |none=>simp
  |some i=>simp;omega
theorem Qij:∀t:J1,byteIdx t 46=if (cutDot t).2=none then -1 else ((cutDot t).1.length:Int)
 |[]=>by simp [byteIdx,cutDot]
 |
  b::t=>by
  have e:cutDot (b::t)=if b=46 then ([],some t) else (b::(cutDot t).1,(cutDot t).2):=by rw [cutDot]
  rw [Yw,Qij t,e]
  by_cases h:b=46
  ·simp [h]
  ·rw [if_neg h,if_neg h]
   by_cases h2:(cutDot t).2=none
   ·simp [h2]
   ·simp [h2];omega
def plainB (s:J1):Bool:=!decide (s=[])&&digs s
def zeros (s:J1):Bool:=s.all (· == 48)
theorem dec_plain (s:J1) (h:s.length<=9223372036854775807):z66.F s=some (plainB s):=by
 unfold z66.F plainB
 by_cases h0:s=[]
 ·rw [Zt h0];rfl
 ·rw [Zf h0]
  obtain ⟨r,t1,t2⟩:=Qj7 s h
  simp only [Zo,Zd]
  rw [t1]
  simp only [Zb]
  rw [t2];simp
theorem Qvv (b:UInt8):([48]:J1).contains b=(b == 48):=by
 simp only [List.contains_cons,List.contains_nil,Bool.or_false]
theorem Qi1 (s:J1) (hs:s.length<=9223372036854775807):∃r,z4.F s [48]=some r/\decide (r=[])=zeros s:=by
 unfold z4.F
 rw [if_pos ⟨hs,by decide,by decide⟩]
 refine ⟨_,rfl,?_⟩
 rw [Z61,decide_eq_true_iff,Ql8,zeros,Z14]
 simp only [Qvv]
theorem Qk5:∀{s:J1},Qw s->tv 0 (trimL s [48])=tv 0 s/\Qw (trimL s [48])/\(trimL s [48]).length<=s.length/\(trimL s [48]≠[]->((trimL s [48]).getD 0 0).toNat≠48)
 |[],h=>by simp [trimL,tv,Qw]
 |
  b::s,h=>by
  have ih:=Qk5 (s:=s) λx hx=>h x (by simp [hx])
  by_cases hb:b=48
  ·have e:trimL (b::s) [48]=trimL s [48]:=by unfold trimL;exact List.dropWhile_cons_of_pos (by rw [hb];decide)
   rw [e]
   refine ⟨?_,ih.2.1,by rw [Z8];omega,ih.2.2.2⟩
   rw [ih.1,hb];rfl
  ·have e:trimL (b::s) [48]=b::s:=by unfold trimL;exact List.dropWhile_cons_of_neg (by simp [hb])
   rw [e]
   refine ⟨rfl,h,Z3 _,λ_ hh=>hb (UInt8.toNat_inj.1 hh)⟩
theorem Qlx {s:J1} (hd:Qw s) (hl:s.length<=4096):z65.F (if trimL s [48]=[] then [48] else trimL s [48])=some (lb (tv 0 s).toNat,0):=by
 obtain ⟨h1,h2,h3,h4⟩:=Qk5 hd
 rw [digits_Parse]
 by_cases h:trimL s [48]=[]
 ·rw [if_pos h]
  rw [h] at h1
  rw [<-h1];rfl
 ·rw [if_neg h,<-h1]
  unfold mDigits
  have:numOK (trimL s [48])=true:=by
   unfold numOK
   rw [Zf h,Yv.2 h2,Zf (h4 h)];simp
  rw [if_neg (by omega),this];rfl
def Y5 (below:Bool) (a:J1) (o:Option J1):Int×Nat×Int:=
 if !plainB a||(o.isSome && !plainB (o.getD []))||(decide (1<a.length)&&decide ((a.getD 0 0).toNat=48)) then (0,0,5)
 else if below&&zeros (a++o.getD []) then (0,0,5)
 else if 64<(o.getD []).length then (0,0,10)
 else (if below then -tv 0 (a++o.getD []) else tv 0 (a++o.getD []),(o.getD []).length,0)
def mDec (s:J1):Int×Nat×Int:=if 4096<s.length then (0,0,7) else Y5 (cutNeg s).2 (cutDot (cutNeg s).1).1 (cutDot (cutNeg s).1).2
abbrev decR (m:Int×Nat×Int):J0×Bool×Int×Int:=(lb m.1.natAbs,neg m.1,(m.2.1:Int),m.2.2)
theorem Yu (e:Int):decR (0,0,e)=([],false,0,e):=by unfold decR;simp [lb_zero]
theorem Qip (n:Int) (h:0<=n) (below:Bool):z31.F (lb n.toNat) below=some (lb (if below then -n else n).natAbs,neg (if below then -n else n)):=by
 cases below
 ·rw [Yb (z:=n) (by omega) (.inr ⟨rfl,h⟩)];rfl
 ·rw [Yb (z:=-n) (by omega) (.inl ⟨rfl,by omega⟩)];rfl
theorem Qrr {rest a b:J1} {below lead:Bool} (h1:rest.take a.length=a) (h2:rest.drop (a.length+1)=b) (ha:Qw a) (hb:Qw b) (hl:a.length+b.length<=4096) :
  z67.j14 lead (rest,below) (a.length:Int)=some (decR (if lead then (0,0,5) else if below&&zeros (a++b) then (0,0,5) else if 64<b.length then (0,0,10) else (if below then -tv 0 (a++b) else tv 0 (a++b),b.length,0))):=by
 have e1:(wr .i64 ((a.length:Int)+1)).toNat=a.length+1:=by rw [Qg (by omega) (by omega)];omega
 have hab:Qw (a++b):=λx hx=>(Z22.1 hx).elim (ha x) (hb x)
 have hln:(a++b).length<=4096:=by rw [Z6];exact hl
 have key:z67.j16 false (rest,below) (a.length:Int)=some (decR (if 64<b.length then (0,0,10) else (if below then -tv 0 (a++b) else tv 0 (a++b),b.length,0))):=by
  unfold z67.j16
  simp only [e1,Zi,h1,h2,Zc]
  by_cases h64:64<b.length
  ·rw [bif_t (by omega),if_pos h64,Yu]
  ·rw [Qc (by omega),if_neg h64,if_pos (by omega)]
   have et:z5.F (a++b) [48]=some (trimL (a++b) [48]):=by unfold z5.F;rw [if_pos ⟨by decide,by decide⟩]
   rw [et]
   simp only [Zb]
   have ep:=Qlx hab hln
   have fin:∀x,z65.F x=some (lb (tv 0 (a++b)).toNat,0)->z67.j18 x (rest,below) (a.length:Int)=some (decR (if below then -tv 0 (a++b) else tv 0 (a++b),b.length,0)):=λx hx=>by
    unfold z67.j18
    rw [hx]
    simp only [Zb,e1,h2]
    rw [Qip _ (Jg hab).1]
    rfl
   by_cases ht:trimL (a++b) [48]=[]
   ·rw [if_pos ht] at ep
    rw [bif_t ht];exact fin _ ep
   ·rw [if_neg ht] at ep
    rw [Qc ht];exact fin _ ep
 unfold z67.j14
 simp only [e1,Zi,h1,h2]
 cases lead with
 |true=>simp only [Zd,if_true];rw [Yu]
 |
  false=>
  simp only [Zc]
  rw [if_neg Bool.false_ne_true]
  cases below with
  |false=>simp only [Zc,Z60];rw [key];rfl
  |
   true=>
   obtain ⟨r,t1,t2⟩:=Qi1 (a++b) (by omega)
   simp only [Zd,Z68]
   rw [if_pos (by omega),t1]
   simp only [Zb]
   rw [t2]
   cases hz:zeros (a++b) with
   |true=>unfold z67.j16;simp only [Zd,if_true];rw [Yu]
   |false=>rw [key];rfl
theorem Qp7 {a:J1} {below lead:Bool} (ha:Qw a) (hl:a.length<=4096) :
  z67.j22 lead (a,below)=some (decR (if lead then (0,0,5) else if below&&zeros a then (0,0,5) else (if below then -tv 0 a else tv 0 a,0,0))):=by
 have key:z67.j24 (a,below)=some (decR (if below then -tv 0 a else tv 0 a,0,0)):=by
  unfold z67.j24
  simp only [Z35]
  rw [if_pos (by simp;omega)]
  have et:z5.F a [48]=some (trimL a [48]):=by unfold z5.F;rw [if_pos ⟨by decide,by decide⟩]
  rw [et]
  simp only [Zb]
  have ep:=Qlx ha hl
  have fin:∀x,z65.F x=some (lb (tv 0 a).toNat,0)->z67.j26 x (a,below)=some (decR (if below then -tv 0 a else tv 0 a,0,0)):=λx hx=>by
   unfold z67.j26
   rw [hx]
   simp only [Zb]
   rw [Qip _ (Jg ha).1]
   rfl
  by_cases ht:trimL a [48]=[]
  ·rw [if_pos ht] at ep
   rw [bif_t ht];exact fin _ ep
  ·rw [if_neg ht] at ep
   rw [Qc ht];exact fin _ ep
 unfold z67.j22
 simp only [Z35]
 cases lead with
 |true=>simp only [Zd,if_true];rw [Yu]
 |
  false=>
  simp only [Zc]
  rw [if_neg Bool.false_ne_true]
  cases below with
  |false=>simp only [Zc,Z60];rw [key];rfl
  |
   true=>
   obtain ⟨r,t1,t2⟩:=Qi1 a (by omega)
   simp only [Zd,Z68]
   rw [if_pos (by simp;omega),t1]
   simp only [Zb]
   rw [t2]
   cases hz:zeros a with
   |true=>simp only [Zd,if_true];rw [Yu]
   |false=>simp only [Zc];rw [key];rfl
theorem Jz {s:J1} (h:plainB s=true):Qw s/\s≠[]:=by
 unfold plainB at h
 rw [Z4] at h
 exact ⟨Yv.1 h.2,by simpa using h.1⟩
theorem Qnd {a:J1} (hne:a≠[]) {α:Type} (f:Bool->Option α) :
  (bif decide ((a.length:Int)>1) then (if (0:Int)<=(0:Int)/\(0:Int)<(a.length:Int) then f (decide (((a.getD 0 0).toNat:Int)=(48:Int))) else none) else f false)=f (decide (1<a.length)&&decide ((a.getD 0 0).toNat=48)):=by
 have hpos:=Z30.2 hne
 by_cases h:1<a.length
 ·rw [bif_t (by omega),if_pos (by omega),Zt h,Z68]
  congr 1;exact decide_eq_decide.2 (by omega)
 ·rw [Qc (by omega),Zf h,Z60]
theorem dec_Parse (s:J1):z67.F s=some (decR (mDec s)):=by
 unfold z67.F mDec
 by_cases h0:4096<s.length
 ·rw [bif_t (by omega),if_pos h0,Yu]
 ·rw [Qc (by omega),if_neg h0,Qfr]
  simp only [Zb]
  have hlen:=Qjf s
  generalize cutNeg s=c at *
  obtain ⟨rest,below⟩:=c
  simp only at hlen ⊢
  have hp0:z66.F ([]:J1)=some false:=rfl
  by_cases hdot:([46]:J1)=rest
  ·subst hdot
   rw [bif_t rfl]
   simp only [Z25,List.take_zero,hp0,Zb]
   unfold z67.j4
   simp only [Zo,Zd]
   have:Y5 below (cutDot [46]).1 (cutDot [46]).2=(0,0,5):=by simp [cutDot,Y5,plainB]
   rw [this,Yu]
   rfl
  ·rw [Qc hdot,if_pos (by simp)]
   have hi:z2.F rest ((([46]:J1).getD 0 0).toNat:Int)=some (byteIdx rest 46):=rfl
   rw [hi]
   simp only [Zb]
   rw [Qij]
   cases ho:(cutDot rest).2 with
   |
    none=>
    have ha:=Qem ho
    rw [if_pos rfl,Qc (by omega),ha,dec_plain _ (by omega)]
    simp only [Zb]
    unfold Y5
    simp only [Option.isSome_none,Z60,Bool.or_false,Option.getD_none,Z35,Z29]
    cases hpl:plainB rest with
    |false=>unfold z67.j22;simp only [Zo,Zd,Bool.true_or,if_true];rw [Yu]
    |
     true=>
     obtain ⟨hd,hne⟩:=Jz hpl
     simp only [Zn,Zc,Z90]
     rw [Qnd hne λb=>z67.j22 b (rest,below),Qp7 hd (by omega)]
     rfl
   |
    some b=>
    have hab:=Qdw ho
    generalize (cutDot rest).1=a at *
    have hl:rest.length=a.length+(b.length+1):=by rw [hab];simp
    have t1:rest.take a.length=a:=by rw [hab];simp
    have t2:rest.drop (a.length+1)=b:=by
     rw [hab,<-Z92];simp
    have e1:(wr .i64 ((a.length:Int)+1))=((a.length+1:Nat):Int):=by rw [Qg (by omega) (by omega)];omega
    rw [if_neg (by simp),bif_t (by omega),if_pos (by omega)]
    simp only [e1,Zi,t1,t2]
    rw [if_pos (by omega),dec_plain a (by omega)]
    simp only [Zb]
    unfold Y5
    simp only [Option.isSome_some,Z68,Z40]
    cases hpl:plainB a with
    |false=>unfold z67.j14;simp only [Zo,Zd,Bool.true_or,if_true];rw [Yu]
    |
     true=>
     obtain ⟨hd,hne⟩:=Jz hpl
     simp only [Zn,Zc,Z90]
     rw [dec_plain b (by omega)]
     simp only [Zb]
     cases hpb:plainB b with
     |false=>unfold z67.j14;simp only [Zo,Zd,Bool.true_or,if_true];rw [Yu]
     |
      true=>
      obtain ⟨hdb,hneb⟩:=Jz hpb
      simp only [Zn,Zc,Z90]
      rw [Qnd hne λx=>z67.j14 x (rest,below) (a.length:Int),Qrr t1 t2 hd hdb (by omega)]
abbrev leap (y:Int):Prop:=y%4=0/\¬y%100=0\/y%400=0
abbrev goodY (y:Int):Prop:=1<=y/\y<=9999
def dDays (y m:Int):Int:=if ¬goodY y\/m<1\/12<m then 0 else if m=2 then (if leap y then 29 else 28) else if m=4\/m=6\/m=9\/m=11 then 30 else 31
abbrev right (y m d:Int):Prop:=1<=d/\d<=dDays y m
theorem Qa5 {a b:Int} (hb:0<b):Int.tmod a b=0↔a%b=0:=by
 rw [<-Int.dvd_iff_tmod_eq_zero,<-Int.dvd_iff_emod_eq_zero]
theorem date_good (y:Int):z25.F y=some (decide (goodY y)):=by
 unfold z25.F
 by_cases h:y>=1
 ·rw [bif_t h];congr 1;exact decide_eq_decide.2 (by omega)
 ·rw [Qc h];congr 1;symm;exact Zf (by omega)
theorem date_Leap (y:Int):z26.F y=some (decide (goodY y/\leap y)):=by
 unfold z26.F
 rw [date_good]
 simp only [Zb,Qa5 (show (0:Int)<4 by decide),Qa5 (show (0:Int)<100 by decide),Qa5 (show (0:Int)<400 by decide)]
 by_cases h:goodY y
 ·rw [bif_t h]
  by_cases h4:y%4=0
  ·rw [bif_t h4]
   by_cases h1:y%100=0
   ·rw [Zt h1];simp only [Zn,Zc];congr 1;exact decide_eq_decide.2 (by omega)
   ·rw [Zf h1];simp only [Zo,Zd];congr 1;symm;exact Zt (by omega)
  ·rw [Qc h4];congr 1;exact decide_eq_decide.2 (by omega)
 ·rw [Qc h];congr 1;symm;exact Zf (λhh=>h hh.1)
theorem date_Days (y m:Int):z27.F y m=some (dDays y m):=by
 unfold z27.F dDays
 rw [date_good]
 simp only [Zb]
 by_cases hy:goodY y
 ·rw [Zt hy]
  simp only [Zn,Zc]
  by_cases h1:m<1
  ·rw [bif_t h1,if_pos (by omega)]
  ·rw [Qc h1]
   by_cases h12:m>12
   ·rw [bif_t h12,if_pos (by omega)]
   ·rw [Qc h12,if_neg (by omega)]
    by_cases h2:m=2
    ·subst h2
     rw [bif_t rfl,if_pos rfl,date_Leap]
     simp only [Zb]
     by_cases hl:leap y
     ·rw [Zt ⟨hy,hl⟩,if_pos hl];rfl
     ·rw [Zf (λhh=>hl hh.2),if_neg hl];rfl
    ·rw [Qc h2,if_neg h2]
     have:m=1\/m=3\/m=4\/m=5\/m=6\/m=7\/m=8\/m=9\/m=10\/m=11\/m=12:=by omega
     rcases this with rfl|rfl|rfl|rfl|rfl|rfl|rfl|rfl|rfl|rfl|rfl<;>rfl
 ·rw [Zf hy,if_pos (.inl hy)];rfl
theorem Qoo (y:Int):z12.F y=some (decide (goodY y/\leap y)):=by
 unfold z12.F z12.j1
 simp only [Qa5 (show (0:Int)<4 by decide),Qa5 (show (0:Int)<100 by decide),Qa5 (show (0:Int)<400 by decide)]
 by_cases h1:y<1
 ·rw [bif_t h1];congr 1;symm;exact Zf (by omega)
 ·rw [Qc h1]
  by_cases h2:y>9999
  ·rw [bif_t h2];congr 1;symm;exact Zf (by omega)
  ·rw [Qc h2]
   by_cases h4:y%400=0
   ·rw [bif_t h4];congr 1;symm;exact Zt (by omega)
   ·rw [Qc h4]
    by_cases h3:y%4=0
    ·rw [bif_t h3];congr 1
     by_cases h5:y%100=0
     ·rw [Zt h5];symm;exact Zf (by omega)
     ·rw [Zf h5];symm;exact Zt (by omega)
    ·rw [Qc h3];congr 1;symm;exact Zf (by omega)
theorem Qe5 (y m:Int):z13.F y m=some (dDays y m):=by
 unfold z13.F z13.j1 dDays
 by_cases h0:y<1
 ·rw [bif_t h0,if_pos (by omega)]
 ·rw [Qc h0]
  by_cases h9:y>9999
  ·rw [bif_t h9,if_pos (by omega)]
  ·rw [Qc h9]
   by_cases h1:m<1
   ·rw [bif_t h1,if_pos (by omega)]
   ·rw [Qc h1]
    by_cases h12:m>12
    ·rw [bif_t h12,if_pos (by omega)]
    ·rw [Qc h12,if_neg (by omega)]
     by_cases h2:m=2
     ·rw [bif_t h2,if_pos h2,Qoo]
      simp only [Zb]
      by_cases hl:leap y
      ·rw [Zt ⟨by omega,hl⟩,if_pos hl];rfl
      ·rw [Zf (λhh=>hl hh.2),if_neg hl];rfl
     ·rw [Qc h2,if_neg h2]
      by_cases g4:m=4
      ·rw [bif_t g4,if_pos (.inl g4)]
      ·rw [Qc g4]
       by_cases g6:m=6
       ·rw [bif_t g6,if_pos (by omega)]
       ·rw [Qc g6]
        by_cases g9:m=9
        ·rw [bif_t g9,if_pos (by omega)]
        ·rw [Qc g9]
         by_cases g11:m=11
         ·rw [bif_t g11,if_pos (by omega)]
         ·rw [Qc g11,if_neg (by omega)]
theorem Ql1 (y m:Int):0<=dDays y m/\dDays y m<=31:=by
 unfold dDays;split
 ·omega
 ·split
  ·split<;>omega
  ·split<;>omega
theorem Qe0 {y m:Int} (hy:goodY y) (hm:1<=m/\m<=12):28<=dDays y m:=by
 unfold dDays;rw [if_neg (by omega)];split
 ·split<;>omega
 ·split<;>omega
theorem Yi {y m d:Int} (h:right y m d):goodY y/\1<=m/\m<=12/\1<=d/\d<=31:=by
 have h1:=h.2
 have h2:=Ql1 y m
 unfold dDays at h1
 split at h1
 ·have:=h.1;omega
 ·rename_i hn
  have:=h.1
  refine ⟨by omega,by omega,by omega,by omega,by omega⟩
theorem date_Check (y m d:Int):z28.F y m d=some (if right y m d then 0 else 11):=by
 unfold z28.F
 rw [date_Days]
 simp only [Zb]
 by_cases h:d<1
 ·rw [bif_t h,if_neg (by omega)]
 ·rw [Qc h]
  by_cases h':d>dDays y m
  ·rw [bif_t h',if_neg (by omega)]
  ·rw [Qc h',if_pos (by omega)]
def Qaa (y:Int):Int:=365*(y-1)+(y-1)/4-(y-1)/100+(y-1)/400
def cumD (y m:Int):Int:=(367*m-362)/12-(if m<=2 then 0 else if leap y then 1 else 2)
def num (y m d:Int):Int:=Qaa y+cumD y m+d
theorem Qqi (y:Int):cumD y 1=0:=rfl
theorem Qlg {y m:Int} (hy:goodY y) (hm:1<=m/\m<=12):cumD y (m+1)=cumD y m+dDays y m:=by
 unfold cumD dDays
 rw [if_neg (show ¬(¬goodY y\/m<1\/12<m) by omega)]
 have:m=1\/m=2\/m=3\/m=4\/m=5\/m=6\/m=7\/m=8\/m=9\/m=10\/m=11\/m=12:=by omega
 by_cases hl:leap y
 ·simp only [if_pos hl];rcases this with rfl|rfl|rfl|rfl|rfl|rfl|rfl|rfl|rfl|rfl|rfl|rfl<;>rfl
 ·simp only [if_neg hl];rcases this with rfl|rfl|rfl|rfl|rfl|rfl|rfl|rfl|rfl|rfl|rfl|rfl<;>rfl
theorem Qt8 (y:Int):Qaa (y+1)=Qaa y+cumD y 13:=by
 unfold Qaa cumD
 rw [if_neg (by decide)]
 by_cases hl:leap y
 ·rw [if_pos hl];omega
 ·rw [if_neg hl];omega
theorem Qoc {y y':Int} (h:y<=y'):Qaa y<=Qaa y':=by unfold Qaa;omega
theorem Qgx {y m m':Int} (h:m<=m') (h1:1<=m):cumD y m<=cumD y m':=by
 unfold cumD
 split<;>split<;>(try split)<;>omega
theorem Qm3 {y m d y' m' d':Int} (h:right y m d) (h':right y' m' d') (hl:y<y'\/y=y'/\(m<m'\/m=m'/\d<d')):num y m d<num y' m' d':=by
 have g:=Yi h
 have g':=Yi h'
 unfold num
 rcases hl with hl|⟨rfl,hl|⟨rfl,hl⟩⟩
 ·have s1:=Qlg g.1 ⟨g.2.1,g.2.2.1⟩
  have s2:=Qgx (y:=y) (m:=m+1) (m':=13) (by omega) (by omega)
  have s3:=Qt8 y
  have s4:=Qoc (y:=y+1) (y':=y') (by omega)
  have s5:=Qgx (y:=y') (m:=1) (m':=m') (by omega) (by omega)
  rw [Qqi] at s5
  omega
 ·have s1:=Qlg g.1 ⟨g.2.1,g.2.2.1⟩
  have s2:=Qgx (y:=y) (m:=m+1) (m':=m') (by omega) (by omega)
  omega
 ·omega
def dcmp (a b c a' b' c':Int):Int:=if a<a' then -1 else if a'<a then 1 else if b<b' then -1 else if b'<b then 1 else if c<c' then -1 else if c'<c then 1 else 0
theorem or3 (x y z:Int):z23.F [x,y,z]=some (if x≠0 then x else if y≠0 then y else z):=by
 have e0:wr .i64 (0+1)=1:=by decide
 have e1:wr .i64 (1+1)=2:=by decide
 have e2:wr .i64 (2+1)=3:=by decide
 have r3:Runs (λrec i=>z23.l0P 0 [x,y,z] 3 rec some i) 3 (.inl 3):=.done λrec=>by unfold z23.l0P;rw [Qc (by decide)]
 have r2:Runs (λrec i=>z23.l0P 0 [x,y,z] 3 rec some i) 2 (if z≠0 then .inr z else .inl 3):=by
  by_cases h:z=0
  ·rw [if_neg (by omega)]
   refine .step (λrec=>?_) r3
   unfold z23.l0P
   rw [bif_t (by decide),if_pos (by simp),show [x,y,z].getD (Int.toNat 2) 0=z from rfl,Zt h,e2];rfl
  ·rw [if_pos h]
   refine .done λrec=>?_
   unfold z23.l0P
   rw [bif_t (by decide),if_pos (by simp),show [x,y,z].getD (Int.toNat 2) 0=z from rfl,Zf h];rfl
 have r1:Runs (λrec i=>z23.l0P 0 [x,y,z] 3 rec some i) 1 (if y≠0 then .inr y else if z≠0 then .inr z else .inl 3):=by
  by_cases h:y=0
  ·rw [if_neg (by omega)]
   refine .step (λrec=>?_) r2
   unfold z23.l0P
   rw [bif_t (by decide),if_pos (by simp),show [x,y,z].getD (Int.toNat 1) 0=y from rfl,Zt h,e1];rfl
  ·rw [if_pos h]
   refine .done λrec=>?_
   unfold z23.l0P
   rw [bif_t (by decide),if_pos (by simp),show [x,y,z].getD (Int.toNat 1) 0=y from rfl,Zf h];rfl
 have r0:Runs (λrec i=>z23.l0P 0 [x,y,z] 3 rec some i) 0 (if x≠0 then .inr x else if y≠0 then .inr y else if z≠0 then .inr z else .inl 3):=by
  by_cases h:x=0
  ·rw [if_neg (by omega)]
   refine .step (λrec=>?_) r1
   unfold z23.l0P
   rw [bif_t (by decide),if_pos (by simp),show [x,y,z].getD (Int.toNat 0) 0=x from rfl,Zt h,e0];rfl
  ·rw [if_pos h]
   refine .done λrec=>?_
   unfold z23.l0P
   rw [bif_t (by decide),if_pos (by simp),show [x,y,z].getD (Int.toNat 0) 0=x from rfl,Zf h];rfl
 have e:z23.l0 0 [x,y,z] 3 0=_:=r0.lfp
 unfold z23.F
 show ((z23.l0 0 [x,y,z] 3 0).bind _)=_
 rw [e]
 simp only [Zb]
 by_cases hx:x=0<;>by_cases hy:y=0<;>by_cases hz:z=0<;>simp [hx,hy,hz]
theorem date_Cmp (a b c a' b' c':Int):z24.F a b c a' b' c'=some (dcmp a b c a' b' c'):=by
 unfold z24.F
 rw [Qb6]
 simp only [Zb]
 rw [Qb6]
 simp only [Zb]
 rw [Qb6]
 simp only [Zb]
 rw [or3]
 simp only [Zb]
 congr 1
 unfold cmpI dcmp
 rcases Int.lt_trichotomy a a' with h|h|h<;>rcases Int.lt_trichotomy b b' with g|g|g<;>rcases Int.lt_trichotomy c c' with k|k|k <;>
  (repeat' split)<;>omega
theorem Qe7 {y m d y' m' d':Int} (h:right y m d) (h':right y' m' d'):dcmp y m d y' m' d'=cmpI (num y m d) (num y' m' d'):=by
 by_cases e:y=y'/\m=m'/\d=d'
 ·obtain ⟨rfl,rfl,rfl⟩:=e
  unfold dcmp cmpI;simp
 ·by_cases hl:y<y'\/y=y'/\(m<m'\/m=m'/\d<d')
  ·have:=Qm3 h h' hl
   rw [show cmpI (num y m d) (num y' m' d') = -1 from by unfold cmpI;rw [if_pos this]]
   unfold dcmp
   (repeat' split)<;>omega
  ·have:=Qm3 h' h (by omega)
   rw [show cmpI (num y m d) (num y' m' d')=1 from by unfold cmpI;rw [if_neg (by omega),if_neg (by omega)]]
   unfold dcmp
   (repeat' split)<;>omega
theorem Qjv {s:J1} (h:Qw s):sz (tv 0 s).toNat<=s.length:=Q3 (by have:=Jg h;omega)
theorem Qnz (s:J1):sz (mDigits s).1<=4096:=by
 have h0:sz 0<=4096:=by rw [Qf2];omega
 unfold mDigits
 split
 ·exact h0
 ·split
  ·rename_i h1 h2
   unfold numOK at h2
   simp only [Z4] at h2
   have:=Qjv (Yv.1 h2.1.2)
   show sz (tv 0 s).toNat<=4096
   omega
  ·exact h0
theorem Qo5 (s:J1):sz (mWhole s).1.natAbs<=4096:=by
 have h:=Qnz (cutNeg s).1
 have h0:sz 0<=4096:=by rw [Qf2];omega
 unfold mWhole
 split
 ·exact h0
 ·split
  ·exact h0
  ·show sz (if _ then _ else _:Int).natAbs<=_
   split
   ·rw [Int.natAbs_neg];exact h
   ·exact h
def mMoney (s:J1):Int×Int:=
 if (mWhole s).2≠0 then (0,(mWhole s).2) else if (mWhole s).1<0\/10^30<(mWhole s).1 then (0,19) else ((mWhole s).1,0)
theorem terms_greatest:z83.F=some (lb (Int.natAbs (10^30)),neg (10^30)):=by
 unfold z83.F
 have h:=digits_Ten (t:=30) (by decide)
 rw [show ((30:Nat):Int)=30 from rfl] at h
 rw [h]
 simp only [Zb]
 rw [Yb (z:=10^30) (by decide) (.inr ⟨rfl,by decide⟩)]
 rfl
theorem terms_Money (s:J1):z84.F s=some (lb (mMoney s).1.natAbs,neg (mMoney s).1,(mMoney s).2):=by
 have hz:=Qo5 s
 unfold z84.F mMoney
 rw [whole_Parse]
 simp only [Zb]
 generalize mWhole s=w at *
 have hn:lb (Int.natAbs 0)=[]:=lb_zero
 by_cases h:w.2=0
 ·rw [Zt h,if_neg (by omega)]
  simp only [Zn,Zc]
  rw [Qav]
  simp only [Zb]
  by_cases h1:w.1<0
  ·rw [bif_t (Qdb.2 h1),if_pos (.inl h1),hn];rfl
  ·rw [Qc (λh=>h1 (Qdb.1 h)),terms_greatest]
   simp only [Zb]
   have l1:=Q6 w.1.natAbs
   have l2:(lb (Int.natAbs (10^30))).length<=31:=Z45 (Q6 _) (Q3 (by decide))
   have l3:sz w.1.natAbs<=4096:=hz
   rw [Ql6 (by omega)]
   simp only [Zb]
   by_cases h2:10^30<w.1
   ·rw [bif_t (Qcs.2 h2),if_pos (.inr h2),hn];rfl
   ·rw [Qc (λh=>h2 (Qcs.1 h)),if_neg (by omega)]
 ·rw [Zf h,if_pos h,hn];rfl
theorem Qjq (s:J1):(mDec s).2.1<=64/\sz (mDec s).1.natAbs<=4096:=by
 have h0:sz (Int.natAbs 0)<=4096:=by show sz 0<=4096;rw [Qf2];omega
 unfold mDec
 split
 ·exact ⟨Z64 _,h0⟩
 ·rename_i hl
  have hc:=Qjf s
  generalize (cutNeg s).1=t at *
  unfold Y5
  split
  ·exact ⟨Z64 _,h0⟩
  ·rename_i hp
   split
   ·exact ⟨Z64 _,h0⟩
   ·split
    ·exact ⟨Z64 _,h0⟩
    ·rename_i h64
     refine ⟨by show List.length _<=64;omega,?_⟩
     have hd:Qw ((cutDot t).1++(cutDot t).2.getD [])/\((cutDot t).1++(cutDot t).2.getD []).length<=4096:=by
      simp only [Z58,not_or,Z49,Bool.not_eq_false,Z4] at hp
      obtain ⟨⟨p1,p2⟩,p3⟩:=hp
      have q1:=(Jz (by simpa using p1)).1
      cases ho:(cutDot t).2 with
      |
       none=>
       have:=Qem ho
       simp only [Option.getD_none,Z35]
       exact ⟨q1,by rw [this];omega⟩
      |
       some b=>
       have:=Qdw ho
       rw [ho] at p2
       have q2:=(Jz (s:=b) (by simpa using p2)).1
       simp only [Z40]
       refine ⟨λx hx=>(Z22.1 hx).elim (q1 x) (q2 x),?_⟩
       have hlen:t.length=(cutDot t).1.length+(b.length+1):=by
        conv=>lhs;rw [this]
        simp
       rw [Z6];omega
     have h1:=Z45 (Qjv hd.1) hd.2
     have h2:=(Jg hd.1).1
     show sz (if _ then _ else _:Int).natAbs<=_
     have e:∀z:Int,0<=z->z.natAbs=z.toNat:=λz hz=>by omega
     split
     ·rw [Int.natAbs_neg,e _ h2];exact h1
     ·rw [e _ h2];exact h1
theorem dec_ten {t:Nat} (ht:t<=4096):z76.F (t:Int)=some (lb (10^t:Nat),false):=by
 unfold z76.F
 rw [digits_Ten ht]
 simp only [Zb]
 rw [whole_Of];rfl
theorem Qix {t:Nat} (ht:t<=4096):z76.F (t:Int)=some (lb ((10^t:Nat):Int).natAbs,neg ((10^t:Nat):Int)):=by
 rw [dec_ten ht]
 have:neg ((10^t:Nat):Int)=false:=Zf (Int.not_lt.2 (Int.natCast_nonneg _))
 rw [this];rfl
theorem Qcu (t:Nat):sz (10^t)<=t+1:=Q3 (by rw [Z55];have:0<10^t:=Nat.pow_pos (by decide);omega)
theorem Qir {c:Int} {s t:Nat} (h:s<=t) (ht:t<=4096) (hc:sz c.natAbs<=100000000):z77.F (lb c.natAbs) (neg c) (s:Int) (t:Int)=some (lb (c*(10^(t-s):Nat)).natAbs,neg (c*(10^(t-s):Nat))):=by
 have l1:=Q6 c.natAbs
 have l2:=Q6 ((10^(t-s):Nat):Int).natAbs
 have l3:=Qcu (t-s)
 have l4:sz ((10^(t-s):Nat):Int).natAbs=sz (10^(t-s)):=rfl
 unfold z77.F
 rw [Qg (by omega) (by omega),show (t:Int)-s=((t-s:Nat):Int) by omega,Qix (by omega)]
 simp only [Zb]
 rw [Qgl (by omega)]
 rfl
theorem Qwa {c c':Int} {s s':Nat} (hs:s<=2000) (hs':s'<=2000) (hc:sz c.natAbs<=100000000) (hc':sz c'.natAbs<=100000000) :
  z78.F (lb c.natAbs) (neg c) (s:Int) (lb c'.natAbs) (neg c') (s':Int)=some (cmpI (c*(10^(max s s'-s):Nat)) (c'*(10^(max s s'-s'):Nat))):=by
 have e:(if (s':Int)>(s:Int) then (s':Int) else (s:Int))=((max s s':Nat):Int):=by split<;>omega
 have m1:=Qaz c.natAbs (10^(max s s'-s))
 have m2:=Qaz c'.natAbs (10^(max s s'-s'))
 have t1:=Qcu (max s s'-s)
 have t2:=Qcu (max s s'-s')
 have l1:=Q6 (c*(10^(max s s'-s):Nat)).natAbs
 have l2:=Q6 (c'*(10^(max s s'-s'):Nat)).natAbs
 have e1:(c*(10^(max s s'-s):Nat)).natAbs=c.natAbs*10^(max s s'-s):=by rw [Int.natAbs_mul];rfl
 have e2:(c'*(10^(max s s'-s'):Nat)).natAbs=c'.natAbs*10^(max s s'-s'):=by rw [Int.natAbs_mul];rfl
 have hc1:sz c.natAbs<=100000000:=hc
 have hc2:sz c'.natAbs<=100000000:=hc'
 rw [<-e1] at m1
 rw [<-e2] at m2
 unfold z78.F
 rw [e,Qir (by omega) (by omega) hc]
 simp only [Zb]
 rw [Qir (by omega) (by omega) hc']
 simp only [Zb]
 rw [Ql6 (by omega)]
 rfl
theorem Qnt (n:Int) {d:Nat} (hd:0<d):(mkRat n d).num.natAbs<=n.natAbs:=by
 rw [Rat.num_mkRat,if_neg (by omega),Nat.gcd_comm]
 have hg:0<Nat.gcd n.natAbs d:=Nat.gcd_pos_of_pos_right _ hd
 rw [(Qk6 (Nat.gcd_dvd_left n.natAbs d) hg).1]
 exact Nat.div_le_self _ _
theorem Qnp (n:Int) {d:Nat} (hd:0<d):(mkRat n d).den<=d:=by
 rw [Rat.den_mkRat,if_neg (by omega)]
 exact Nat.div_le_self _ _
theorem Qt3 {M:Nat} (hD:Qbm M) {c:Int} {s:Nat} (hs:s<=4096) (hc:c.natAbs<=M) (hM:10^s<=M):z80.F (lb c.natAbs) (neg c) (s:Int)=some (fr (mkRat c (10^s))):=by
 have hp:0<10^s:=Nat.pow_pos (by decide)
 have l:=Qcu s
 unfold z80.F
 rw [Qix hs]
 simp only [Zb]
 rw [frac_Of (num:=c) (den:=((10^s:Nat):Int)) hD (by exact_mod_cast (Nat.ne_of_gt hp)) hc (by show 10^s<=M;exact hM) (by show sz (10^s)<=_;omega),Rat.divInt_ofNat]
 rfl
def Jb (s:J1):Rat×Int:=
 if (mDec s).2.2≠0 then (0,(mDec s).2.2)
 else if (mDec s).1<0\/1000*(10^(mDec s).2.1:Nat)<(mDec s).1\/12<(mDec s).2.1 then (0,18)
 else (mkRat (mDec s).1 (10^(mDec s).2.1)/100,0)
theorem Qtu:fr 0=([],false,[]):=by
 show (lb 0,neg 0,lb 0)=_
 rw [lb_zero];rfl
theorem Qdz (e:Int):some (([]:J0),false,([]:J0),e)=some ((fr (0:Rat)).1,(fr (0:Rat)).2.1,(fr (0:Rat)).2.2,e):=by
 rw [Qtu]
theorem Qov:fr 100=(lb (Int.natAbs 100),neg 100,[]):=by
 show (lb 100,neg 100,lb 0)=_
 rw [lb_zero];rfl
theorem Qiv:Qbm 1000000000000000000:=λx y hx hy h0=>Qt0 (by omega) h0
theorem terms_Rate (s:J1):z81.F s=some ((fr (Jb s).1).1,(fr (Jb s).1).2.1,(fr (Jb s).1).2.2,(Jb s).2):=by
 obtain ⟨hb1,hb2⟩:=Qjq s
 unfold z81.F Jb
 rw [dec_Parse]
 simp only [Zb,decR]
 generalize mDec s=d at *
 obtain ⟨c,sc,e⟩:=d
 simp only at *
 have hcz:sz c.natAbs<=4096:=hb2
 by_cases h:e=0
 ·rw [Zt h,if_neg (by omega)]
  simp only [Zn,Zc]
  rw [whole_From (by omega)]
  simp only [Zb]
  have ho:z69.F (lb (Int.natAbs 1000)) (neg 1000) 0=some (lb (Int.natAbs 1000),neg 1000,0,0):=rfl
  rw [ho]
  simp only [Zb]
  unfold z70.F z79.F
  simp only [Zb]
  rw [Qav]
  simp only [Zb]
  by_cases h1:c<0
  ·rw [bif_t (Qdb.2 h1),if_pos (.inl h1)];exact Qdz 18
  ·rw [Qc (λh=>h1 (Qdb.1 h))]
   have hk:sz (Int.natAbs 1000)<=4:=Q3 (by decide)
   have hcmp:=Qwa (c:=c) (c':=1000) (s:=sc) (s':=0) (by omega) (by omega) (by omega) (by omega)
   rw [show ((0:Nat):Int)=0 from rfl] at hcmp
   rw [hcmp]
   simp only [Zb,Nat.max_zero,Nat.sub_self,Nat.pow_zero,Nat.sub_zero,Int.natCast_one,Int.mul_one]
   by_cases h2:1000*((10^sc:Nat):Int)<c
   ·rw [bif_t (Qcs.2 h2),if_pos (.inr (.inl h2))];exact Qdz 18
   ·rw [Qc (λh=>h2 (Qcs.1 h))]
    by_cases h3:12<sc
    ·rw [bif_t (by omega),if_pos (.inr (.inr h3))];exact Qdz 18
    ·rw [Qc (by omega),if_neg (by omega)]
     have hp12:10^sc<=10^12:=Z70 (by decide) (by omega)
     have hp0:0<10^sc:=Nat.pow_pos (by decide)
     have n1:=Qnt c hp0
     have n2:=Qnp c hp0
     have hd0:=(mkRat c (10^sc)).den_pos
     unfold z81.j8
     rw [Qt3 Qiv (by omega) (by omega) (by omega)]
     simp only [Zb]
     rw [whole_From (by omega)]
     simp only [Zb]
     have hf:z35.F (lb (Int.natAbs 100)) (neg 100)=some (fr 100):=by rw [Qov];rfl
     rw [hf]
     simp only [Zb]
     generalize mkRat c (10^sc)=q at *
     have hq:=Quc Qiv (q:=q) (r:=100) (by decide)
      (by rw [show (100:Rat).den=1 from rfl];simp;omega)
      (by rw [show (100:Rat).num=100 from rfl,Int.natAbs_mul];show q.den*100<=_;omega)
      (by
        rw [show (100:Rat).den=1 from rfl]
        have a1:sz q.num.natAbs<=20:=Q3 (by omega)
        have a2:sz 1<=1:=Q3 (by decide)
        omega)
      (by
        rw [show (100:Rat).num=100 from rfl]
        have a1:sz q.den<=20:=Q3 (by omega)
        have a2:sz (Int.natAbs 100)<=3:=Q3 (by decide)
        omega)
     rw [hq]
     rfl
 ·rw [Zf h,if_pos h];exact Qdz e
theorem Qgf {a b:Int} (hb:0<b):(Int.tmod a b<0->Int.tmod a b+b=a%b)/\(¬Int.tmod a b<0->Int.tmod a b=a%b)/\-b<Int.tmod a b/\Int.tmod a b<b:=by
 have h1:=Int.emod_nonneg a (show b≠0 by omega)
 have h2:=Int.emod_lt_of_pos a hb
 have h3:=Int.tmod_eq_emod (a:=a) (b:=b)
 by_cases h:0<=a\/b∣a
 ·rw [if_pos h] at h3;omega
 ·rw [if_neg h] at h3
  have:a%b≠0:=λe=>h (.inr (Int.dvd_of_emod_eq_zero e))
  omega
theorem Qo9 {a b c n:Int} (hn:1<=n/\n<=9999):∃y m d,z19.F a b c n=some (y,m,d)/\right y m d/\y<=n:=by
 have f1:=Qgf (a:=a) (b:=n) (by omega)
 have f2:=Qgf (a:=b) (b:=12) (by omega)
 have m1:=Int.emod_nonneg a (show n≠0 by omega)
 have m2:=Int.emod_lt_of_pos a (show 0<n by omega)
 have hd:=Qe0 (y:=a%n+1) (m:=b%12+1) (by omega) (by omega)
 have hd':=Ql1 (a%n+1) (b%12+1)
 have f3:=Qgf (a:=c) (b:=dDays (a%n+1) (b%12+1)) (by omega)
 have m5:=Int.emod_nonneg c (show dDays (a%n+1) (b%12+1)≠0 by omega)
 have m6:=Int.emod_lt_of_pos c (show 0<dDays (a%n+1) (b%12+1) by omega)
 refine ⟨a%n+1,b%12+1,c%dDays (a%n+1) (b%12+1)+1,?_,⟨by omega,by omega⟩,by omega⟩
 have hj8:∀j,j=b%12->Int.tmod a n=a%n->z19.j8 a n j c=some (a%n+1,b%12+1,c%dDays (a%n+1) (b%12+1)+1):=λj hj ht=>by
  subst hj
  unfold z19.j8
  rw [ht,Qg (n:=a%n+1) (by omega) (by omega),Qg (n:=b%12+1) (by omega) (by omega),Qe5]
  simp only [Zb]
  rw [if_neg (by omega)]
  generalize dDays (a%n+1) (b%12+1)=k at *
  by_cases h:Int.tmod c k<0
  ·rw [bif_t h,Qg (n:=Int.tmod c k+k) (by omega) (by omega),f3.1 h,Qg (by omega) (by omega)]
  ·rw [Qc h,f3.2.1 h,Qg (by omega) (by omega)]
 have hj5:∀j,j=b%12->Int.tmod a n<0->z19.j5 a n j c=some (a%n+1,b%12+1,c%dDays (a%n+1) (b%12+1)+1):=λj hj ht=>by
  subst hj
  unfold z19.j5 z19.j7
  rw [Qg (n:=Int.tmod a n+n) (by omega) (by omega),f1.1 ht,Qg (n:=a%n+1) (by omega) (by omega),Qg (n:=b%12+1) (by omega) (by omega),Qe5]
  simp only [Zb]
  rw [if_neg (by omega)]
  generalize dDays (a%n+1) (b%12+1)=k at *
  by_cases h:Int.tmod c k<0
  ·rw [bif_t h,Qg (n:=Int.tmod c k+k) (by omega) (by omega),f3.1 h,Qg (by omega) (by omega)]
  ·rw [Qc h,f3.2.1 h,Qg (by omega) (by omega)]
 unfold z19.F
 rw [if_neg (by omega)]
 by_cases h1:Int.tmod a n<0
 ·rw [bif_t h1]
  by_cases h2:Int.tmod b 12<0
  ·rw [bif_t h2,Qg (by omega) (by omega),f2.1 h2];exact hj5 _ rfl h1
  ·rw [Qc h2,f2.2.1 h2];exact hj5 _ rfl h1
 ·rw [Qc h1]
  by_cases h2:Int.tmod b 12<0
  ·rw [bif_t h2,Qg (by omega) (by omega),f2.1 h2];exact hj8 _ rfl (f1.2.1 h1)
  ·rw [Qc h2,f2.2.1 h2];exact hj8 _ rfl (f1.2.1 h1)
theorem Qke (n:Nat):numOK (txt n)=true:=by
 unfold numOK
 rw [Zf (Qtl n),Yv.2 (Qbb n)]
 by_cases h:n=0
 ·subst h;rfl
 ·obtain ⟨b,s,e,hb⟩:=Qk9 h
  rw [e]
  have:((b::s).getD 0 0).toNat=b.toNat:=rfl
  rw [this,Zf hb];simp
theorem Qhq {s:J1} (h:Qw s):cutNeg s=(s,false):=by
 unfold cutNeg
 cases s with
 |nil=>rfl
 |
  cons b t=>
  have hb:=h b (by simp)
  unfold digit at hb
  simp only
  rw [if_neg]
  rintro rfl
  simp at hb
theorem Qji {n:Nat} (h:(txt n).length<=4096):mWhole (txt n)=((n:Int),0):=by
 have hd:mDigits (txt n)=(n,0):=by
  unfold mDigits
  rw [if_neg (by omega),if_pos (Qke n),Qe1,Zi]
 unfold mWhole
 rw [Qhq (Qbb n)]
 simp only [hd]
 rw [if_neg (by simp),if_neg (by simp)]
 rfl
theorem Qnm {n:Nat} (h:n<=10^30):mMoney (txt n)=((n:Int),0):=by
 unfold mMoney
 have hl:(txt n).length<=31:=J5 (by omega) (by decide)
 rw [Qji (by omega)]
 have e:(10:Int)^30=((10^30:Nat):Int):=rfl
 rw [if_neg (by simp),if_neg (by rw [e];omega)]
def padded (n k:Nat):J1:=List.replicate (k+1-(txt n).length) 48++txt n
theorem Qbs (n k:Nat):k<(padded n k).length/\(padded n k).length<=k+1+(txt n).length:=by unfold padded;rw [Z6,Z82];omega
theorem Qkb (n k:Nat):Qw (padded n k):=λb hb=>by
 rcases Z22.1 hb with h|h
 ·rw [List.eq_of_mem_replicate h];unfold digit;decide
 ·exact Qbb n b h
theorem Qp5 (f:Nat) (s:J1):tv 0 (List.replicate f 48++s)=tv 0 s:=by
 induction f with
 |zero=>rfl
 |succ f ih=>rw [List.replicate_succ,Z86];exact ih
theorem Qqo (n k:Nat):tv 0 (padded n k)=n:=by unfold padded;rw [Qp5,Qe1]
def decTxt (n k:Nat):J1:=(padded n k).take ((padded n k).length-k)++46::(padded n k).drop ((padded n k).length-k)
theorem Qlq:∀{a:J1} (b:J1),Qw a->cutDot (a++46::b)=(a,some b)
 |[],b,_=>rfl
 |
  x::a,b,h=>by
  have hx:=h x (by simp)
  have ih:=Qlq (a:=a) b λy hy=>h y (by simp [hy])
  show cutDot (x::(a++46::b))=_
  unfold cutDot
  rw [if_neg (by rintro rfl;unfold digit at hx;simp at hx),ih]
theorem Qpm {n k:Nat} (hk:0<k/\k<=64) (hl:(txt n).length<=1000):mDec (decTxt n k)=((n:Int),k,0):=by
 have pl:=Qbs n k
 have pd:=Qkb n k
 have hda:Qw ((padded n k).take ((padded n k).length-k)):=λb hb=>pd b (Z42 hb)
 have hdb:Qw ((padded n k).drop ((padded n k).length-k)):=λb hb=>pd b (Z57 hb)
 have la:((padded n k).take ((padded n k).length-k)).length=(padded n k).length-k:=by rw [Z10];omega
 have lb':((padded n k).drop ((padded n k).length-k)).length=k:=by rw [Z17];omega
 have hcat:(padded n k).take ((padded n k).length-k)++(padded n k).drop ((padded n k).length-k)=padded n k:=List.take_append_drop _ _
 have hlead:(decide (1<((padded n k).take ((padded n k).length-k)).length)&&decide ((((padded n k).take ((padded n k).length-k)).getD 0 0).toNat=48))=false:=by
  by_cases h1:1<((padded n k).take ((padded n k).length-k)).length
  ·rw [la] at h1
   have h2:k+1<(padded n k).length:=by omega
   have h0:k+1-(txt n).length=0:=by
    unfold padded at h2
    rw [Z6,Z82] at h2;omega
   have e:padded n k=txt n:=by unfold padded;rw [h0];rfl
   have hn:n≠0:=by
    rintro rfl
    rw [e] at h2
    have:(txt 0).length=1:=rfl
    omega
   obtain ⟨b,s,ht,hb⟩:=Qk9 hn
   rw [e,ht]
   have:(((b::s).take ((b::s).length-k)).getD 0 0).toNat=b.toNat:=by
    rw [e,ht] at h2
    have:(b::s).length-k=((b::s).length-k-1)+1:=by omega
    rw [this,List.take_succ_cons];rfl
   rw [this,Zf hb,Bool.and_false]
  ·rw [Zf h1,Z60]
 have hlen:(decTxt n k).length=(padded n k).length+1:=by
  unfold decTxt;rw [Z6,Z8,la,lb'];omega
 have hneg:cutNeg (decTxt n k)=(decTxt n k,false):=by
  have hne:(padded n k).take ((padded n k).length-k)≠[]:=λh=>by rw [h] at la;simp at la;omega
  unfold decTxt
  cases hc:(padded n k).take ((padded n k).length-k) with
  |nil=>exact absurd hc hne
  |
   cons b t=>
   have hb:=hda b (by rw [hc];simp)
   unfold digit at hb
   unfold cutNeg
   simp only [Z86]
   rw [if_neg (by rintro rfl;simp at hb)]
 have hpa:plainB ((padded n k).take ((padded n k).length-k))=true:=by
  unfold plainB;rw [Yv.2 hda,Zf (λh=>by rw [h] at la;simp at la;omega)];rfl
 have hpb:plainB ((padded n k).drop ((padded n k).length-k))=true:=by
  unfold plainB;rw [Yv.2 hdb,Zf (λh=>by rw [h] at lb';simp at lb';omega)];rfl
 unfold mDec
 rw [if_neg (by omega),hneg]
 have hcut:cutDot (decTxt n k)=((padded n k).take ((padded n k).length-k),some ((padded n k).drop ((padded n k).length-k))):=Qlq _ hda
 rw [hcut]
 unfold Y5
 simp only [Option.isSome_some,Z68,Z40,hpa,hpb,hlead,Zn,Bool.or_false,Z60]
 rw [if_neg (by simp),if_neg (by simp),if_neg (by omega),hcat,Qqo,lb',if_neg (by simp)]
abbrev D3:=Int×Int×Int
theorem Qk7 {s:J0} {i:Nat} {x:Int}:(s.set i x).drop (i+1)=s.drop (i+1):=by
 apply List.ext_getElem?
 intro j
 rw [List.getElem?_drop,List.getElem?_drop,List.getElem?_set_ne (by omega)]
theorem Qnn {s:J1} (hs:Qw s) {b:UInt8} {t:J1} (e:s=b::t) (hb:b.toNat≠48):0<tv 0 s:=by
 subst e
 have h1:=hs b (by simp)
 unfold digit at h1
 have h2:=Jg (s:=t) λx hx=>hs x (by simp [hx])
 have e:tv 0 (b::t)=((b.toNat:Int)-48)*(10^t.length:Nat)+tv 0 t:=by
  show tv (10*0+(b.toNat:Int)-48) t=_
  rw [Qcj];simp
 have h3:0<10^t.length:=Nat.pow_pos (by decide)
 have h4:1*((10^t.length:Nat):Int)<=((b.toNat:Int)-48)*(10^t.length:Nat):=Int.mul_le_mul_of_nonneg_right (by omega) (by omega)
 rw [e];omega
theorem Qdl {s:J1} (h:numOK s=true):Qw s/\s≠[]/\(1<s.length->(s.getD 0 0).toNat≠48):=by
 unfold numOK at h
 simp only [Z4,Z49,decide_eq_false_iff_not,Bool.and_eq_false_iff] at h
 exact ⟨Yv.1 h.1.2,h.1.1,λh1 h2=>by rcases h.2 with h3|h3<;>omega⟩
theorem Qqx {s:J1} (h:numOK s=true):(tv 0 s).toNat=0↔s=[48]:=by
 obtain ⟨h1,h2,h3⟩:=Qdl h
 constructor
 ·intro h0
  cases s with
  |nil=>exact absurd rfl h2
  |
   cons b t=>
   by_cases hb:b.toNat=48
   ·have:t=[]:=by
     cases t with
     |nil=>rfl
     |cons c t'=>exact absurd hb (h3 (by simp))
    subst this
    rw [show b=48 from UInt8.toNat_inj.1 hb]
   ·have:=Qnn h1 rfl hb;omega
 ·rintro rfl;rfl
end Go.Proofs.YtihfdjkjpncjfaaGreatDoor.A
end
