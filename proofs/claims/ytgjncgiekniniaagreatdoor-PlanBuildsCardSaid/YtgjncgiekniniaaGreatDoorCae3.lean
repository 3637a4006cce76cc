/- Part 3 of the proof of PlanBuilds.card. -/
import Derived.Test.YtgjncgiekniniaaGreatDoorCae2
import Derived.Test.YtgjncgiekniniaaGreatDoorRows
import Derived.WalkKit
import Derived.ProofKit
import Derived.OpenShut
import Derived.Carry
import Derived.ChangeSame
import Derived.Deep.Slices
import Derived.Test.YtgjncgiekniniaaGreatDoorCards
import Derived.Test.YtgjncgiekniniaaGreatDoorTie
import Derived.KernelRfl
import Derived.JoinedCond
set_option linter.unusedVariables false
set_option linter.unusedSimpArgs false
section
set_option maxRecDepth 100000
namespace Go.Proofs.YtgjncgiekniniaaGreatDoor.A
open Go
noncomputable section
def z5.l2sh:Env×Store:=((.ints false .i64 []) :: .undef::(.str ([]:J1))::(.str ([]:J1))::(.int .i64 0)::(.int .i64 0)::(.int .i64 0)::un 37 [],[])
def z5.l2out0 (a:J0) (b c:J1) (d e g:Int) (o:J1×Int×Int):X×Env×Store:=((.exit 2),Qb z5.l2sh [.li a,.s b,.s o.1,.i d,.i o.2.1,.i o.2.2])
def z5.l2pack:List Leaf->Option LPack
 |[.li a,.s b,.s c,.i d,.i e,.i g]=>some (.one _ (z5.l2 (c,e,g)) (z5.l2out0 a b c d e g))
 |_=>none
def z5.l0sh:Env×Store:=((.ints false .i64 []) :: .undef::(.str ([]:J1))::(.str ([]:J1))::(.int .i64 0)::un 39 [],[])
def z5.l0out0 (a:J0) (b c:J1) (d:Int) (o:J1×Int):X×Env×Store:=((.exit 0),Qb z5.l0sh [.li a,.s b,.s o.1,.i o.2])
def z5.l0pack:List Leaf->Option LPack
 |[.li a,.s b,.s c,.i d]=>some (.one _ (z5.l0 a (c,d)) (z5.l0out0 a b c d))
 |_=>none
def z5.l4sh:Env×Store:=(.undef :: .undef::(.str ([]:J1))::(.str ([]:J1))::un 3 ((.int .i64 0)::un 36 []),[])
def z5.l4out0 (a b:J1) (c o:Int):X×Env×Store:=((.exit 4),Qb z5.l4sh [.s a,.s b,.i o])
def z5.l4pack:List Leaf->Option LPack
 |[.s a,.s b,.i c]=>some (.one _ (z5.l4 b c) (z5.l4out0 a b c))
 |_=>none
def z5.C:Ctx where
 T:=tab
 keep:=λf i=>match f,i with|102,2=>([0,2,3,4,5,6],[],[])|102,0=>([0,2,3,4],[],[])|102,4=>([2,3,7],[],[])|_,_=>([],[],[])
 keepE:=λf i=>match f,i with|102,2=>([0,2,3,4,5,6],[],[])|102,0=>([0,2,3,4],[],[])|102,4=>([2,3,7],[],[])|_,_=>([],[],[])
 keepR:=λf i=>match f,i with|102,2=>([2],[],[2])|102,0=>([2],[],[2])|102,4=>([2],[],[2])|_,_=>([],[],[])
 L:=λf i b st=>match f,i,b with|102,2,0=>(matchSt z5.l2sh st).bind z5.l2pack|102,0,0=>(matchSt z5.l0sh st).bind z5.l0pack|102,4,0=>(matchSt z5.l4sh st).bind z5.l4pack|_,_,_=>none
theorem z5.l2_link (R:Type) (k:Env×Store->Option R) (d:X×Env×Store->Option R) (a:J0) (b c:J1) (e g h:Int) :
  z5.C.loopP 102 2 (Qg 2 (ifun Tryz.f102).body) 0 k d (Qb z5.l2sh [.li a,.s b,.s c,.i e,.i g,.i h]) =
  z5.l2P (λx'=>k (Qb z5.l2sh [.li a,.s b,.s x'.1,.i e,.i x'.2.1,.i x'.2.2])) (λo=>d (z5.l2out0 a b c e g h o)) (c,g,h):=by kernel_rfl
theorem z5.l0_link (R:Type) (k:Env×Store->Option R) (d:X×Env×Store->Option R) (a:J0) (b c:J1) (e:Int) :
  z5.C.loopP 102 0 (Qg 0 (ifun Tryz.f102).body) 0 k d (Qb z5.l0sh [.li a,.s b,.s c,.i e]) =
  z5.l0P a (λx'=>k (Qb z5.l0sh [.li a,.s b,.s x'.1,.i x'.2])) (λo=>d (z5.l0out0 a b c e o)) (c,e):=by kernel_rfl
theorem z5.l4_link (R:Type) (k:Env×Store->Option R) (d:X×Env×Store->Option R) (a b:J1) (c:Int) :
  z5.C.loopP 102 4 (Qg 4 (ifun Tryz.f102).body) 0 k d (Qb z5.l4sh [.s a,.s b,.i c]) =
  z5.l4P b (λx'=>k (Qb z5.l4sh [.s a,.s b,.i x'])) (λo=>d (z5.l4out0 a b c o)) c:=by kernel_rfl
theorem z5.link (a0:J0):z5.C.evTop 102 (ifun Tryz.f102) [(.ints false .i64 a0)] z17.dec=z5.F a0:=by kernel_rfl
def z8.l0sh:Env×Store:=((.int .i64 0) :: .undef::(.sref 0 0)::(.sref 1 0)::un 10 [],[(.arr 0 true 3 (.ints false .i64 [])),(.arr 0 true 3 (.ints false .i64 []))])
def z8.l0out0 (a:Int) (b c:J0) (o:Int×J0):X×Env×Store:=((.exit 0),Qb z8.l0sh [.i o.1,.li b,.li o.2])
def z8.l0pack:List Leaf->Option LPack
 |[.i a,.li b,.li c]=>some (.one _ (z8.l0 (a,c)) (z8.l0out0 a b c))
 |_=>none
def z8.C:Ctx where
 T:=tab
 keep:=λf i=>match f,i with|152,0=>([0,2,3],[0,1],[])|_,_=>([],[],[])
 keepE:=λf i=>match f,i with|152,0=>([0,2,3],[0,1],[])|_,_=>([],[],[])
 keepR:=λf i=>match f,i with|152,0=>([2],[0,1],[2])|_,_=>([],[],[])
 L:=λf i b st=>match f,i,b with|152,0,0=>(matchSt z8.l0sh st).bind z8.l0pack|_,_,_=>none
theorem z8.l0_link (R:Type) (k:Env×Store->Option R) (d:X×Env×Store->Option R) (a:Int) (b c:J0) :
  z8.C.loopP 152 0 (Qg 0 (ifun Tryz.f152).body) 2 k d (Qb z8.l0sh [.i a,.li b,.li c]) =
  z8.l0P (λx'=>k (Qb z8.l0sh [.i x'.1,.li b,.li x'.2])) (λo=>d (z8.l0out0 a b c o)) (a,c):=by kernel_rfl
theorem z8.link (a0:Int):z8.C.evTop 152 (ifun Tryz.f152) [(.int .i64 a0)] z15.dec=z8.F a0:=by kernel_rfl
def z11.C:Ctx where
 T:=tab
 call:=λg args=>match g with|219=>z10.pack args|_=>none
theorem z11.link (a0 a1:Int):z11.C.evTop 153 (ifun Tryz.f153) [(.int .i64 a0),(.int .i64 a1)] z28.dec=z11.F a0 a1:=by kernel_rfl
def z20.C:Ctx where
 T:=tab
 call:=λg args=>match g with|104=>z19.pack args|_=>none
theorem z20.link (a0:J0) (a1:Bool):z20.C.evTop 28 (ifun Tryz.f28) [(.agg [(.ints false .u64 a0),(.bool a1)])] z28.dec=z20.F a0 a1:=by kernel_rfl
def z21.C:Ctx where
 T:=tab
 draws:=λf i=>match f,i with|91,1=>([(6,[(2,0)],0),(7,[(1,0)],0),(8,[(6,2)],2),(9,[(2,0),(7,3)],6),(10,[(8,4),(7,3)],14),(11,[(9,5),(7,3)],30),(12,[(7,3),(10,6)],62),(13,[(5,1),(11,7)],127),(0,[(4,0),(12,8)],255)],8160)|_,_=>([],0)
 call:=λg args=>match g with|104=>z19.pack args|_=>none
theorem z21.link (a0:J0) (a1:Bool):z21.C.evTop 91 (ifun Tryz.f91) [(.agg [(.ints false .u64 a0)]),(.bool a1)] z33.dec=z21.F a0 a1:=by kernel_rfl
def z26.C:Ctx where
 T:=tab
 call:=λg args=>match g with|212=>z25.pack args|_=>none
theorem z26.link (a0 a1:Int):z26.C.evTop 146 (ifun Tryz.f146) [(.int .i64 a0),(.int .i64 a1)] z28.dec=z26.F a0 a1:=by kernel_rfl
def z30.l0sh:Env×Store:=(.undef :: .undef::(.ptr 0 0)::(.ptr 1 0)::(.ptr 2 0)::(.bool false)::(.sref 3 0)::(.int .u64 0)::un 11 ((.int .i64 0)::(.int .i64 0)::un 21 []),[(.cells 37 [(.ints false .u64 [])]),(.cells 37 [(.ints false .u64 [])]),(.cells 37 [(.ints false .u64 [])]),(.arr 0 false 79 (.ints false .u64 []))])
def z30.l0out0 (a:Bool) (c d e:Int) (g h j k:J0) (o:Int×Int×J0):X×Env×Store:=((.exit 0),Qb z30.l0sh [.b a,.i o.1,.i d,.i o.2.1,.li g,.li h,.li j,.li o.2.2])
def z30.l0pack:List Leaf->Option LPack
 |[.b a,.i c,.i d,.i e,.li g,.li h,.li j,.li k]=>some (.one _ (z30.l0 d g h (c,e,k)) (z30.l0out0 a c d e g h j k))
 |_=>none
def z30.C:Ctx where
 T:=tab
 draws:=λf i=>match f,i with|100,8=>([(25,[(6,0)],0),(26,[(8,0)],0),(27,[(2,0)],0),(28,[(26,3)],4),(29,[(8,0)],0),(30,[(27,4),(28,5)],28),(31,[(29,6)],60),(32,[(3,0)],0),(33,[(8,0)],0),(34,[(31,8),(32,9)],384),(35,[(7,18)],0),(36,[(30,7),(33,10),(34,11)],2044),(24,[(35,12)],4092),(37,[(23,13)],8188),(38,[(23,13)],8188),(39,[(24,1),(25,2)],16383),(0,[(38,16),(36,14)],49151),(8,[(37,15)],131071)],549747425408)|_,_=>([],0)
 call:=λg args=>match g with|186=>z29.pack args|184=>z22.pack args|187=>z1.pack args|185=>z23.pack args|_=>none
 keep:=λf i=>match f,i with|100,0=>([2,3,4,5,6,7,19,20],[0,1,2,3],[])|_,_=>([],[],[])
 keepE:=λf i=>match f,i with|100,0=>([2,3,4,5,6,7,19,20],[0,1,2,3],[])|_,_=>([],[],[])
 keepR:=λf i=>match f,i with|100,0=>([4,5],[0,1,2,3],[4,5])|_,_=>([],[],[])
 L:=λf i b st=>match f,i,b with|100,0,0=>(matchSt z30.l0sh st).bind z30.l0pack|_,_,_=>none
def z30.dec:V->Option (J0×Bool)
 |(.tup [(.agg [(.ints _ .u64 x0)]),(.bool x1)])=>some (x0,x1)
 |_=>none
theorem z30.l0_link (R:Type) (k:Env×Store->Option R) (d:X×Env×Store->Option R) (a:Bool) (c e g:Int) (h j m n:J0) :
  z30.C.loopP 100 0 (Qg 0 (ifun Tryz.f100).body) 4 k d (Qb z30.l0sh [.b a,.i c,.i e,.i g,.li h,.li j,.li m,.li n]) =
  z30.l0P e h j (λx'=>k (Qb z30.l0sh [.b a,.i x'.1,.i e,.i x'.2.1,.li h,.li j,.li m,.li x'.2.2])) (λo=>d (z30.l0out0 a c e g h j m n o)) (c,g,n):=by kernel_rfl
theorem z30.link (a0 a1:J0):z30.C.evTop 100 (ifun Tryz.f100) [(.agg [(.ints false .u64 a0)]),(.agg [(.ints false .u64 a1)])] z30.dec=z30.F a0 a1:=by kernel_rfl
def z41.l2sh:Env×Store:=((.str ([]:J1)) :: .undef::(.ptr 0 0)::(.int .i64 0)::(.ptr 1 0) :: .undef::(.int .i64 0)::(.int .u64 0)::un 39 ((.ptr 2 0)::un 21 []),[(.cells 37 [(.ints false .u64 [])]),(.cells 37 [(.ints false .u64 [])]),(.siter ([]:J1) 0)])
def z41.l2out0 (a:J1) (b c d:Int) (e g:J0) (h:J1) (j:Nat) (o:Int×Nat):X×Env×Store:=((.exit 2),Qb z41.l2sh [.s a,.i b,.i c,.i o.1,.li e,.li g,.s h,.n o.2])
def z41.l2pack:List Leaf->Option LPack
 |[.s a,.i b,.i c,.i d,.li e,.li g,.s h,.n j]=>some (.one _ (z41.l2 h (d,j)) (z41.l2out0 a b c d e g h j))
 |_=>none
def z41.l2ash:Env×Store:=((.str ([]:J1)) :: .undef::(.ptr 0 0)::(.int .i64 0)::(.ptr 1 0) :: .undef::(.int .i64 0)::(.int .u64 0)::un 33 ((.int .i64 0)::(.bool false)::un 4 ((.ptr 2 0)::un 21 [])),[(.cells 37 [(.ints false .u64 [])]),(.cells 37 [(.ints false .u64 [])]),(.siter ([]:J1) 0)])
def z41.l2aout0 (a:J1) (c d e g:Int) (h:Bool) (j k:J0) (m:J1) (p:Nat) (o:Int×Nat):X×Env×Store:=((.exit 2),Qb z41.l2ash [.s a,.i c,.i d,.i o.1,.i g,.b h,.li j,.li k,.s m,.n o.2])
def z41.l2apack:List Leaf->Option LPack
 |[.s a,.i c,.i d,.i e,.i g,.b h,.li j,.li k,.s m,.n o]=>some (.one _ (z41.l2a m (e,o)) (z41.l2aout0 a c d e g h j k m o))
 |_=>none
def z41.l0aash:Env×Store:=((.str ([]:J1)) :: .undef::(.ptr 0 0)::(.int .i64 0)::(.ptr 1 0)::(.bool false)::un 63 [],[(.cells 37 [(.ints false .u64 [])]),(.cells 37 [(.ints false .u64 [])])])
def z41.l0aaout0 (a:J1) (c:Int) (d:Bool) (e g:J0) (o:J1×Bool×J0):X×Env×Store:=((.exit 0),Qb z41.l0aash [.s o.1,.i c,.b o.2.1,.li e,.li o.2.2])
def z41.l0aapack:List Leaf->Option LPack
 |[.s a,.i c,.b d,.li e,.li g]=>some (.one _ (z41.l0aa (a,d,g)) (z41.l0aaout0 a c d e g))
 |_=>none
def z41.C:Ctx where
 T:=tab
 draws:=λf i=>match f,i with|161,17=>([(58,[(4,0)],0),(59,[],0),(60,[(58,2)],2),(61,[(57,1),(59,3)],7),(62,[(7,0)],0),(63,[(61,5)],16),(64,[(62,6)],63),(65,[(60,4),(63,7)],127),(0,[(4,0),(64,8)],255)],36749372959343247360)|_,_=>([],0)
 call:=λg args=>match g with|200=>z3.pack args|158=>z38.pack args|164=>z40.pack args|99=>z24.pack args|_=>none
 keep:=λf i=>match f,i with|161,2=>([0,2,3,4,6,7,41,42,47],[0,1,2],[])|161,0=>([0,2,3,4,5],[0,1],[])|_,_=>([],[],[])
 keepE:=λf i=>match f,i with|161,2=>([0,2,3,4,6,7,41,42,47],[0,1,2],[])|161,0=>([0,2,3,4,5],[0,1],[])|_,_=>([],[],[])
 keepR:=λf i=>match f,i with|161,2=>([2,3],[0,1,2],[2,3])|161,0=>([2,3],[0,1],[2,3])|_,_=>([],[],[])
 L:=λf i b st=>match f,i,b with|161,2,0=>(orP ((matchSt z41.l2sh st).bind z41.l2pack) ((matchSt z41.l2ash st).bind z41.l2apack))|161,0,0=>(matchSt z41.l0aash st).bind z41.l0aapack|_,_,_=>none
theorem z41.l2_link (R:Type) (k:Env×Store->Option R) (d:X×Env×Store->Option R) (a:J1) (b c e:Int) (g h:J0) (j:J1) (m:Nat) :
  z41.C.loopP 161 2 (Qg 2 (ifun Tryz.f161).body) 3 k d (Qb z41.l2sh [.s a,.i b,.i c,.i e,.li g,.li h,.s j,.n m]) =
  z41.l2P j (λx'=>k (Qb z41.l2sh [.s a,.i b,.i c,.i x'.1,.li g,.li h,.s j,.n x'.2])) (λo=>d (z41.l2out0 a b c e g h j m o)) (e,m):=by kernel_rfl
theorem z41.l2a_link (R:Type) (k:Env×Store->Option R) (d:X×Env×Store->Option R) (a:J1) (c e g h:Int) (j:Bool) (m p:J0) (q:J1) (r:Nat) :
  z41.C.loopP 161 2 (Qg 2 (ifun Tryz.f161).body) 3 k d (Qb z41.l2ash [.s a,.i c,.i e,.i g,.i h,.b j,.li m,.li p,.s q,.n r]) =
  z41.l2aP q (λx'=>k (Qb z41.l2ash [.s a,.i c,.i e,.i x'.1,.i h,.b j,.li m,.li p,.s q,.n x'.2])) (λo=>d (z41.l2aout0 a c e g h j m p q r o)) (g,r):=by kernel_rfl
theorem z41.l0aa_link (R:Type) (k:Env×Store->Option R) (d:X×Env×Store->Option R) (a:J1) (c:Int) (e:Bool) (g h:J0) :
  z41.C.loopP 161 0 (Qg 0 (ifun Tryz.f161).body) 2 k d (Qb z41.l0aash [.s a,.i c,.b e,.li g,.li h]) =
  z41.l0aaP (λx'=>k (Qb z41.l0aash [.s x'.1,.i c,.b x'.2.1,.li g,.li x'.2.2])) (λo=>d (z41.l0aaout0 a c e g h o)) (a,e,h):=by kernel_rfl
theorem z41.link (a0:J1):z41.C.evTop 161 (ifun Tryz.f161) [(.str a0)] z44.dec=z41.F a0:=by kernel_rfl
def z42.C:Ctx where
 T:=tab
 call:=λg args=>match g with|160=>z37.pack args|161=>z41.pack args|104=>z19.pack args|91=>z21.pack args|_=>none
theorem z42.link (a0:J1):z42.C.evTop 76 (ifun Tryz.f76) [(.str a0)] z46.dec=z42.F a0:=by kernel_rfl
def z65.C:Ctx where
 T:=tab
theorem z65.link (a0:Int):z65.C.evTop 281 (ifun Tryz.f281) [(.int .i64 a0)] z10.dec=z65.F a0:=by kernel_rfl
def z66.l0sh:Env×Store:=(un 4 ((.ptr 1 0)::(.int .i64 0)::(.sview 4 0 0 0)::(.int .u64 0)::un 17 ((.int .i64 0)::(.int .i64 0)::un 31 [])),[.dead,(.cells 37 [(.ints false .u64 [])]),.dead,.dead,(.arr 0 true 79 (.ints false .u64 []))])
def z66.l0out0 (a:Int) (b c:Nat) (d e g:Int) (h j:J0) (o:Int×J0):X×Env×Store:=((.exit 0),Qb z66.l0sh [.i a,.n b,.n c,.i d,.i e,.i o.1,.li h,.li o.2])
def z66.l0pack:List Leaf->Option LPack
 |[.i a,.n b,.n c,.i d,.i e,.i g,.li h,.li j]=>some (.one _ (z66.l0 b c d e (g,j)) (z66.l0out0 a b c d e g h j))
 |_=>none
def z66.C:Ctx where
 T:=tab
 draws:=λf i=>match f,i with|267,11=>([(42,[(6,0)],0),(43,[(8,0)],0),(44,[(41,1),(42,2)],3),(45,[(43,3)],7),(46,[(6,0)],0),(47,[(8,0)],0),(48,[(46,6)],32),(49,[(45,5),(47,7)],112),(50,[(48,8)],240),(51,[(7,0)],0),(52,[(50,10)],512),(53,[(49,9),(51,11)],2032),(54,[(44,4),(52,12)],4095),(55,[(41,1),(42,2)],8191),(0,[(54,14),(53,13)],16383)],36026597995708416)|_,_=>([],0)
 call:=λg args=>match g with|281=>z65.pack args|158=>z38.pack args|_=>none
 inl:=λg=>match g with|188=>some (ifun Tryz.f188)|_=>none
 rank:=λg=>match g with|188=>1|_=>0
 prim:=λg=>match g with|222=>some (cloneP (.ints true .u64 []) 79 8)|_=>none
 keep:=λf i=>match f,i with|267,0=>([4,5,6,7,25,26],[1,4],[])|_,_=>([],[],[])
 keepE:=λf i=>match f,i with|267,0=>([4,5,6,7,25,26],[1,4],[])|_,_=>([],[],[])
 keepR:=λf i=>match f,i with|267,0=>([4,5],[1,4],[4,5])|_,_=>([],[],[])
 L:=λf i b st=>match f,i,b with|267,0,0=>(matchSt z66.l0sh st).bind z66.l0pack|_,_,_=>none
theorem z66.l0_link (R:Type) (k:Env×Store->Option R) (d:X×Env×Store->Option R) (a:Int) (b c:Nat) (e g h:Int) (j m:J0) :
  z66.C.loopP 267 0 (Qg 0 (ifun Tryz.f267).body) 5 k d (Qb z66.l0sh [.i a,.n b,.n c,.i e,.i g,.i h,.li j,.li m]) =
  z66.l0P b c e g (λx'=>k (Qb z66.l0sh [.i a,.n b,.n c,.i e,.i g,.i x'.1,.li j,.li x'.2])) (λo=>d (z66.l0out0 a b c e g h j m o)) (h,m):=by kernel_rfl
theorem z66.link (a0:J0) (a1:Int):z66.C.evTop 267 (ifun Tryz.f267) [(.agg [(.ints false .u64 a0)]),(.int .i64 a1)] z44.dec=z66.F a0 a1:=by kernel_rfl
def z67.l0sh:Env×Store:=(.undef::(.int .u64 0) :: .undef :: .undef::(.sref 2 0)::(.sref 3 0)::un 6 ((.ints false .u64 [])::(.int .i64 0)::(.int .i64 0)::un 23 []),[(.arr 0 true 79 (.ints false .u64 [])),(.arr 0 true 79 (.ints false .u64 [])),(.arr 0 true 79 (.ints false .u64 [])),(.arr 0 false 79 (.ints false .u64 []))])
def z67.l0out0 (a:Int) (b:J0) (c d:Int) (e g h j:J0) (o:Int×J0):X×Env×Store:=((.exit 0),Qb z67.l0sh [.i a,.li b,.i c,.i o.1,.li e,.li g,.li h,.li o.2])
def z67.l0pack:List Leaf->Option LPack
 |[.i a,.li b,.i c,.i d,.li e,.li g,.li h,.li j]=>some (.one _ (z67.l0 a b c (d,j)) (z67.l0out0 a b c d e g h j))
 |_=>none
def z67.l0ash:Env×Store:=(.undef::(.int .u64 0) :: .undef :: .undef::(.sref 4 0)::(.sref 5 0)::un 6 ((.ints false .u64 [])::(.int .i64 0)::(.int .i64 0)::un 23 []),[(.arr 0 true 79 (.ints false .u64 [])),(.arr 0 true 79 (.ints false .u64 [])),(.arr 0 true 79 (.ints false .u64 [])),(.arr 0 false 79 (.ints false .u64 [])),(.arr 0 true 79 (.ints false .u64 [])),(.arr 0 false 79 (.ints false .u64 []))])
def z67.l0aout0 (a:Int) (b:J0) (c d:Int) (e g h j k m:J0) (o:Int×J0):X×Env×Store:=((.exit 0),Qb z67.l0ash [.i a,.li b,.i c,.i o.1,.li e,.li g,.li h,.li j,.li k,.li o.2])
def z67.l0apack:List Leaf->Option LPack
 |[.i a,.li b,.i c,.i d,.li e,.li g,.li h,.li j,.li k,.li m]=>some (.one _ (z67.l0a a b c (d,m)) (z67.l0aout0 a b c d e g h j k m))
 |_=>none
def z67.l0b3sh:Env×Store:=((.sview 3 0 0 0)::(.sview 5 0 0 0)::(.int .u64 0)::un 3 ((.int .u64 0)::(.int .u64 0)::(.int .u64 0)::un 5 ((.sview 5 0 0 0)::(.int .i64 0)::(.int .i64 0)::un 49 [])),[(.arr 0 true 79 (.ints false .u64 [])),(.arr 0 true 79 (.ints false .u64 [])),.dead,(.arr 0 false 79 (.ints false .u64 [])),.dead,(.arr 0 false 79 (.ints false .u64 [])),(.arr 0 false 79 (.ints false .u64 []))])
def z67.l0b3out0 (a b c d:Nat) (e g h j:Int) (k m:Nat) (p q:Int) (r s t u v:J0) (o:Int×Int×Int×J0):X×Env×Store:=((.exit 0),Qb z67.l0b3sh [.n a,.n b,.n c,.n d,.i e,.i g,.i o.1,.i o.2.1,.n k,.n m,.i p,.i o.2.2.1,.li r,.li s,.li o.2.2.2,.li u,.li v])
def z67.l0b3pack:List Leaf->Option LPack
 |[.n a,.n b,.n c,.n d,.i e,.i g,.i h,.i j,.n k,.n m,.i o,.i p,.li q,.li r,.li s,.li t,.li u]=>some (.one _ (z67.l0b3 a b e k m o t (h,j,p,s)) (z67.l0b3out0 a b c d e g h j k m o p q r s t u))
 |_=>none
def z67.l0b4sh:Env×Store:=((.sview 3 0 0 0)::(.sview 5 0 0 0) :: .undef :: .undef::(.int .u64 0) :: .undef :: .undef::(.sview 5 0 0 0)::(.int .i64 0)::(.int .i64 0)::un 26 [],[(.arr 0 true 79 (.ints false .u64 [])),(.arr 0 true 79 (.ints false .u64 [])),.dead,(.arr 0 false 79 (.ints false .u64 [])),.dead,(.arr 0 false 79 (.ints false .u64 [])),(.arr 0 false 79 (.ints false .u64 []))])
def z67.l0b4out0 (a b c d:Nat) (e:Int) (g h:Nat) (j k:Int) (m p q r s:J0) (o:Int×Int×J0):X×Env×Store:=((.exit 0),Qb z67.l0b4sh [.n a,.n b,.n c,.n d,.i o.1,.n g,.n h,.i j,.i o.2.1,.li m,.li p,.li o.2.2,.li r,.li s])
def z67.l0b4pack:List Leaf->Option LPack
 |[.n a,.n b,.n c,.n d,.i e,.n g,.n h,.i j,.i k,.li m,.li o,.li p,.li q,.li r]=>some (.one _ (z67.l0b4 a b g h j q (e,k,p)) (z67.l0b4out0 a b c d e g h j k m o p q r))
 |_=>none
def z67.l2sh:Env×Store:=((.sref 3 0)::(.sview 5 0 0 0) :: .undef :: .undef::(.sref 0 0)::(.sref 1 0)::(.int .u64 0)::(.sref 6 0)::(.int .i64 0)::(.sview 3 0 0 0)::(.int .u64 0)::(.int .u64 0)::un 75 [],[(.arr 0 true 79 (.ints false .u64 [])),(.arr 0 true 79 (.ints false .u64 [])),.dead,(.arr 0 false 79 (.ints false .u64 [])),.dead,(.arr 0 false 79 (.ints false .u64 [])),(.arr 0 false 79 (.ints false .u64 []))])
def z67.l2out0 (a b:Nat) (c d:Int) (e g:Nat) (h j:Int) (k m p q r:J0) (o:Int×Int×J0):X×Env×Store:=((.exit 2),Qb z67.l2sh [.n a,.n b,.i c,.i d,.n e,.n g,.i o.1,.i o.2.1,.li k,.li m,.li o.2.2,.li q,.li r])
def z67.l2pack:List Leaf->Option LPack
 |[.n a,.n b,.i c,.i d,.n e,.n g,.i h,.i j,.li k,.li m,.li o,.li p,.li q]=>some (.one _ (z67.l2 a b e g p (h,j,o)) (z67.l2out0 a b c d e g h j k m o p q))
 |_=>none
def z67.l0aash:Env×Store:=((.sref 3 0)::(.sview 5 0 0 0) :: .undef :: .undef::(.sref 0 0)::(.sref 1 0)::(.int .u64 0)::(.sref 6 0)::(.int .i64 0)::un 78 [],[(.arr 0 true 79 (.ints false .u64 [])),(.arr 0 true 79 (.ints false .u64 [])),.dead,(.arr 0 false 79 (.ints false .u64 [])),.dead,(.arr 0 false 79 (.ints false .u64 [])),(.arr 0 false 79 (.ints false .u64 []))])
def z67.l0aaout0 (a b:Nat) (c d:Int) (e g h j k:J0) (o:Int×J0×J0):X×Env×Store:=((.exit 0),Qb z67.l0aash [.n a,.n b,.i c,.i o.1,.li e,.li g,.li o.2.1,.li j,.li o.2.2])
def z67.l0aapack:List Leaf->Option LPack
 |[.n a,.n b,.i c,.i d,.li e,.li g,.li h,.li j,.li k]=>some (.one _ (z67.l0aa a b j (d,h,k)) (z67.l0aaout0 a b c d e g h j k))
 |_=>none
def z67.C:Ctx where
 T:=tab
 draws:=λf i=>match f,i with|225,2=>([(23,[(0,10)],0),(24,[(6,0)],0),(25,[(22,1),(23,2)],3),(26,[(1,11)],0),(27,[(6,0)],0),(28,[(25,4),(26,5)],31),(29,[(1,11)],0),(30,[(28,7)],64),(31,[(27,6),(29,8)],255),(1,[(24,3)],63),(2,[(30,9)],1023)],2143289347)|264,2=>([(18,[(0,0)],0),(19,[(5,0)],0),(20,[(17,1),(18,2)],3),(21,[(19,3)],7),(22,[(0,0)],0),(23,[(5,0)],0),(24,[(22,6)],32),(25,[(21,5),(23,7)],112),(26,[(24,8)],240),(27,[(0,0)],0),(28,[(5,0)],0),(29,[(27,11)],1024),(30,[(26,10),(28,12)],3584),(31,[(29,13)],7680),(7,[(20,4)],15),(8,[(25,9)],16895),(9,[(30,14)],65535)],2147353024)|_,_=>([],0)
 call:=λg args=>match g with|262=>z62.pack args|268=>z39.pack args|183=>z0.pack args|187=>z1.pack args|261=>z63.pack args|158=>z38.pack args|267=>z66.pack args|188=>z60.pack args|_=>none
 inl:=λg=>match g with|263=>some (ifun Tryz.f263)|264=>some (ifun Tryz.f264)|265=>some (ifun Tryz.f265)|266=>some (ifun Tryz.f266)|_=>none
 keep:=λf i=>match f,i with|263,0=>([1,4,5,12,13,14],List.range 64,[])|265,0=>([0,1,2,6,7,8,14,15,16],List.range 64,[])|266,0=>([0,1,4,7,8,9],List.range 64,[])|225,2=>([0,1,4,5,6,7,8,9,10,11],[0,1,3,5,6],[])|225,0=>([0,1,4,5,6,7,8],[0,1,3,5,6],[])|_,_=>([],[],[])
 keepE:=λf i=>match f,i with|263,0=>([1,4,5,12,13,14],List.range 64,[])|265,0=>([0,1,2,6,7,8,14,15,16],List.range 64,[])|266,0=>([0,1,4,7,8,9],List.range 64,[])|225,2=>([0,1,4,5,6,7,8,9,10,11],[0,1,3,5,6],[])|225,0=>([0,1,4,5,6,7,8],[0,1,3,5,6],[])|_,_=>([],[],[])
 keepR:=λf i=>match f,i with|263,0=>([4],List.range 64,[])|265,0=>([6],List.range 64,[])|266,0=>([],List.range 64,[])|225,2=>([4,5],[0,1,3,5,6],[4,5])|225,0=>([4,5],[0,1,3,5,6],[4,5])|_,_=>([],[],[])
 unroll:=λf i=>match f,i with|264,1000000=>2|_,_=>0
 L:=λf i b st=>match f,i,b with|263,0,2=>(matchSt z67.l0sh st).bind z67.l0pack|263,0,4=>(matchSt z67.l0ash st).bind z67.l0apack|265,0,7=>(matchSt z67.l0b3sh st).bind z67.l0b3pack|266,0,7=>(matchSt z67.l0b4sh st).bind z67.l0b4pack|225,2,0=>(matchSt z67.l2sh st).bind z67.l2pack|225,0,0=>(matchSt z67.l0aash st).bind z67.l0aapack|_,_,_=>none
def z67.dec:V->Option (J0×J0)
 |(.tup [(.ints _ .u64 x0),(.ints _ .u64 x1)])=>some (x0,x1)
 |_=>none
theorem z67.l0_link (R:Type) (k:Env×Store->Option R) (d:X×Env×Store->Option R) (a:Int) (b:J0) (c e:Int) (g h j m:J0) :
  z67.C.loopPI (z67.C.inlK 0) 263 0 2 (Qg 0 (ifun Tryz.f263).body) 4 k d (Qb z67.l0sh [.i a,.li b,.i c,.i e,.li g,.li h,.li j,.li m]) =
  z67.l0P a b c (λx'=>k (Qb z67.l0sh [.i a,.li b,.i c,.i x'.1,.li g,.li h,.li j,.li x'.2])) (λo=>d (z67.l0out0 a b c e g h j m o)) (e,m):=by kernel_rfl
theorem z67.l0a_link (R:Type) (k:Env×Store->Option R) (d:X×Env×Store->Option R) (a:Int) (b:J0) (c e:Int) (g h j m n p:J0) :
  z67.C.loopPI (z67.C.inlK 0) 263 0 4 (Qg 0 (ifun Tryz.f263).body) 6 k d (Qb z67.l0ash [.i a,.li b,.i c,.i e,.li g,.li h,.li j,.li m,.li n,.li p]) =
  z67.l0aP a b c (λx'=>k (Qb z67.l0ash [.i a,.li b,.i c,.i x'.1,.li g,.li h,.li j,.li m,.li n,.li x'.2])) (λo=>d (z67.l0aout0 a b c e g h j m n p o)) (e,p):=by kernel_rfl
theorem z67.l0b3_link (R:Type) (k:Env×Store->Option R) (d:X×Env×Store->Option R) (a b c e:Nat) (g h j m:Int) (p q:Nat) (r s:Int) (t u v w x:J0) :
  z67.C.loopPI (z67.C.inlK 0) 265 0 7 (Qg 0 (ifun Tryz.f265).body) 7 k d (Qb z67.l0b3sh [.n a,.n b,.n c,.n e,.i g,.i h,.i j,.i m,.n p,.n q,.i r,.i s,.li t,.li u,.li v,.li w,.li x]) =
  z67.l0b3P a b g p q r w (λx'=>k (Qb z67.l0b3sh [.n a,.n b,.n c,.n e,.i g,.i h,.i x'.1,.i x'.2.1,.n p,.n q,.i r,.i x'.2.2.1,.li t,.li u,.li x'.2.2.2,.li w,.li x])) (λo=>d (z67.l0b3out0 a b c e g h j m p q r s t u v w x o)) (j,m,s,v):=by kernel_rfl
theorem z67.l0b4_link (R:Type) (k:Env×Store->Option R) (d:X×Env×Store->Option R) (a b c e:Nat) (g:Int) (h j:Nat) (m p:Int) (q r s t u:J0) :
  z67.C.loopPI (z67.C.inlK 0) 266 0 7 (Qg 0 (ifun Tryz.f266).body) 7 k d (Qb z67.l0b4sh [.n a,.n b,.n c,.n e,.i g,.n h,.n j,.i m,.i p,.li q,.li r,.li s,.li t,.li u]) =
  z67.l0b4P a b h j m t (λx'=>k (Qb z67.l0b4sh [.n a,.n b,.n c,.n e,.i x'.1,.n h,.n j,.i m,.i x'.2.1,.li q,.li r,.li x'.2.2,.li t,.li u])) (λo=>d (z67.l0b4out0 a b c e g h j m p q r s t u o)) (g,p,s):=by kernel_rfl
theorem z67.l2_link (R:Type) (k:Env×Store->Option R) (d:X×Env×Store->Option R) (a b:Nat) (c e:Int) (g h:Nat) (j m:Int) (p q r s t:J0) :
  z67.C.loopP 225 2 (Qg 2 (ifun Tryz.f225).body) 7 k d (Qb z67.l2sh [.n a,.n b,.i c,.i e,.n g,.n h,.i j,.i m,.li p,.li q,.li r,.li s,.li t]) =
  z67.l2P a b g h s (λx'=>k (Qb z67.l2sh [.n a,.n b,.i c,.i e,.n g,.n h,.i x'.1,.i x'.2.1,.li p,.li q,.li x'.2.2,.li s,.li t])) (λo=>d (z67.l2out0 a b c e g h j m p q r s t o)) (j,m,r):=by kernel_rfl
theorem z67.l0aa_link (R:Type) (k:Env×Store->Option R) (d:X×Env×Store->Option R) (a b:Nat) (c e:Int) (g h j m p:J0) :
  z67.C.loopP 225 0 (Qg 0 (ifun Tryz.f225).body) 7 k d (Qb z67.l0aash [.n a,.n b,.i c,.i e,.li g,.li h,.li j,.li m,.li p]) =
  z67.l0aaP a b m (λx'=>k (Qb z67.l0aash [.n a,.n b,.i c,.i x'.1,.li g,.li h,.li x'.2.1,.li m,.li x'.2.2])) (λo=>d (z67.l0aaout0 a b c e g h j m p o)) (e,j,p):=by kernel_rfl
theorem z67.link (a0 a1:J0):z67.C.evTop 225 (ifun Tryz.f225) [(.ints false .u64 a0),(.ints false .u64 a1)] z67.dec=z67.F a0 a1:=by kernel_rfl
def z68.C:Ctx where
 T:=tab
 draws:=λf i=>match f,i with|162,4=>([(22,[],0),(23,[(2,0)],0),(0,[(4,0),(21,1)],1),(0,[(5,0),(22,2)],7),(7,[],15)],6291520)|162,5=>([(24,[(2,0)],0),(25,[(23,1)],1),(26,[(3,0)],0),(27,[(25,3)],7),(8,[(24,2)],15),(9,[(26,4)],31)],125829504)|_,_=>([],0)
 call:=λg args=>match g with|104=>z19.pack args|186=>z29.pack args|188=>z60.pack args|224=>z64.pack args|158=>z38.pack args|225=>z67.pack args|_=>none
def z68.dec:V->Option (J0×J0×Int)
 |(.tup [(.agg [(.ints _ .u64 x0)]),(.agg [(.ints _ .u64 x1)]),(.int .i64 x2)])=>some (x0,x1,x2)
 |_=>none
theorem z68.link (a0 a1:J0):z68.C.evTop 162 (ifun Tryz.f162) [(.agg [(.ints false .u64 a0)]),(.agg [(.ints false .u64 a1)])] z68.dec=z68.F a0 a1:=by kernel_rfl
def z69.l0sh:Env×Store:=(.undef :: .undef::(.ptr 0 0)::(.ptr 1 0)::(.ptr 2 0)::un 16 [],[(.cells 37 [(.ints false .u64 [])]),(.cells 37 [(.ints false .u64 [])]),(.cells 37 [(.ints false .u64 [])])])
def z69.l0out0 (a b c:J0) (o:J0×J0):X×Env×Store:=((.exit 0),Qb z69.l0sh [.li o.1,.li o.2,.li c])
def z69.l0pack:List Leaf->Option LPack
 |[.li a,.li b,.li c]=>some (.one _ (z69.l0 (a,b)) (z69.l0out0 a b c))
 |_=>none
def z69.C:Ctx where
 T:=tab
 draws:=λf i=>match f,i with|226,3=>([(19,[(3,0)],0),(20,[(6,0)],0),(0,[(2,0),(18,1)],1),(0,[(3,0),(19,2)],7)],786432)|_,_=>([],0)
 call:=λg args=>match g with|104=>z19.pack args|162=>z68.pack args|_=>none
 keep:=λf i=>match f,i with|226,0=>([2,3,4],[0,1,2],[])|_,_=>([],[],[])
 keepE:=λf i=>match f,i with|226,0=>([2,3,4],[0,1,2],[])|_,_=>([],[],[])
 keepR:=λf i=>match f,i with|226,0=>([4],[0,1,2],[4])|_,_=>([],[],[])
 L:=λf i b st=>match f,i,b with|226,0,0=>(matchSt z69.l0sh st).bind z69.l0pack|_,_,_=>none
theorem z69.l0_link (R:Type) (k:Env×Store->Option R) (d:X×Env×Store->Option R) (a b c:J0) :
  z69.C.loopP 226 0 (Qg 0 (ifun Tryz.f226).body) 3 k d (Qb z69.l0sh [.li a,.li b,.li c]) =
  z69.l0P (λx'=>k (Qb z69.l0sh [.li x'.1,.li x'.2,.li c])) (λo=>d (z69.l0out0 a b c o)) (a,b):=by kernel_rfl
theorem z69.link (a0 a1:J0):z69.C.evTop 226 (ifun Tryz.f226) [(.agg [(.ints false .u64 a0)]),(.agg [(.ints false .u64 a1)])] z23.dec=z69.F a0 a1:=by kernel_rfl
def z72.C:Ctx where
 T:=tab
 draws:=λf i=>match f,i with|123,1=>([(7,[(1,0)],0),(8,[(6,1)],1),(9,[(1,0)],0),(10,[(8,3)],4),(11,[(9,4)],12),(12,[(7,2),(10,5)],31),(6,[(11,6)],63),(13,[(5,7)],127),(14,[(5,7)],127),(4,[],0),(0,[(3,10),(12,8)],767),(5,[(13,9)],2047)],16376)|_,_=>([],0)
 call:=λg args=>match g with|204=>z55.pack args|176=>z71.pack args|_=>none
theorem z72.link (a0:J0) (a1:Bool) (a2:Int):z72.C.evTop 123 (ifun Tryz.f123) [(.agg [(.ints false .u64 a0),(.bool a1),(.int .i64 a2)])] z139.dec=z72.F a0 a1 a2:=by kernel_rfl
def z73.C:Ctx where
 T:=tab
 draws:=λf i=>match f,i with|130,1=>([(4,[(1,0)],0),(5,[(3,1)],1),(6,[],0),(7,[(5,3)],4),(8,[(4,2),(6,4)],15),(0,[(2,0),(7,5)],31)],248)|_,_=>([],0)
 call:=λg args=>match g with|158=>z38.pack args|99=>z24.pack args|_=>none
theorem z73.link (a0:J0) (a1:Bool) (a2:J0):z73.C.evTop 130 (ifun Tryz.f130) [(.agg [(.ints false .u64 a0),(.bool a1),(.ints false .u64 a2)])] z23.dec=z73.F a0 a1 a2:=by kernel_rfl
def z82.C:Ctx where
 T:=tab
theorem z82.link (a0:Int):z82.C.evTop 228 (ifun Tryz.f228) [(.int .i64 a0)] z10.dec=z82.F a0:=by kernel_rfl
def z86.C:Ctx where
 T:=tab
theorem z86.link (a0:Int):z86.C.evTop 258 (ifun Tryz.f258) [(.int .i64 a0)] z10.dec=z86.F a0:=by kernel_rfl
def z87.C:Ctx where
 T:=tab
 call:=λg args=>match g with|258=>z86.pack args|_=>none
theorem z87.link (a0:Int):z87.C.evTop 259 (ifun Tryz.f259) [(.int .i64 a0)] z10.dec=z87.F a0:=by kernel_rfl
def z88.C:Ctx where
 T:=tab
 call:=λg args=>match g with|258=>z86.pack args|259=>z87.pack args|_=>none
theorem z88.link (a0 a1:Int):z88.C.evTop 210 (ifun Tryz.f210) [(.int .i64 a0),(.int .i64 a1)] z28.dec=z88.F a0 a1:=by kernel_rfl
def z89.C:Ctx where
 T:=tab
 draws:=λf i=>match f,i with|142,1=>([(4,[(1,0)],0),(5,[(3,1)],1),(6,[(4,2)],3),(7,[(5,3)],7),(8,[(1,0),(6,4)],15),(9,[(7,5),(6,4)],31),(10,[(1,0),(6,4)],15),(11,[(9,7),(6,4)],79),(12,[(1,0),(6,4)],15),(13,[(11,9),(6,4)],271),(14,[(10,8),(12,10),(6,4)],975),(15,[(8,6),(13,11),(6,4)],2047),(16,[(6,4),(14,12)],4095)],65528)|_,_=>([],0)
 call:=λg args=>match g with|210=>z88.pack args|_=>none
theorem z89.link (a0 a1 a2:Int):z89.C.evTop 142 (ifun Tryz.f142) [(.agg [(.int .i64 a0),(.int .i64 a1),(.int .i64 a2)])] z28.dec=z89.F a0 a1 a2:=by kernel_rfl
def z92.l0sh:Env×Store:=(.undef::(.int .i64 0)::(.int .i64 0)::(.ptr 0 0) :: .undef :: .undef::(.sref 1 0)::(.int .i64 0) :: .undef::(.sref 2 0)::(.int .i64 0)::un 39 [],[(.cells 41 [(.int .i64 0),(.int .i64 0),(.int .i64 0)]),(.arr 0 true 41 (.recs false 3 [])),(.arr 0 true 41 (.recs false 3 []))])
def z92.l0so1:Env×Store:=(un 6 ((.recs false 3 [])::(.int .i64 0)::un 42 []),[(.cells 41 [(.int .i64 0),(.int .i64 0),(.int .i64 0)]),(.arr 0 true 41 (.recs false 3 [])),(.arr 0 true 41 (.recs false 3 []))])
def z92.l0out0 (a b c d e g h:Int) (j k:J2) (o:Int×J2):X×Env×Store:=((.exit 0),Qb z92.l0sh [.i a,.i b,.i c,.i o.1,.i e,.i g,.i h,.lr j,.lr o.2])
def z92.l0out1 (a b c d e g h:Int) (j k:J2) (o:J2×Int×J2):X×Env×Store:=(.ret,Qb z92.l0so1 [.lr o.1,.i o.2.1,.i e,.i g,.i h,.lr j,.lr o.2.2])
def z92.l0pack:List Leaf->Option LPack
 |[.i a,.i b,.i c,.i d,.i e,.i g,.i h,.lr j,.lr k]=>some (.two _ _ (z92.l0 a b e g h (d,k)) (z92.l0out0 a b c d e g h j k) (z92.l0out1 a b c d e g h j k))
 |_=>none
def z92.C:Ctx where
 T:=tab
 call:=λg args=>match g with|142=>z89.pack args|134=>z90.pack args|_=>none
 keep:=λf i=>match f,i with|138,0=>([1,2,3,6,7,9,10],[0,1,2],[])|_,_=>([],[],[])
 keepE:=λf i=>match f,i with|138,0=>([1,2,3,6,7,9,10],[0,1,2],[])|_,_=>([],[],[])
 keepR:=λf i=>match f,i with|138,0=>([6,7],[0,1,2],[6,7])|_,_=>([],[],[])
 L:=λf i b st=>match f,i,b with|138,0,0=>(matchSt z92.l0sh st).bind z92.l0pack|_,_,_=>none
def z92.dec:V->Option (J2×Int)
 |(.tup [(.recs _ 3 x0),(.int .i64 x1)])=>some (x0,x1)
 |_=>none
theorem z92.l0_link (R:Type) (k:Env×Store->Option R) (d:X×Env×Store->Option R) (a b c e g h j:Int) (m n:J2) :
  z92.C.loopP 138 0 (Qg 0 (ifun Tryz.f138).body) 3 k d (Qb z92.l0sh [.i a,.i b,.i c,.i e,.i g,.i h,.i j,.lr m,.lr n]) =
  z92.l0P a b g h j (λx'=>k (Qb z92.l0sh [.i a,.i b,.i c,.i x'.1,.i g,.i h,.i j,.lr m,.lr x'.2])) (λo=>match o with | .inl o=>d (z92.l0out0 a b c e g h j m n o) | .inr o=>d (z92.l0out1 a b c e g h j m n o)) (e,n):=by kernel_rfl
theorem z92.link (a0 a1 a2 a3 a4:Int):z92.C.evTop 138 (ifun Tryz.f138) [(.agg [(.int .i64 a0),(.int .i64 a1),(.int .i64 a2)]),(.int .i64 a3),(.int .i64 a4)] z92.dec=z92.F a0 a1 a2 a3 a4:=by kernel_rfl
def z97.C:Ctx where
 T:=tab
theorem z97.link (a0:Int):z97.C.evTop 211 (ifun Tryz.f211) [(.int .i64 a0)] z28.dec=z97.F a0:=by kernel_rfl
def z104.C:Ctx where
 T:=tab
 call:=λg args=>match g with|113=>z7.pack args|_=>none
theorem z104.link (a0:J0) (a1:Bool):z104.C.evTop 35 (ifun Tryz.f35) [(.agg [(.ints false .i64 a0),(.bool a1)])] z9.dec=z104.F a0 a1:=by kernel_rfl
def z107.l0sh:Env×Store:=((.ints false .i64 [])::(.ints false .i64 []) :: .undef :: .undef::(.sref 0 0)::(.sref 1 0)::(.int .i64 0)::(.int .i64 0)::un 29 [],[(.arr 0 true 3 (.ints false .i64 [])),(.arr 0 true 3 (.ints false .i64 []))])
def z107.l0out0 (a b:J0) (c d:Int) (e g:J0) (o:Int×Int×J0):X×Env×Store:=((.exit 0),Qb z107.l0sh [.li a,.li b,.i o.1,.i o.2.1,.li e,.li o.2.2])
def z107.l0pack:List Leaf->Option LPack
 |[.li a,.li b,.i c,.i d,.li e,.li g]=>some (.one _ (z107.l0 a b (c,d,g)) (z107.l0out0 a b c d e g))
 |_=>none
def z107.C:Ctx where
 T:=tab
 call:=λg args=>match g with|234=>z13.pack args|235=>z14.pack args|_=>none
 keep:=λf i=>match f,i with|172,0=>([0,1,4,5,6,7],[0,1],[])|_,_=>([],[],[])
 keepE:=λf i=>match f,i with|172,0=>([0,1,4,5,6,7],[0,1],[])|_,_=>([],[],[])
 keepR:=λf i=>match f,i with|172,0=>([4],[0,1],[4])|_,_=>([],[],[])
 L:=λf i b st=>match f,i,b with|172,0,0=>(matchSt z107.l0sh st).bind z107.l0pack|_,_,_=>none
theorem z107.l0_link (R:Type) (k:Env×Store->Option R) (d:X×Env×Store->Option R) (a b:J0) (c e:Int) (g h:J0) :
  z107.C.loopP 172 0 (Qg 0 (ifun Tryz.f172).body) 2 k d (Qb z107.l0sh [.li a,.li b,.i c,.i e,.li g,.li h]) =
  z107.l0P a b (λx'=>k (Qb z107.l0sh [.li a,.li b,.i x'.1,.i x'.2.1,.li g,.li x'.2.2])) (λo=>d (z107.l0out0 a b c e g h o)) (c,e,h):=by kernel_rfl
theorem z107.link (a0 a1:J0):z107.C.evTop 172 (ifun Tryz.f172) [(.ints false .i64 a0),(.ints false .i64 a1)] z15.dec=z107.F a0 a1:=by kernel_rfl
def z110.C:Ctx where
 T:=tab
theorem z110.link (a0:J0) (a1:Bool):z110.C.evTop 197 (ifun Tryz.f197) [(.agg [(.ints false .i64 a0),(.bool a1)])] z28.dec=z110.F a0 a1:=by kernel_rfl
def z111.C:Ctx where
 T:=tab
 call:=λg args=>match g with|63=>z109.pack args|197=>z110.pack args|_=>none
theorem z111.link (a0:J0) (a1:Bool) (a2:J0) (a3:Bool):z111.C.evTop 117 (ifun Tryz.f117) [(.agg [(.ints false .i64 a0),(.bool a1)]),(.agg [(.ints false .i64 a2),(.bool a3)])] z28.dec=z111.F a0 a1 a2 a3:=by kernel_rfl
def z126.C:Ctx where
 T:=tab
 call:=λg args=>match g with|37=>z112.pack args|39=>z123.pack args|80=>z124.pack args|135=>z125.pack args|_=>none
theorem z126.link (a0 a1:J1) (a2 a3 a4 a5 a6 a7 a8 a9:Int):z126.C.evTop 45 (ifun Tryz.f45) [(.agg [(.str a0),(.str a1),(.int .i64 a2),(.int .i64 a3),(.int .i64 a4),(.int .i64 a5),(.int .i64 a6),(.int .i64 a7),(.int .i64 a8),(.int .i64 a9)])] z28.dec=z126.F a0 a1 a2 a3 a4 a5 a6 a7 a8 a9:=by kernel_rfl
def z127.l0sh:Env×Store:=(.undef::(.int .i64 0)::(.int .i64 0)::(.ptr 0 0) :: .undef :: .undef::(.sref 1 0)::(.int .i64 0) :: .undef::(.sref 2 0)::(.int .i64 0)::un 38 [],[(.cells 41 [(.int .i64 0),(.int .i64 0),(.int .i64 0)]),(.arr 0 true 41 (.recs false 3 [])),(.arr 0 true 41 (.recs false 3 []))])
def z127.l0so1:Env×Store:=(un 6 ((.recs false 3 [])::(.int .i64 0)::un 41 []),[(.cells 41 [(.int .i64 0),(.int .i64 0),(.int .i64 0)]),(.arr 0 true 41 (.recs false 3 [])),(.arr 0 true 41 (.recs false 3 []))])
def z127.l0out0 (a b c d e g h:Int) (j k:J2) (o:Int×J2):X×Env×Store:=((.exit 0),Qb z127.l0sh [.i a,.i b,.i c,.i o.1,.i e,.i g,.i h,.lr j,.lr o.2])
def z127.l0out1 (a b c d e g h:Int) (j k:J2) (o:J2×Int×J2):X×Env×Store:=(.ret,Qb z127.l0so1 [.lr o.1,.i o.2.1,.i e,.i g,.i h,.lr j,.lr o.2.2])
def z127.l0pack:List Leaf->Option LPack
 |[.i a,.i b,.i c,.i d,.i e,.i g,.i h,.lr j,.lr k]=>some (.two _ _ (z127.l0 a b e g h (d,k)) (z127.l0out0 a b c d e g h j k) (z127.l0out1 a b c d e g h j k))
 |_=>none
def z127.C:Ctx where
 T:=tab
 call:=λg args=>match g with|80=>z124.pack args|135=>z125.pack args|_=>none
 keep:=λf i=>match f,i with|139,0=>([1,2,3,6,7,9,10],[0,1,2],[])|_,_=>([],[],[])
 keepE:=λf i=>match f,i with|139,0=>([1,2,3,6,7,9,10],[0,1,2],[])|_,_=>([],[],[])
 keepR:=λf i=>match f,i with|139,0=>([6,7],[0,1,2],[6,7])|_,_=>([],[],[])
 L:=λf i b st=>match f,i,b with|139,0,0=>(matchSt z127.l0sh st).bind z127.l0pack|_,_,_=>none
theorem z127.l0_link (R:Type) (k:Env×Store->Option R) (d:X×Env×Store->Option R) (a b c e g h j:Int) (m n:J2) :
  z127.C.loopP 139 0 (Qg 0 (ifun Tryz.f139).body) 3 k d (Qb z127.l0sh [.i a,.i b,.i c,.i e,.i g,.i h,.i j,.lr m,.lr n]) =
  z127.l0P a b g h j (λx'=>k (Qb z127.l0sh [.i a,.i b,.i c,.i x'.1,.i g,.i h,.i j,.lr m,.lr x'.2])) (λo=>match o with | .inl o=>d (z127.l0out0 a b c e g h j m n o) | .inr o=>d (z127.l0out1 a b c e g h j m n o)) (e,n):=by kernel_rfl
theorem z127.link (a0 a1 a2 a3 a4:Int):z127.C.evTop 139 (ifun Tryz.f139) [(.agg [(.int .i64 a0),(.int .i64 a1),(.int .i64 a2)]),(.int .i64 a3),(.int .i64 a4)] z92.dec=z127.F a0 a1 a2 a3 a4:=by kernel_rfl
def z128.C:Ctx where
 T:=tab
 call:=λg args=>match g with|45=>z126.pack args|139=>z127.pack args|_=>none
theorem z128.link (a0 a1:J1) (a2 a3 a4 a5 a6 a7 a8 a9:Int):z128.C.evTop 50 (ifun Tryz.f50) [(.agg [(.str a0),(.str a1),(.int .i64 a2),(.int .i64 a3),(.int .i64 a4),(.int .i64 a5),(.int .i64 a6),(.int .i64 a7),(.int .i64 a8),(.int .i64 a9)])] z92.dec=z128.F a0 a1 a2 a3 a4 a5 a6 a7 a8 a9:=by kernel_rfl
def z132.C:Ctx where
 T:=tab
 call:=λg args=>match g with|101=>z131.pack args|_=>none
theorem z132.link (a0:J0) (a1:Bool):z132.C.evTop 25 (ifun Tryz.f25) [(.agg [(.ints false .u64 a0),(.bool a1)])] z17.dec=z132.F a0 a1:=by kernel_rfl
def z138.C:Ctx where
 T:=tab
 draws:=λf i=>match f,i with|89,1=>([(6,[(2,0)],0),(7,[(5,1)],1),(8,[(3,0)],0),(9,[(7,3)],4),(10,[(6,2),(8,4)],15),(11,[(2,0)],0),(12,[(10,6)],63),(13,[(3,0)],0),(14,[(12,8)],255),(15,[(11,7),(13,9)],511),(16,[(9,5),(14,10)],1023),(0,[(4,0),(15,11)],2047)],65504)|_,_=>([],0)
 call:=λg args=>match g with|156=>z54.pack args|130=>z73.pack args|164=>z40.pack args|163=>z70.pack args|_=>none
theorem z138.link (a0:J0) (a1:Bool) (a2 a3:J0) (a4:Bool) (a5:J0):z138.C.evTop 89 (ifun Tryz.f89) [(.agg [(.ints false .u64 a0),(.bool a1),(.ints false .u64 a2)]),(.agg [(.ints false .u64 a3),(.bool a4),(.ints false .u64 a5)])] z139.dec=z138.F a0 a1 a2 a3 a4 a5:=by kernel_rfl
def z140.C:Ctx where
 T:=tab
 call:=λg args=>match g with|230=>z139.pack args|_=>none
theorem z140.link (a0 a1 a2 a3 a4 a5:Int):z140.C.evTop 229 (ifun Tryz.f229) [(.agg [(.int .i64 a0),(.int .i64 a1),(.int .i64 a2)]),(.agg [(.int .i64 a3),(.int .i64 a4),(.int .i64 a5)])] z139.dec=z140.F a0 a1 a2 a3 a4 a5:=by kernel_rfl
def z142.C:Ctx where
 T:=tab
 call:=λg args=>match g with|65=>z141.pack args|_=>none
theorem z142.link (a0 a1 a2 a3 a4 a5:Int):z142.C.evTop 231 (ifun Tryz.f231) [(.agg [(.int .i64 a0),(.int .i64 a1),(.int .i64 a2)]),(.agg [(.int .i64 a3),(.int .i64 a4),(.int .i64 a5)])] z28.dec=z142.F a0 a1 a2 a3 a4 a5:=by kernel_rfl
def z143.C:Ctx where
 T:=tab
 call:=λg args=>match g with|259=>z87.pack args|_=>none
theorem z143.link (a0:Int):z143.C.evTop 269 (ifun Tryz.f269) [(.int .i64 a0)] z28.dec=z143.F a0:=by kernel_rfl
def z144.C:Ctx where
 T:=tab
 draws:=λf i=>match f,i with|232,2=>([(13,[(2,0)],0),(14,[(3,0)],0),(15,[(12,1),(13,2)],3),(16,[(2,0)],0),(17,[(15,4)],8),(18,[(16,5)],31),(19,[(14,3),(17,6)],63),(0,[(4,0),(18,7)],127)],520192)|232,5=>([(31,[(5,0)],0),(32,[(2,0)],0),(33,[(31,2)],2),(34,[(32,3)],6),(35,[(30,1),(33,4)],15),(36,[(3,0)],0),(37,[(35,6)],32),(38,[(2,0)],0),(39,[(37,8)],128),(40,[(36,7),(38,9)],480),(41,[(39,10)],992),(42,[(40,11)],2047),(43,[(34,5),(41,12)],4095),(44,[(6,0)],0),(45,[(3,0)],0),(46,[(44,15)],16384),(47,[(45,16)],57343),(48,[(43,14),(46,17)],131071),(49,[(42,13),(47,18)],262143),(0,[(4,0),(48,19)],524287)],562948879679488)|_,_=>([],0)
 call:=λg args=>match g with|231=>z142.pack args|269=>z143.pack args|230=>z139.pack args|78=>z137.pack args|_=>none
theorem z144.link (a0 a1 a2 a3 a4 a5:Int):z144.C.evTop 232 (ifun Tryz.f232) [(.agg [(.int .i64 a0),(.int .i64 a1),(.int .i64 a2)]),(.agg [(.int .i64 a3),(.int .i64 a4),(.int .i64 a5)])] z139.dec=z144.F a0 a1 a2 a3 a4 a5:=by kernel_rfl
def z152.C:Ctx where
 T:=tab
 draws:=λf i=>match f,i with|79,8=>([(40,[(4,0)],0),(41,[(39,1)],1),(42,[(13,0)],0),(43,[(40,2),(41,3)],7),(44,[(11,0)],0),(45,[(42,4),(43,5)],31),(46,[(5,0)],0),(47,[(45,7)],64),(48,[(44,6),(46,8)],255),(49,[(47,9)],511),(50,[(47,9)],511),(0,[(8,0),(48,10)],2047),(10,[(49,11)],4095)],1125350151029248)|_,_=>([],0)
 call:=λg args=>match g with|44=>z91.pack args|165=>z145.pack args|38=>z76.pack args|68=>z47.pack args|89=>z138.pack args|150=>z136.pack args|_=>none
theorem z152.link (a0:J0) (a1:Bool) (a2 a3:J1) (a4 a5 a6 a7 a8 a9 a10 a11 a12 a13 a14 a15 a16 a17:Int):z152.C.evTop 79 (ifun Tryz.f79) [(.agg [(.ints false .u64 a0),(.bool a1)]),(.agg [(.str a2),(.str a3),(.int .i64 a4),(.int .i64 a5),(.int .i64 a6),(.int .i64 a7),(.int .i64 a8),(.int .i64 a9),(.int .i64 a10),(.int .i64 a11)]),(.agg [(.int .i64 a12),(.int .i64 a13),(.int .i64 a14)]),(.agg [(.int .i64 a15),(.int .i64 a16),(.int .i64 a17)])] z46.dec=z152.F a0 a1 a2 a3 a4 a5 a6 a7 a8 a9 a10 a11 a12 a13 a14 a15 a16 a17:=by kernel_rfl
def z154.l0sh:Env×Store:=(.undef :: .undef::(.ptr 0 0)::(.ptr 1 0)::(.int .i64 0)::(.ptr 2 0)::(.ptr 3 0)::un 5 ((.recs false 8 [])::(.int .i64 0)::(.int .i64 0)::un 34 []),[(.cells 39 [(.ints false .u64 []),(.bool false)]),(.cells 39 [(.ints false .u64 []),(.bool false)]),(.cells 39 [(.ints false .u64 []),(.bool false)]),(.cells 39 [(.ints false .u64 []),(.bool false)])])
def z154.l0so1:Env×Store:=(.undef :: .undef::(.ptr 0 0)::(.ptr 1 0)::(.int .i64 0)::un 44 [],[(.cells 39 [(.ints false .u64 []),(.bool false)]),(.cells 39 [(.ints false .u64 []),(.bool false)]),(.cells 39 [(.ints false .u64 []),(.bool false)]),(.cells 39 [(.ints false .u64 []),(.bool false)])])
def z154.l0out0 (a:Int) (c:J2) (d e:Int) (g:J0) (h:Bool) (j:J0) (k:Bool) (m:J0) (n:Bool) (p:J0) (q:Bool) (o:Int×J0×Bool×J0×Bool):X×Env×Store:=((.exit 0),Qb z154.l0sh [.i a,.lr c,.i d,.i o.1,.li g,.b h,.li j,.b k,.li o.2.1,.b o.2.2.1,.li o.2.2.2.1,.b o.2.2.2.2])
def z154.l0out1 (a:Int) (c:J2) (d e:Int) (g:J0) (h:Bool) (j:J0) (k:Bool) (m:J0) (n:Bool) (p:J0) (q:Bool) (o:Int×J0×Bool×J0×Bool×J0×Bool×J0×Bool):X×Env×Store:=(.ret,Qb z154.l0so1 [.i o.1,.li o.2.1,.b o.2.2.1,.li o.2.2.2.1,.b o.2.2.2.2.1,.li o.2.2.2.2.2.1,.b o.2.2.2.2.2.2.1,.li o.2.2.2.2.2.2.2.1,.b o.2.2.2.2.2.2.2.2])
def z154.l0pack:List Leaf->Option LPack
 |[.i a,.lr c,.i d,.i e,.li g,.b h,.li j,.b k,.li m,.b n,.li o,.b p]=>some (.two _ _ (z154.l0 c d (e,m,n,o,p)) (z154.l0out0 a c d e g h j k m n o p) (z154.l0out1 a c d e g h j k m n o p))
 |_=>none
def z154.C:Ctx where
 T:=tab
 draws:=λf i=>match f,i with|84,11=>([(41,[(5,0)],0),(42,[(9,0)],0),(43,[(40,1),(41,2)],3),(44,[(6,0)],0),(45,[(11,0)],0),(46,[(43,4),(44,5)],31),(0,[(5,0),(42,3)],63),(0,[(6,0),(45,6)],127)],69269232549888)|84,13=>([(48,[(5,0)],0),(49,[(6,0)],0),(0,[(2,0),(47,1)],1),(0,[(3,0),(48,2)],7),(5,[],15)],422212465066000)|_,_=>([],0)
 call:=λg args=>match g with|36=>z46.pack args|24=>z31.pack args|_=>none
 keep:=λf i=>match f,i with|84,0=>([2,3,4,5,6,12,13,14],[0,1,2,3],[])|_,_=>([],[],[])
 keepE:=λf i=>match f,i with|84,0=>([2,3,4,5,6,12,13,14],[0,1,2,3],[])|_,_=>([],[],[])
 keepR:=λf i=>match f,i with|84,0=>([2,3,4],[0,1,2,3],[2,3,4])|_,_=>([],[],[])
 L:=λf i b st=>match f,i,b with|84,0,0=>(matchSt z154.l0sh st).bind z154.l0pack|_,_,_=>none
def z154.dec:V->Option (J0×Bool×J0×Bool×Int)
 |(.tup [(.agg [(.ints _ .u64 x0),(.bool x1)]),(.agg [(.ints _ .u64 x2),(.bool x3)]),(.int .i64 x4)])=>some (x0,x1,x2,x3,x4)
 |_=>none
theorem z154.l0_link (R:Type) (k:Env×Store->Option R) (d:X×Env×Store->Option R) (a:Int) (c:J2) (e g:Int) (h:J0) (j:Bool) (m:J0) (n:Bool) (p:J0) (q:Bool) (r:J0) (s:Bool) :
  z154.C.loopP 84 0 (Qg 0 (ifun Tryz.f84).body) 4 k d (Qb z154.l0sh [.i a,.lr c,.i e,.i g,.li h,.b j,.li m,.b n,.li p,.b q,.li r,.b s]) =
  z154.l0P c e (λx'=>k (Qb z154.l0sh [.i a,.lr c,.i e,.i x'.1,.li h,.b j,.li m,.b n,.li x'.2.1,.b x'.2.2.1,.li x'.2.2.2.1,.b x'.2.2.2.2])) (λo=>match o with | .inl o=>d (z154.l0out0 a c e g h j m n p q r s o) | .inr o=>d (z154.l0out1 a c e g h j m n p q r s o)) (g,p,q,r,s):=by kernel_rfl
theorem z154.link (a0:J2):z154.C.evTop 84 (ifun Tryz.f84) [(.recs false 8 a0)] z154.dec=z154.F a0:=by kernel_rfl
def z156.C:Ctx where
 T:=tab
 call:=λg args=>match g with|104=>z19.pack args|280=>z61.pack args|_=>none
theorem z156.link (a0:J0):z156.C.evTop 270 (ifun Tryz.f270) [(.agg [(.ints false .u64 a0)])] z28.dec=z156.F a0:=by kernel_rfl
def z157.C:Ctx where
 T:=tab
 call:=λg args=>match g with|270=>z156.pack args|247=>z43.pack args|_=>none
theorem z157.link (a0:J0) (a1:Int):z157.C.evTop 238 (ifun Tryz.f238) [(.agg [(.ints false .u64 a0)]),(.int .i64 a1)] z44.dec=z157.F a0 a1:=by kernel_rfl
def z159.C:Ctx where
 T:=tab
 draws:=λf i=>match f,i with|175,6=>([(35,[(3,0)],0),(36,[(2,0)],0),(37,[(35,2)],2),(38,[(36,3)],6),(39,[(34,1),(37,4)],15),(40,[(38,5)],31),(41,[(38,5)],31),(0,[(6,0),(39,6)],127),(8,[(40,7)],255)],2181843386496)|175,8=>([(44,[(4,0)],0),(45,[(43,1)],1),(46,[(44,2)],3),(47,[(8,0)],0),(48,[(45,3),(46,4)],15),(10,[],0),(0,[(9,6),(47,5)],63)],272678883688960)|175,14=>([(74,[(3,0)],0),(75,[(73,1)],1),(76,[(4,0)],0),(77,[(75,3)],7),(78,[(74,2),(76,4)],15),(79,[(10,0)],0),(80,[(78,6)],63),(81,[(77,5),(79,7)],127),(17,[],0),(0,[(16,9),(80,8)],511)],2408406906263519059050496)|175,15=>([(82,[(16,0)],0),(83,[(3,0)],0),(84,[(82,2)],2),(85,[(8,0)],0),(86,[(83,3),(84,4)],14),(87,[(14,0)],0),(88,[(85,5),(86,6)],62),(89,[(87,7)],126),(90,[(81,1),(88,8)],255),(91,[(89,9)],511),(92,[(89,9)],511),(0,[(6,0),(90,10)],2047),(8,[(91,11)],4095)],4949342305502291841247084672)|_,_=>([],0)
 call:=λg args=>match g with|71=>z133.pack args|69=>z48.pack args|68=>z47.pack args|124=>z75.pack args|130=>z73.pack args|216=>z134.pack args|92=>z59.pack args|99=>z24.pack args|238=>z157.pack args|100=>z30.pack args|156=>z54.pack args|239=>z158.pack args|164=>z40.pack args|176=>z71.pack args|_=>none
theorem z159.link (a0:J0) (a1:Bool) (a2 a3:J0) (a4:Bool) (a5:J0) (a6:Int):z159.C.evTop 175 (ifun Tryz.f175) [(.agg [(.ints false .u64 a0),(.bool a1),(.ints false .u64 a2)]),(.agg [(.ints false .u64 a3),(.bool a4),(.ints false .u64 a5)]),(.int .i64 a6)] z75.dec=z159.F a0 a1 a2 a3 a4 a5 a6:=by kernel_rfl
def z161.C:Ctx where
 T:=tab
 draws:=λf i=>match f,i with|236,5=>([(25,[(3,0)],0),(26,[(1,0)],0),(27,[(25,2)],2),(28,[(24,1),(26,3)],7),(24,[(27,4)],15),(29,[(23,5)],31),(30,[(23,5)],31),(9,[],0),(0,[(8,8),(28,6)],191),(10,[(29,7)],511)],1065353984)|_,_=>([],0)
 call:=λg args=>match g with|28=>z20.pack args|69=>z48.pack args|176=>z71.pack args|150=>z136.pack args|_=>none
theorem z161.link (a0:J0) (a1:Bool) (a2 a3:Int):z161.C.evTop 236 (ifun Tryz.f236) [(.agg [(.ints false .u64 a0),(.bool a1)]),(.int .i64 a2),(.int .i64 a3)] z46.dec=z161.F a0 a1 a2 a3:=by kernel_rfl
def z163.C:Ctx where
 T:=tab
 call:=λg args=>match g with|74=>z34.pack args|_=>none
 meth:=λt m=>if t=39/\m = "Cmp" then some 74 else none
theorem z163.link (a0:J0) (a1:Bool) (a2:J0) (a3:Bool):z163.C.evTop 237 (ifun Tryz.f237) [(.agg [(.ints false .u64 a0),(.bool a1)]),(.agg [(.ints false .u64 a2),(.bool a3)])] z33.dec=z163.F a0 a1 a2 a3:=by kernel_rfl
def z165.l0sh:Env×Store:=(.undef::(.ptr 0 0)::(.sref 1 0)::(.int .i64 0)::(.recs false 6 []) :: .undef::(.ptr 2 0)::(.ptr 3 0) :: .undef::(.sref 4 0)::un 28 ((.recs false 6 [])::(.int .i64 0)::(.int .i64 0)::un 53 []),[(.cells 78 [(.str ([]:J1)),(.str ([]:J1)),(.int .i64 0),(.int .i64 0),(.int .i64 0),(.int .i64 0),(.int .i64 0),(.int .i64 0),(.int .i64 0),(.int .i64 0)]),(.arr 0 true 166 (.recs false 8 [])),(.cells 39 [(.ints false .u64 []),(.bool false)]),(.cells 39 [(.ints false .u64 []),(.bool false)]),(.arr 0 true 166 (.recs false 8 []))])
def z165.l0so1:Env×Store:=(.undef :: .undef::(.recs false 8 [])::(.int .i64 0)::un 90 [],[(.cells 78 [(.str ([]:J1)),(.str ([]:J1)),(.int .i64 0),(.int .i64 0),(.int .i64 0),(.int .i64 0),(.int .i64 0),(.int .i64 0),(.int .i64 0),(.int .i64 0)]),(.arr 0 true 166 (.recs false 8 [])),(.cells 39 [(.ints false .u64 []),(.bool false)]),(.cells 39 [(.ints false .u64 []),(.bool false)]),(.arr 0 true 166 (.recs false 8 []))])
def z165.l0out0 (a:Int) (c d:J2) (e g:Int) (h j:J1) (k m n p q r t u:Int) (v:J2) (w:J0) (x:Bool) (y:J0) (z:Bool) (A:J2) (o:Int×J0×Bool×J2):X×Env×Store:=((.exit 0),Qb z165.l0sh [.i a,.lr c,.lr d,.i e,.i o.1,.s h,.s j,.i k,.i m,.i n,.i p,.i q,.i r,.i t,.i u,.lr v,.li w,.b x,.li o.2.1,.b o.2.2.1,.lr o.2.2.2])
def z165.l0out1 (a:Int) (c d:J2) (e g:Int) (h j:J1) (k m n p q r t u:Int) (v:J2) (w:J0) (x:Bool) (y:J0) (z:Bool) (A:J2) (o:J2×Int×J0×Bool×J2):X×Env×Store:=(.ret,Qb z165.l0so1 [.lr o.1,.i o.2.1,.s h,.s j,.i k,.i m,.i n,.i p,.i q,.i r,.i t,.i u,.lr v,.li w,.b x,.li o.2.2.1,.b o.2.2.2.1,.lr o.2.2.2.2])
def z165.l0pack:List Leaf->Option LPack
 |[.i a,.lr c,.lr d,.i e,.i g,.s h,.s j,.i k,.i m,.i n,.i o,.i p,.i q,.i r,.i t,.lr u,.li v,.b w,.li x,.b y,.lr z]=>some (.two _ _ (z165.l0 c d e h j k m n o p q r t v w (g,x,y,z)) (z165.l0out0 a c d e g h j k m n o p q r t u v w x y z) (z165.l0out1 a c d e g h j k m n o p q r t u v w x y z))
 |_=>none
def z165.C:Ctx where
 T:=tab
 draws:=λf i=>match f,i with|86,19=>([(74,[(9,19)],0),(75,[(11,0)],0),(76,[(74,2)],2),(77,[(7,0)],0),(78,[(76,4)],8),(79,[(12,0)],0),(80,[(78,6)],56),(81,[(14,0)],0),(82,[(80,8)],248),(83,[(12,0)],0),(84,[(14,0)],0),(85,[(82,10),(83,11)],2040),(86,[(84,12)],4088),(87,[(15,0)],0),(88,[(86,14)],16376),(89,[(75,3),(77,5),(79,7),(81,9),(85,13),(87,15)],32766),(90,[(88,16)],65534),(91,[(73,1),(89,17)],131071),(10,[(90,18)],262143)],2475870633837794810507821568)|_,_=>([],0)
 call:=λg args=>match g with|49=>z94.pack args|173=>z162.pack args|36=>z46.pack args|79=>z152.pack args|174=>z164.pack args|90=>z33.pack args|25=>z132.pack args|24=>z31.pack args|_=>none
 keep:=λf i=>match f,i with|86,0=>([1,2,3,4,6,7,9,38,39,40],[0,1,2,3,4],[])|_,_=>([],[],[])
 keepE:=λf i=>match f,i with|86,0=>([1,2,3,4,6,7,9,38,39,40],[0,1,2,3,4],[])|_,_=>([],[],[])
 keepR:=λf i=>match f,i with|86,0=>([2,3],[0,1,2,3,4],[2,3])|_,_=>([],[],[])
 L:=λf i b st=>match f,i,b with|86,0,0=>(matchSt z165.l0sh st).bind z165.l0pack|_,_,_=>none
def z165.dec:V->Option (J2×Int)
 |(.tup [(.recs _ 8 x0),(.int .i64 x1)])=>some (x0,x1)
 |_=>none
theorem z165.l0_link (R:Type) (k:Env×Store->Option R) (d:X×Env×Store->Option R) (a:Int) (c e:J2) (g h:Int) (j m:J1) (n p q r t u v w:Int) (x:J2) (y:J0) (z:Bool) (A:J0) (B:Bool) (D:J2) :
  z165.C.loopP 86 0 (Qg 0 (ifun Tryz.f86).body) 5 k d (Qb z165.l0sh [.i a,.lr c,.lr e,.i g,.i h,.s j,.s m,.i n,.i p,.i q,.i r,.i t,.i u,.i v,.i w,.lr x,.li y,.b z,.li A,.b B,.lr D]) =
  z165.l0P c e g j m n p q r t u v w y z (λx'=>k (Qb z165.l0sh [.i a,.lr c,.lr e,.i g,.i x'.1,.s j,.s m,.i n,.i p,.i q,.i r,.i t,.i u,.i v,.i w,.lr x,.li y,.b z,.li x'.2.1,.b x'.2.2.1,.lr x'.2.2.2])) (λo=>match o with | .inl o=>d (z165.l0out0 a c e g h j m n p q r t u v w x y z A B D o) | .inr o=>d (z165.l0out1 a c e g h j m n p q r t u v w x y z A B D o)) (h,A,B,D):=by kernel_rfl
theorem z165.link (a0 a1:J1) (a2 a3 a4 a5 a6 a7 a8 a9:Int):z165.C.evTop 86 (ifun Tryz.f86) [(.agg [(.str a0),(.str a1),(.int .i64 a2),(.int .i64 a3),(.int .i64 a4),(.int .i64 a5),(.int .i64 a6),(.int .i64 a7),(.int .i64 a8),(.int .i64 a9)])] z165.dec=z165.F a0 a1 a2 a3 a4 a5 a6 a7 a8 a9:=by kernel_rfl
def z172.C:Ctx where
 T:=tab
 call:=λg args=>match g with|282=>z171.pack args|220=>z146.pack args|_=>none
theorem z172.link (a0:J0) (a1:Bool) (a2 a3:J0) (a4:Bool) (a5:J0):z172.C.evTop 272 (ifun Tryz.f272) [(.agg [(.ints false .i64 a0),(.bool a1),(.ints false .i64 a2)]),(.agg [(.ints false .i64 a3),(.bool a4),(.ints false .i64 a5)])] z117.dec=z172.F a0 a1 a2 a3 a4 a5:=by kernel_rfl
def z174.C:Ctx where
 T:=tab
 call:=λg args=>match g with|60=>z9.pack args|240=>z169.pack args|167=>z149.pack args|241=>z173.pack args|155=>z151.pack args|_=>none
theorem z174.link (a0:J0) (a1:Bool) (a2:J1) (a3 a4 a5:Int):z174.C.evTop 177 (ifun Tryz.f177) [(.agg [(.ints false .i64 a0),(.bool a1)]),(.str a2),(.int .i64 a3),(.int .i64 a4),(.int .i64 a5)] z102.dec=z174.F a0 a1 a2 a3 a4 a5:=by kernel_rfl
def z175.C:Ctx where
 T:=tab
 call:=λg args=>match g with|60=>z9.pack args|205=>z116.pack args|155=>z151.pack args|_=>none
theorem z175.link (a0:J0) (a1:Bool) (a2 a3:Int):z175.C.evTop 178 (ifun Tryz.f178) [(.agg [(.ints false .i64 a0),(.bool a1)]),(.int .i64 a2),(.int .i64 a3)] z102.dec=z175.F a0 a1 a2 a3:=by kernel_rfl
end
noncomputable section
def z7.C:Ctx where
 T:=tab
theorem z7.link (a0:J0) (a1:Bool):z7.C.evTop 113 (ifun Tryz.f113) [(.ints false .i64 a0),(.bool a1)] z9.dec=z7.F a0 a1:=by kernel_rfl
def z12.C:Ctx where
 T:=tab
 call:=λg args=>match g with|153=>z11.pack args|_=>none
def z12.dec:V->Option (Int×Int×Int)
 |(.agg [(.int .i64 x0),(.int .i64 x1),(.int .i64 x2)])=>some (x0,x1,x2)
 |_=>none
theorem z12.link (a0 a1 a2 a3:Int):z12.C.evTop 95 (ifun Tryz.f95) [(.agg [(.int .i64 a0),(.int .i64 a1),(.int .i64 a2)]),(.int .i64 a3)] z12.dec=z12.F a0 a1 a2 a3:=by kernel_rfl
def z13.C:Ctx where
 T:=tab
theorem z13.link (a0:J0) (a1:Int):z13.C.evTop 234 (ifun Tryz.f234) [(.ints false .i64 a0),(.int .i64 a1)] z28.dec=z13.F a0 a1:=by kernel_rfl
def z19.C:Ctx where
 T:=tab
theorem z19.link (a0:J0):z19.C.evTop 104 (ifun Tryz.f104) [(.agg [(.ints false .u64 a0)])] z10.dec=z19.F a0:=by kernel_rfl
def z22.C:Ctx where
 T:=tab
def z22.dec:V->Option (Int)
 |(.int .u64 x0)=>some x0
 |_=>none
theorem z22.link (a0:J0) (a1:Int):z22.C.evTop 184 (ifun Tryz.f184) [(.agg [(.ints false .u64 a0)]),(.int .i64 a1)] z22.dec=z22.F a0 a1:=by kernel_rfl
def z27.C:Ctx where
 T:=tab
theorem z27.link (a0:Int):z27.C.evTop 273 (ifun Tryz.f273) [(.int .u64 a0)] z10.dec=z27.F a0:=by kernel_rfl
def z29.l0sh:Env×Store:=(.undef :: .undef::(.ptr 0 0)::(.ptr 1 0)::(.int .i64 0) :: .undef::(.int .i64 0)::un 33 [],[(.cells 37 [(.ints false .u64 [])]),(.cells 37 [(.ints false .u64 [])])])
def z29.l0so1:Env×Store:=(un 4 ((.int .i64 0)::un 35 []),[(.cells 37 [(.ints false .u64 [])]),(.cells 37 [(.ints false .u64 [])])])
def z29.l0out0 (a b:Int) (c d:J0) (o:Int):X×Env×Store:=((.exit 0),Qb z29.l0sh [.i a,.i o,.li c,.li d])
def z29.l0out1 (a b:Int) (c d:J0) (o:Int):X×Env×Store:=(.ret,Qb z29.l0so1 [.i o,.li c,.li d])
def z29.l0pack:List Leaf->Option LPack
 |[.i a,.i b,.li c,.li d]=>some (.two _ _ (z29.l0 c d b) (z29.l0out0 a b c d) (z29.l0out1 a b c d))
 |_=>none
def z29.C:Ctx where
 T:=tab
 draws:=λf i=>match f,i with|186,7=>([(27,[(2,0)],0),(28,[(26,1)],1),(29,[(6,0)],0),(30,[(27,2),(28,3)],7),(31,[(29,4)],15),(32,[(3,0)],0),(33,[(31,6)],32),(34,[(6,0)],0),(35,[(32,7),(33,8)],224),(36,[(34,9)],480),(37,[(30,5),(35,10)],1023),(8,[(36,11)],2047)],137371844736)|_,_=>([],0)
 call:=λg args=>match g with|146=>z26.pack args|245=>z28.pack args|_=>none
 keep:=λf i=>match f,i with|186,0=>([2,3,4,6],[0,1],[])|_,_=>([],[],[])
 keepE:=λf i=>match f,i with|186,0=>([2,3,4,6],[0,1],[])|_,_=>([],[],[])
 keepR:=λf i=>match f,i with|186,0=>([4],[0,1],[4])|_,_=>([],[],[])
 L:=λf i b st=>match f,i,b with|186,0,0=>(matchSt z29.l0sh st).bind z29.l0pack|_,_,_=>none
theorem z29.l0_link (R:Type) (k:Env×Store->Option R) (d:X×Env×Store->Option R) (a b:Int) (c e:J0) :
  z29.C.loopP 186 0 (Qg 0 (ifun Tryz.f186).body) 2 k d (Qb z29.l0sh [.i a,.i b,.li c,.li e]) =
  z29.l0P c e (λx'=>k (Qb z29.l0sh [.i a,.i x',.li c,.li e])) (λo=>match o with | .inl o=>d (z29.l0out0 a b c e o) | .inr o=>d (z29.l0out1 a b c e o)) b:=by kernel_rfl
theorem z29.link (a0 a1:J0):z29.C.evTop 186 (ifun Tryz.f186) [(.agg [(.ints false .u64 a0)]),(.agg [(.ints false .u64 a1)])] z28.dec=z29.F a0 a1:=by kernel_rfl
def z35.C:Ctx where
 T:=tab
theorem z35.link (a0 a1:J1):z35.C.evTop 260 (ifun Tryz.f260) [(.str a0),(.str a1)] z10.dec=z35.F a0 a1:=by kernel_rfl
def z36.C:Ctx where
 T:=tab
 call:=λg args=>match g with|260=>z35.pack args|_=>none
def z36.dec:V->Option (J1×Bool)
 |(.tup [(.str x0),(.bool x1)])=>some (x0,x1)
 |_=>none
theorem z36.link (a0 a1:J1):z36.C.evTop 223 (ifun Tryz.f223) [(.str a0),(.str a1)] z36.dec=z36.F a0 a1:=by kernel_rfl
def z37.C:Ctx where
 T:=tab
 call:=λg args=>match g with|223=>z36.pack args|_=>none
theorem z37.link (a0 a1:J1):z37.C.evTop 160 (ifun Tryz.f160) [(.str a0),(.str a1)] z36.dec=z37.F a0 a1:=by kernel_rfl
def z43.l0sh:Env×Store:=(.undef::(.int .i64 0)::(.ptr 0 0) :: .undef::(.ptr 1 0)::(.ptr 2 0)::un 18 [],[(.cells 37 [(.ints false .u64 [])]),(.cells 37 [(.ints false .u64 [])]),(.cells 37 [(.ints false .u64 [])])])
def z43.l0out0 (a:Int) (b c d:J0) (o:Int×J0×J0):X×Env×Store:=((.exit 0),Qb z43.l0sh [.i o.1,.li o.2.1,.li c,.li o.2.2])
def z43.l0pack:List Leaf->Option LPack
 |[.i a,.li b,.li c,.li d]=>some (.one _ (z43.l0 (a,b,d)) (z43.l0out0 a b c d))
 |_=>none
def z43.C:Ctx where
 T:=tab
 call:=λg args=>match g with|158=>z38.pack args|164=>z40.pack args|_=>none
 keep:=λf i=>match f,i with|247,0=>([1,2,4,5],[0,1,2],[])|_,_=>([],[],[])
 keepE:=λf i=>match f,i with|247,0=>([1,2,4,5],[0,1,2],[])|_,_=>([],[],[])
 keepR:=λf i=>match f,i with|247,0=>([4],[0,1,2],[4])|_,_=>([],[],[])
 L:=λf i b st=>match f,i,b with|247,0,0=>(matchSt z43.l0sh st).bind z43.l0pack|_,_,_=>none
theorem z43.l0_link (R:Type) (k:Env×Store->Option R) (d:X×Env×Store->Option R) (a:Int) (b c e:J0) :
  z43.C.loopP 247 0 (Qg 0 (ifun Tryz.f247).body) 3 k d (Qb z43.l0sh [.i a,.li b,.li c,.li e]) =
  z43.l0P (λx'=>k (Qb z43.l0sh [.i x'.1,.li x'.2.1,.li c,.li x'.2.2])) (λo=>d (z43.l0out0 a b c e o)) (a,b,e):=by kernel_rfl
theorem z43.link (a0:J0) (a1:Int):z43.C.evTop 247 (ifun Tryz.f247) [(.agg [(.ints false .u64 a0)]),(.int .i64 a1)] z23.dec=z43.F a0 a1:=by kernel_rfl
def z50.C:Ctx where
 T:=tab
 draws:=λf i=>match f,i with|248,3=>([(14,[(0,0)],0),(15,[(7,0)],0),(16,[(13,1),(14,2)],3),(17,[(0,0)],0),(18,[(7,0)],0),(19,[(1,0)],0),(20,[(18,6)],32),(21,[(17,5),(19,7)],112),(22,[(16,4),(20,8)],248),(5,[(15,3)],7),(6,[(21,9)],1023),(7,[],2047)],4186224)|_,_=>([],0)
 call:=λg args=>match g with|160=>z37.pack args|199=>z49.pack args|200=>z3.pack args|201=>z4.pack args|161=>z41.pack args|91=>z21.pack args|290=>z2.pack args|_=>none
 inl:=λg=>match g with|198=>some (ifun Tryz.f198)|248=>some (ifun Tryz.f248)|275=>some (ifun Tryz.f275)|283=>some (ifun Tryz.f283)|_=>none
 rank:=λg=>match g with|198=>3|248=>2|275=>1|_=>0
def z50.dec:V->Option (J0×Bool×Int×Int)
 |(.tup [(.agg [(.ints _ .u64 x0),(.bool x1),(.int .i64 x2)]),(.int .i64 x3)])=>some (x0,x1,x2,x3)
 |_=>none
theorem z50.link (a0:J1):z50.C.evTop 118 (ifun Tryz.f118) [(.str a0)] z50.dec=z50.F a0:=by kernel_rfl
def z52.C:Ctx where
 T:=tab
 call:=λg args=>match g with|202=>z51.pack args|_=>none
theorem z52.link (a0:J0) (a1:Bool) (a2:Int):z52.C.evTop 119 (ifun Tryz.f119) [(.agg [(.ints false .u64 a0),(.bool a1)]),(.int .i64 a2)] z50.dec=z52.F a0 a1 a2:=by kernel_rfl
def z57.C:Ctx where
 T:=tab
 draws:=λf i=>match f,i with|121,2=>([(12,[(2,0)],0),(13,[(5,0)],0),(14,[(11,1),(12,2)],3),(15,[(3,0)],0),(16,[(5,0)],0),(17,[(14,4),(15,5)],31),(18,[(13,3),(16,6)],63),(5,[(17,7)],127)],260112)|_,_=>([],0)
 call:=λg args=>match g with|203=>z56.pack args|74=>z34.pack args|_=>none
theorem z57.link (a0:J0) (a1:Bool) (a2:Int) (a3:J0) (a4:Bool) (a5:Int):z57.C.evTop 121 (ifun Tryz.f121) [(.agg [(.ints false .u64 a0),(.bool a1),(.int .i64 a2)]),(.agg [(.ints false .u64 a3),(.bool a4),(.int .i64 a5)])] z28.dec=z57.F a0 a1 a2 a3 a4 a5:=by kernel_rfl
def z63.l0b8sh:Env×Store:=(.undef :: .undef::(.int .u64 0)::un 3 ((.int .u64 0)::(.int .u64 0)::(.int .u64 0)::(.int .u64 0)::(.int .u64 0)::(.int .u64 0) :: .undef::(.int .u64 0)::(.int .u64 0)::(.int .u64 0)::(.int .u64 0)::un 118 []),[])
def z63.l0b8out0 (a b c d e g h j k m n:Int) (o:Int×Int):X×Env×Store:=((.exit 0),Qb z63.l0b8sh [.i a,.i b,.i c,.i d,.i e,.i g,.i h,.i j,.i k,.i o.1,.i o.2])
def z63.l0b8pack:List Leaf->Option LPack
 |[.i a,.i b,.i c,.i d,.i e,.i g,.i h,.i j,.i k,.i m,.i n]=>some (.one _ (z63.l0b8 e g j (m,n)) (z63.l0b8out0 a b c d e g h j k m n))
 |_=>none
def z63.l2b8sh:Env×Store:=(.undef :: .undef::(.int .u64 0)::un 3 ((.int .u64 0)::(.int .u64 0)::(.int .u64 0)::(.int .u64 0)::(.int .u64 0)::un 3 ((.int .u64 0)::(.int .u64 0)::(.int .u64 0)::(.int .u64 0)::(.int .u64 0)::un 116 [])),[])
def z63.l2b8out0 (a b c d e g h j k m n:Int) (o:Int×Int):X×Env×Store:=((.exit 2),Qb z63.l2b8sh [.i a,.i b,.i c,.i d,.i e,.i g,.i h,.i j,.i o.1,.i m,.i o.2])
def z63.l2b8pack:List Leaf->Option LPack
 |[.i a,.i b,.i c,.i d,.i e,.i g,.i h,.i j,.i k,.i m,.i n]=>some (.one _ (z63.l2b8 e g h (k,n)) (z63.l2b8out0 a b c d e g h j k m n))
 |_=>none
def z63.C:Ctx where
 T:=tab
 draws:=λf i=>match f,i with|261,6=>([(29,[(1,0)],0),(30,[(2,0)],0),(31,[(28,1),(29,2)],3),(32,[(1,0)],0),(33,[(2,0)],0),(34,[(31,4),(32,5)],24),(7,[(30,3)],7),(8,[(33,6)],127)],16911433920)|_,_=>([],0)
 call:=λg args=>match g with|262=>z62.pack args|_=>none
 keep:=λf i=>match f,i with|261,0=>([2,6,7,8,9,10,11,13,14,15,16,105,106,107,108,109,110,111,112],[],[])|261,2=>([2,6,7,8,9,10,14,15,16,17,18],[],[])|_,_=>([],[],[])
 keepE:=λf i=>match f,i with|261,0=>([2,6,7,8,9,10,11,13,14,15,16,105,106,107,108,109,110,111,112],[],[])|261,2=>([2,6,7,8,9,10,14,15,16,17,18],[],[])|_,_=>([],[],[])
 keepR:=λf i=>match f,i with|261,0=>([6,7],[],[6,7])|261,2=>([6,7],[],[6,7])|_,_=>([],[],[])
 L:=λf i b st=>match f,i,b with|261,0,0=>(matchSt z63.l0b8sh st).bind z63.l0b8pack|261,2,0=>(matchSt z63.l2b8sh st).bind z63.l2b8pack|_,_,_=>none
theorem z63.l0b8_link (R:Type) (k:Env×Store->Option R) (d:X×Env×Store->Option R) (a b c e g h j m n p q:Int) :
  z63.C.loopP 261 0 (Qg 0 (ifun Tryz.f261).body) 0 k d (Qb z63.l0b8sh [.i a,.i b,.i c,.i e,.i g,.i h,.i j,.i m,.i n,.i p,.i q]) =
  z63.l0b8P g h m (λx'=>k (Qb z63.l0b8sh [.i a,.i b,.i c,.i e,.i g,.i h,.i j,.i m,.i n,.i x'.1,.i x'.2])) (λo=>d (z63.l0b8out0 a b c e g h j m n p q o)) (p,q):=by kernel_rfl
theorem z63.l2b8_link (R:Type) (k:Env×Store->Option R) (d:X×Env×Store->Option R) (a b c e g h j m n p q:Int) :
  z63.C.loopP 261 2 (Qg 2 (ifun Tryz.f261).body) 0 k d (Qb z63.l2b8sh [.i a,.i b,.i c,.i e,.i g,.i h,.i j,.i m,.i n,.i p,.i q]) =
  z63.l2b8P g h j (λx'=>k (Qb z63.l2b8sh [.i a,.i b,.i c,.i e,.i g,.i h,.i j,.i m,.i x'.1,.i p,.i x'.2])) (λo=>d (z63.l2b8out0 a b c e g h j m n p q o)) (n,q):=by kernel_rfl
theorem z63.link (a0 a1 a2:Int):z63.C.evTop 261 (ifun Tryz.f261) [(.int .u64 a0),(.int .u64 a1),(.int .u64 a2)] z39.dec=z63.F a0 a1 a2:=by kernel_rfl
def z64.l0sh:Env×Store:=((.ints false .u64 [])::(.int .u64 0) :: .undef :: .undef::(.sref 0 0)::(.int .u64 0)::(.sref 1 0)::(.int .u64 0)::(.int .i64 0)::un 25 [],[(.arr 0 true 79 (.ints false .u64 [])),(.arr 0 false 79 (.ints false .u64 []))])
def z64.l0out0 (a:J0) (b c d e:Int) (g h:J0) (o:Int×Int×J0):X×Env×Store:=((.exit 0),Qb z64.l0sh [.li a,.i b,.i c,.i o.1,.i o.2.1,.li g,.li o.2.2])
def z64.l0pack:List Leaf->Option LPack
 |[.li a,.i b,.i c,.i d,.i e,.li g,.li h]=>some (.one _ (z64.l0 a b (d,e,h)) (z64.l0out0 a b c d e g h))
 |_=>none
def z64.C:Ctx where
 T:=tab
 call:=λg args=>match g with|261=>z63.pack args|_=>none
 keep:=λf i=>match f,i with|224,0=>([0,1,4,5,6,7,8],[0,1],[])|_,_=>([],[],[])
 keepE:=λf i=>match f,i with|224,0=>([0,1,4,5,6,7,8],[0,1],[])|_,_=>([],[],[])
 keepR:=λf i=>match f,i with|224,0=>([4,5],[0,1],[4,5])|_,_=>([],[],[])
 L:=λf i b st=>match f,i,b with|224,0,0=>(matchSt z64.l0sh st).bind z64.l0pack|_,_,_=>none
def z64.dec:V->Option (J0×Int)
 |(.tup [(.ints _ .u64 x0),(.int .u64 x1)])=>some (x0,x1)
 |_=>none
theorem z64.l0_link (R:Type) (k:Env×Store->Option R) (d:X×Env×Store->Option R) (a:J0) (b c e g:Int) (h j:J0) :
  z64.C.loopP 224 0 (Qg 0 (ifun Tryz.f224).body) 2 k d (Qb z64.l0sh [.li a,.i b,.i c,.i e,.i g,.li h,.li j]) =
  z64.l0P a b (λx'=>k (Qb z64.l0sh [.li a,.i b,.i c,.i x'.1,.i x'.2.1,.li h,.li x'.2.2])) (λo=>d (z64.l0out0 a b c e g h j o)) (e,g,j):=by kernel_rfl
theorem z64.link (a0:J0) (a1:Int):z64.C.evTop 224 (ifun Tryz.f224) [(.ints false .u64 a0),(.int .u64 a1)] z64.dec=z64.F a0 a1:=by kernel_rfl
def z70.C:Ctx where
 T:=tab
 draws:=λf i=>match f,i with|163,1=>([(15,[(2,0)],0),(16,[(14,1)],1),(17,[(3,0)],0),(18,[(15,2),(16,3)],7),(6,[],0),(0,[(5,5),(17,4)],31)],245792)|163,2=>([(20,[(2,0)],0),(21,[(19,1)],1),(22,[(5,0)],0),(23,[(20,2),(21,3)],7),(19,[(22,4)],15),(24,[(18,5)],31),(25,[(18,5)],31),(26,[(18,5)],31),(7,[],0),(8,[],0),(0,[(6,9),(23,6)],831),(0,[(7,10),(24,7)],1919),(9,[(25,8)],4095)],66847168)|163,4=>([(35,[(9,0)],0),(36,[],0),(37,[(35,2)],2),(38,[(34,1),(36,3)],7),(34,[(37,4)],15),(39,[(33,5)],31),(40,[(33,5)],31),(13,[],0),(0,[(12,8),(38,6)],191),(14,[(39,7)],511)],1090921705472)|163,5=>([(41,[(6,0)],0),(42,[(2,0)],0),(43,[(41,2)],2),(44,[(42,3)],6),(45,[(40,1),(43,4)],15),(46,[(12,0)],0),(47,[(44,5),(45,6)],63),(0,[(4,0),(46,7)],127)],139637976727552)|_,_=>([],0)
 call:=λg args=>match g with|92=>z59.pack args|226=>z69.pack args|162=>z68.pack args|158=>z38.pack args|100=>z30.pack args|28=>z20.pack args|91=>z21.pack args|_=>none
theorem z70.link (a0:J0) (a1:Bool) (a2:J0):z70.C.evTop 163 (ifun Tryz.f163) [(.agg [(.ints false .u64 a0),(.bool a1)]),(.agg [(.ints false .u64 a2)])] z139.dec=z70.F a0 a1 a2:=by kernel_rfl
def z71.C:Ctx where
 T:=tab
 draws:=λf i=>match f,i with|176,6=>([(16,[(2,0)],0),(17,[(3,0)],0),(18,[(16,2)],2),(19,[(15,1),(17,3)],7),(0,[(4,0),(18,4)],15),(6,[],31)],491552)|_,_=>([],0)
 call:=λg args=>match g with|28=>z20.pack args|110=>z32.pack args|92=>z59.pack args|163=>z70.pack args|_=>none
theorem z71.link (a0:J0) (a1:Bool) (a2:J0) (a3:Bool):z71.C.evTop 176 (ifun Tryz.f176) [(.agg [(.ints false .u64 a0),(.bool a1)]),(.agg [(.ints false .u64 a2),(.bool a3)])] z75.dec=z71.F a0 a1 a2 a3:=by kernel_rfl
def z81.C:Ctx where
 T:=tab
 call:=λg args=>match g with|214=>z79.pack args|215=>z80.pack args|_=>none
theorem z81.link (a0:Int):z81.C.evTop 149 (ifun Tryz.f149) [(.int .i64 a0)] z17.dec=z81.F a0:=by kernel_rfl
def z83.C:Ctx where
 T:=tab
theorem z83.link:z83.C.evTop 257 (ifun Tryz.f257) [] z77.dec=z83.F:=by kernel_rfl
def z84.C:Ctx where
 T:=tab
 call:=λg args=>match g with|228=>z82.pack args|257=>z83.pack args|_=>none
theorem z84.link (a0:Int):z84.C.evTop 209 (ifun Tryz.f209) [(.int .i64 a0)] z17.dec=z84.F a0:=by kernel_rfl
def z91.C:Ctx where
 T:=tab
 call:=λg args=>match g with|36=>z46.pack args|28=>z20.pack args|38=>z76.pack args|133=>z85.pack args|134=>z90.pack args|_=>none
theorem z91.link (a0 a1:J1) (a2 a3 a4 a5 a6 a7 a8 a9:Int):z91.C.evTop 44 (ifun Tryz.f44) [(.agg [(.str a0),(.str a1),(.int .i64 a2),(.int .i64 a3),(.int .i64 a4),(.int .i64 a5),(.int .i64 a6),(.int .i64 a7),(.int .i64 a8),(.int .i64 a9)])] z28.dec=z91.F a0 a1 a2 a3 a4 a5 a6 a7 a8 a9:=by kernel_rfl
def z93.C:Ctx where
 T:=tab
 call:=λg args=>match g with|44=>z91.pack args|138=>z92.pack args|_=>none
theorem z93.link (a0 a1:J1) (a2 a3 a4 a5 a6 a7 a8 a9:Int):z93.C.evTop 48 (ifun Tryz.f48) [(.agg [(.str a0),(.str a1),(.int .i64 a2),(.int .i64 a3),(.int .i64 a4),(.int .i64 a5),(.int .i64 a6),(.int .i64 a7),(.int .i64 a8),(.int .i64 a9)])] z92.dec=z93.F a0 a1 a2 a3 a4 a5 a6 a7 a8 a9:=by kernel_rfl
def z94.l0sh:Env×Store:=(.undef :: .undef::(.sref 1 0)::(.int .i64 0) :: .undef :: .undef::(.sref 2 0)::(.ptr 3 0)::un 12 ((.recs false 3 [])::(.int .i64 0)::(.int .i64 0)::un 12 []),[.dead,(.arr 0 true 109 (.recs false 6 [])),(.arr 0 true 109 (.recs false 6 [])),(.cells 41 [(.int .i64 0),(.int .i64 0),(.int .i64 0)])])
def z94.l0out0 (a:Int) (b:J2) (c d:Int) (e g:J2) (h j k:Int) (o:Int×J2×Int×Int×Int):X×Env×Store:=((.exit 0),Qb z94.l0sh [.i a,.lr b,.i c,.i o.1,.lr e,.lr o.2.1,.i o.2.2.1,.i o.2.2.2.1,.i o.2.2.2.2])
def z94.l0pack:List Leaf->Option LPack
 |[.i a,.lr b,.i c,.i d,.lr e,.lr g,.i h,.i j,.i k]=>some (.one _ (z94.l0 b c (d,g,h,j,k)) (z94.l0out0 a b c d e g h j k))
 |_=>none
def z94.C:Ctx where
 T:=tab
 call:=λg args=>match g with|48=>z93.pack args|_=>none
 keep:=λf i=>match f,i with|49,0=>([2,3,6,7,20,21,22],[1,2,3],[])|_,_=>([],[],[])
 keepE:=λf i=>match f,i with|49,0=>([2,3,6,7,20,21,22],[1,2,3],[])|_,_=>([],[],[])
 keepR:=λf i=>match f,i with|49,0=>([2,3],[1,2,3],[2,3])|_,_=>([],[],[])
 L:=λf i b st=>match f,i,b with|49,0,0=>(matchSt z94.l0sh st).bind z94.l0pack|_,_,_=>none
def z94.dec:V->Option (J2×Int)
 |(.tup [(.recs _ 6 x0),(.int .i64 x1)])=>some (x0,x1)
 |_=>none
theorem z94.l0_link (R:Type) (k:Env×Store->Option R) (d:X×Env×Store->Option R) (a:Int) (b:J2) (c e:Int) (g h:J2) (j m n:Int) :
  z94.C.loopP 49 0 (Qg 0 (ifun Tryz.f49).body) 4 k d (Qb z94.l0sh [.i a,.lr b,.i c,.i e,.lr g,.lr h,.i j,.i m,.i n]) =
  z94.l0P b c (λx'=>k (Qb z94.l0sh [.i a,.lr b,.i c,.i x'.1,.lr g,.lr x'.2.1,.i x'.2.2.1,.i x'.2.2.2.1,.i x'.2.2.2.2])) (λo=>d (z94.l0out0 a b c e g h j m n o)) (e,h,j,m,n):=by kernel_rfl
theorem z94.link (a0 a1:J1) (a2 a3 a4 a5 a6 a7 a8 a9:Int):z94.C.evTop 49 (ifun Tryz.f49) [(.agg [(.str a0),(.str a1),(.int .i64 a2),(.int .i64 a3),(.int .i64 a4),(.int .i64 a5),(.int .i64 a6),(.int .i64 a7),(.int .i64 a8),(.int .i64 a9)])] z94.dec=z94.F a0 a1 a2 a3 a4 a5 a6 a7 a8 a9:=by kernel_rfl
def z103.l0sh:Env×Store:=((.int .i64 0) :: .undef::(.sref 0 0)::(.str ([]:J1))::(.int .i64 0)::un 9 [],[(.arr 0 true 3 (.ints false .i64 []))])
def z103.l0out0 (a:Int) (b:J1) (c:Int) (d:J0) (o:J1×Int):X×Env×Store:=((.exit 0),Qb z103.l0sh [.i a,.s o.1,.i o.2,.li d])
def z103.l0pack:List Leaf->Option LPack
 |[.i a,.s b,.i c,.li d]=>some (.one _ (z103.l0 a (b,c)) (z103.l0out0 a b c d))
 |_=>none
def z103.C:Ctx where
 T:=tab
 call:=λg args=>match g with|192=>z99.pack args|_=>none
 keep:=λf i=>match f,i with|116,0=>([0,2,3,4],[0],[])|_,_=>([],[],[])
 keepE:=λf i=>match f,i with|116,0=>([0,2,3,4],[0],[])|_,_=>([],[],[])
 keepR:=λf i=>match f,i with|116,0=>([2],[0],[2])|_,_=>([],[],[])
 L:=λf i b st=>match f,i,b with|116,0,0=>(matchSt z103.l0sh st).bind z103.l0pack|_,_,_=>none
theorem z103.l0_link (R:Type) (k:Env×Store->Option R) (d:X×Env×Store->Option R) (a:Int) (b:J1) (c:Int) (e:J0) :
  z103.C.loopP 116 0 (Qg 0 (ifun Tryz.f116).body) 1 k d (Qb z103.l0sh [.i a,.s b,.i c,.li e]) =
  z103.l0P a (λx'=>k (Qb z103.l0sh [.i a,.s x'.1,.i x'.2,.li e])) (λo=>d (z103.l0out0 a b c e o)) (b,c):=by kernel_rfl
theorem z103.link (a0:Int):z103.C.evTop 116 (ifun Tryz.f116) [(.int .i64 a0)] z15.dec=z103.F a0:=by kernel_rfl
def z108.C:Ctx where
 T:=tab
 call:=λg args=>match g with|170=>z105.pack args|113=>z7.pack args|171=>z106.pack args|172=>z107.pack args|_=>none
theorem z108.link (a0:J0) (a1:Bool) (a2:J0) (a3:Bool):z108.C.evTop 85 (ifun Tryz.f85) [(.agg [(.ints false .i64 a0),(.bool a1)]),(.agg [(.ints false .i64 a2),(.bool a3)])] z9.dec=z108.F a0 a1 a2 a3:=by kernel_rfl
def z109.C:Ctx where
 T:=tab
 call:=λg args=>match g with|35=>z104.pack args|85=>z108.pack args|_=>none
theorem z109.link (a0:J0) (a1:Bool) (a2:J0) (a3:Bool):z109.C.evTop 63 (ifun Tryz.f63) [(.agg [(.ints false .i64 a0),(.bool a1)]),(.agg [(.ints false .i64 a2),(.bool a3)])] z9.dec=z109.F a0 a1 a2 a3:=by kernel_rfl
def z115.C:Ctx where
 T:=tab
 call:=λg args=>match g with|256=>z114.pack args|221=>z113.pack args|113=>z7.pack args|_=>none
theorem z115.link (a0:J0) (a1:Bool) (a2:J0):z115.C.evTop 206 (ifun Tryz.f206) [(.agg [(.ints false .i64 a0),(.bool a1)]),(.ints false .i64 a2)] z117.dec=z115.F a0 a1 a2:=by kernel_rfl
def z116.C:Ctx where
 T:=tab
 call:=λg args=>match g with|35=>z104.pack args|206=>z115.pack args|_=>none
theorem z116.link (a0:J0) (a1:Bool) (a2:J0) (a3:Bool):z116.C.evTop 205 (ifun Tryz.f205) [(.agg [(.ints false .i64 a0),(.bool a1)]),(.agg [(.ints false .i64 a2),(.bool a3)])] z117.dec=z116.F a0 a1 a2 a3:=by kernel_rfl
def z118.l0b10sh:Env×Store:=((.str ([]:J1)) :: .undef::(.ptr 0 0)::(.int .i64 0)::(.ptr 1 0)::(.bool false)::(.int .i64 0)::(.str ([]:J1))::(.int .i64 0)::(.int .i64 0)::(.bool false)::un 90 [],[(.cells 213 [(.ints false .i64 []),(.bool false),(.int .i64 0)]),(.cells 213 [(.ints false .i64 []),(.bool false),(.int .i64 0)])])
def z118.l0b10so1:Env×Store:=(.undef :: .undef::(.ptr 0 0)::(.int .i64 0)::un 97 [],[(.cells 213 [(.ints false .i64 []),(.bool false),(.int .i64 0)]),(.cells 213 [(.ints false .i64 []),(.bool false),(.int .i64 0)])])
def z118.l0b10out0 (a:J1) (c:Int) (d:Bool) (e:Int) (g:J1) (h j:Int) (k:Bool) (m:J0) (n:Bool) (p:Int) (q:J0) (r:Bool) (t:Int) (o:Int×J1×Int×Int×Bool):X×Env×Store:=((.exit 0),Qb z118.l0b10sh [.s a,.i c,.b d,.i o.1,.s o.2.1,.i o.2.2.1,.i o.2.2.2.1,.b o.2.2.2.2,.li m,.b n,.i p,.li q,.b r,.i t])
def z118.l0b10out1 (a:J1) (c:Int) (d:Bool) (e:Int) (g:J1) (h j:Int) (k:Bool) (m:J0) (n:Bool) (p:Int) (q:J0) (r:Bool) (s o:Int):X×Env×Store:=(.ret,Qb z118.l0b10so1 [.i o,.li q,.b r,.i s,.li q,.b r,.i s])
def z118.l0b10pack:List Leaf->Option LPack
 |[.s a,.i c,.b d,.i e,.s g,.i h,.i j,.b k,.li m,.b n,.i o,.li p,.b q,.i r]=>some (.two _ _ (z118.l0b10 a (e,g,h,j,k)) (z118.l0b10out0 a c d e g h j k m n o p q r) (z118.l0b10out1 a c d e g h j k m n o p q r))
 |_=>none
def z118.C:Ctx where
 T:=tab
 call:=λg args=>match g with|192=>z99.pack args|113=>z7.pack args|_=>none
 keep:=λf i=>match f,i with|126,0=>([0,2,3,4,5,6,7,8,9,10,70,71,74,75,76,77,78,79,80,83,84,85,86],[0,1],[])|_,_=>([],[],[])
 keepE:=λf i=>match f,i with|126,0=>([0,2,3,4,5,6,7,8,9,10,70,71,74,75,76,77,78,79,80,83,84,85,86],[0,1],[])|_,_=>([],[],[])
 keepR:=λf i=>match f,i with|126,0=>([2,3],[0,1],[2,3])|_,_=>([],[],[])
 L:=λf i b st=>match f,i,b with|126,0,0=>(matchSt z118.l0b10sh st).bind z118.l0b10pack|_,_,_=>none
def z118.dec:V->Option (J0×Bool×Int×Int)
 |(.tup [(.agg [(.ints _ .i64 x0),(.bool x1),(.int .i64 x2)]),(.int .i64 x3)])=>some (x0,x1,x2,x3)
 |_=>none
theorem z118.l0b10_link (R:Type) (k:Env×Store->Option R) (d:X×Env×Store->Option R) (a:J1) (c:Int) (e:Bool) (g:Int) (h:J1) (j m:Int) (n:Bool) (p:J0) (q:Bool) (r:Int) (t:J0) (u:Bool) (v:Int) :
  z118.C.loopP 126 0 (Qg 0 (ifun Tryz.f126).body) 2 k d (Qb z118.l0b10sh [.s a,.i c,.b e,.i g,.s h,.i j,.i m,.b n,.li p,.b q,.i r,.li t,.b u,.i v]) =
  z118.l0b10P a (λx'=>k (Qb z118.l0b10sh [.s a,.i c,.b e,.i x'.1,.s x'.2.1,.i x'.2.2.1,.i x'.2.2.2.1,.b x'.2.2.2.2,.li p,.b q,.i r,.li t,.b u,.i v])) (λo=>match o with | .inl o=>d (z118.l0b10out0 a c e g h j m n p q r t u v o) | .inr o=>d (z118.l0b10out1 a c e g h j m n p q r t u v o)) (g,h,j,m,n):=by kernel_rfl
theorem z118.link (a0:J1):z118.C.evTop 126 (ifun Tryz.f126) [(.str a0)] z118.dec=z118.F a0:=by kernel_rfl
def z124.C:Ctx where
 T:=tab
 call:=λg args=>match g with|153=>z11.pack args|_=>none
theorem z124.link (a0 a1 a2:Int):z124.C.evTop 80 (ifun Tryz.f80) [(.agg [(.int .i64 a0),(.int .i64 a1),(.int .i64 a2)])] z10.dec=z124.F a0 a1 a2:=by kernel_rfl
def z125.l0sh:Env×Store:=(.undef :: .undef::(.ptr 0 0) :: .undef::(.ptr 1 0)::(.bool false)::(.int .i64 0)::(.int .i64 0)::un 43 [],[(.cells 41 [(.int .i64 0),(.int .i64 0),(.int .i64 0)]),(.cells 41 [(.int .i64 0),(.int .i64 0),(.int .i64 0)])])
def z125.l0out0 (a:Bool) (c d e g h j k m:Int) (o:Int×Int):X×Env×Store:=((.exit 0),Qb z125.l0sh [.b a,.i o.1,.i o.2,.i e,.i g,.i h,.i j,.i k,.i m])
def z125.l0pack:List Leaf->Option LPack
 |[.b a,.i c,.i d,.i e,.i g,.i h,.i j,.i k,.i m]=>some (.one _ (z125.l0 (c,d)) (z125.l0out0 a c d e g h j k m))
 |_=>none
def z125.l2sh:Env×Store:=(.undef :: .undef::(.ptr 0 0) :: .undef::(.ptr 1 0)::(.bool false)::(.int .i64 0)::(.int .i64 0)::un 43 [],[(.cells 41 [(.int .i64 0),(.int .i64 0),(.int .i64 0)]),(.cells 41 [(.int .i64 0),(.int .i64 0),(.int .i64 0)])])
def z125.l2out0 (a:Bool) (c d e g h j k m:Int) (o:Int×Int):X×Env×Store:=((.exit 2),Qb z125.l2sh [.b a,.i o.1,.i o.2,.i e,.i g,.i h,.i j,.i k,.i m])
def z125.l2pack:List Leaf->Option LPack
 |[.b a,.i c,.i d,.i e,.i g,.i h,.i j,.i k,.i m]=>some (.one _ (z125.l2 (c,d)) (z125.l2out0 a c d e g h j k m))
 |_=>none
def z125.C:Ctx where
 T:=tab
 call:=λg args=>match g with|153=>z11.pack args|_=>none
 keep:=λf i=>match f,i with|135,0=>([2,4,5,6,7,37,38],[0,1],[])|135,2=>([2,4,5,6,7,37,38],[0,1],[])|_,_=>([],[],[])
 keepE:=λf i=>match f,i with|135,0=>([2,4,5,6,7,37,38],[0,1],[])|135,2=>([2,4,5,6,7,37,38],[0,1],[])|_,_=>([],[],[])
 keepR:=λf i=>match f,i with|135,0=>([4,5],[0,1],[4,5])|135,2=>([4,5],[0,1],[4,5])|_,_=>([],[],[])
 L:=λf i b st=>match f,i,b with|135,0,0=>(matchSt z125.l0sh st).bind z125.l0pack|135,2,0=>(matchSt z125.l2sh st).bind z125.l2pack|_,_,_=>none
def z125.dec:V->Option (Int×Int×Int×Bool)
 |(.tup [(.agg [(.int .i64 x0),(.int .i64 x1),(.int .i64 x2)]),(.bool x3)])=>some (x0,x1,x2,x3)
 |_=>none
theorem z125.l0_link (R:Type) (k:Env×Store->Option R) (d:X×Env×Store->Option R) (a:Bool) (c e g h j m n p:Int) :
  z125.C.loopP 135 0 (Qg 0 (ifun Tryz.f135).body) 2 k d (Qb z125.l0sh [.b a,.i c,.i e,.i g,.i h,.i j,.i m,.i n,.i p]) =
  z125.l0P (λx'=>k (Qb z125.l0sh [.b a,.i x'.1,.i x'.2,.i g,.i h,.i j,.i m,.i n,.i p])) (λo=>d (z125.l0out0 a c e g h j m n p o)) (c,e):=by kernel_rfl
theorem z125.l2_link (R:Type) (k:Env×Store->Option R) (d:X×Env×Store->Option R) (a:Bool) (c e g h j m n p:Int) :
  z125.C.loopP 135 2 (Qg 2 (ifun Tryz.f135).body) 2 k d (Qb z125.l2sh [.b a,.i c,.i e,.i g,.i h,.i j,.i m,.i n,.i p]) =
  z125.l2P (λx'=>k (Qb z125.l2sh [.b a,.i x'.1,.i x'.2,.i g,.i h,.i j,.i m,.i n,.i p])) (λo=>d (z125.l2out0 a c e g h j m n p o)) (c,e):=by kernel_rfl
theorem z125.link (a0 a1 a2 a3:Int):z125.C.evTop 135 (ifun Tryz.f135) [(.agg [(.int .i64 a0),(.int .i64 a1),(.int .i64 a2)]),(.int .i64 a3)] z125.dec=z125.F a0 a1 a2 a3:=by kernel_rfl
def z141.C:Ctx where
 T:=tab
 call:=λg args=>match g with|140=>z98.pack args|_=>none
theorem z141.link (a0 a1 a2 a3 a4 a5:Int):z141.C.evTop 65 (ifun Tryz.f65) [(.agg [(.int .i64 a0),(.int .i64 a1),(.int .i64 a2)]),(.agg [(.int .i64 a3),(.int .i64 a4),(.int .i64 a5)])] z98.dec=z141.F a0 a1 a2 a3 a4 a5:=by kernel_rfl
def z145.C:Ctx where
 T:=tab
 call:=λg args=>match g with|228=>z82.pack args|142=>z89.pack args|57=>z96.pack args|229=>z140.pack args|231=>z142.pack args|230=>z139.pack args|232=>z144.pack args|_=>none
theorem z145.link (a0 a1 a2 a3 a4 a5 a6:Int):z145.C.evTop 165 (ifun Tryz.f165) [(.int .i64 a0),(.agg [(.int .i64 a1),(.int .i64 a2),(.int .i64 a3)]),(.agg [(.int .i64 a4),(.int .i64 a5),(.int .i64 a6)])] z75.dec=z145.F a0 a1 a2 a3 a4 a5 a6:=by kernel_rfl
def z146.C:Ctx where
 T:=tab
 call:=λg args=>match g with|207=>z120.pack args|85=>z108.pack args|208=>z15.pack args|206=>z115.pack args|_=>none
theorem z146.link (a0:J0) (a1:Bool) (a2 a3:J0) (a4:Bool) (a5:J0):z146.C.evTop 220 (ifun Tryz.f220) [(.agg [(.ints false .i64 a0),(.bool a1),(.ints false .i64 a2)]),(.agg [(.ints false .i64 a3),(.bool a4),(.ints false .i64 a5)])] z117.dec=z146.F a0 a1 a2 a3 a4 a5:=by kernel_rfl
def z147.l0sh:Env×Store:=(.undef::(.ptr 0 0)::(.int .i64 0)::(.int .i64 0)::(.int .i64 0)::un 33 [],[(.cells 41 [(.int .i64 0),(.int .i64 0),(.int .i64 0)])])
def z147.l0out0 (a b c d e g:Int) (o:Int×Int):X×Env×Store:=((.exit 0),Qb z147.l0sh [.i a,.i o.1,.i o.2,.i d,.i e,.i g])
def z147.l0pack:List Leaf->Option LPack
 |[.i a,.i b,.i c,.i d,.i e,.i g]=>some (.one _ (z147.l0 d (b,c)) (z147.l0out0 a b c d e g))
 |_=>none
def z147.l2sh:Env×Store:=(.undef::(.ptr 0 0)::(.int .i64 0)::(.int .i64 0) :: .undef :: .undef::(.int .i64 0)::un 31 [],[(.cells 41 [(.int .i64 0),(.int .i64 0),(.int .i64 0)])])
def z147.l2out0 (a b c d e g:Int) (o:Int×Int):X×Env×Store:=((.exit 2),Qb z147.l2sh [.i a,.i o.1,.i o.2,.i d,.i e,.i g])
def z147.l2pack:List Leaf->Option LPack
 |[.i a,.i b,.i c,.i d,.i e,.i g]=>some (.one _ (z147.l2 d e (b,c)) (z147.l2out0 a b c d e g))
 |_=>none
def z147.C:Ctx where
 T:=tab
 call:=λg args=>match g with|219=>z10.pack args|153=>z11.pack args|_=>none
 keep:=λf i=>match f,i with|233,0=>([1,2,3,4],[0],[])|233,2=>([1,2,3,6],[0],[])|_,_=>([],[],[])
 keepE:=λf i=>match f,i with|233,0=>([1,2,3,4],[0],[])|233,2=>([1,2,3,6],[0],[])|_,_=>([],[],[])
 keepR:=λf i=>match f,i with|233,0=>([2],[0],[2])|233,2=>([2],[0],[2])|_,_=>([],[],[])
 L:=λf i b st=>match f,i,b with|233,0,0=>(matchSt z147.l0sh st).bind z147.l0pack|233,2,0=>(matchSt z147.l2sh st).bind z147.l2pack|_,_,_=>none
theorem z147.l0_link (R:Type) (k:Env×Store->Option R) (d:X×Env×Store->Option R) (a b c e g h:Int) :
  z147.C.loopP 233 0 (Qg 0 (ifun Tryz.f233).body) 1 k d (Qb z147.l0sh [.i a,.i b,.i c,.i e,.i g,.i h]) =
  z147.l0P e (λx'=>k (Qb z147.l0sh [.i a,.i x'.1,.i x'.2,.i e,.i g,.i h])) (λo=>d (z147.l0out0 a b c e g h o)) (b,c):=by kernel_rfl
theorem z147.l2_link (R:Type) (k:Env×Store->Option R) (d:X×Env×Store->Option R) (a b c e g h:Int) :
  z147.C.loopP 233 2 (Qg 2 (ifun Tryz.f233).body) 1 k d (Qb z147.l2sh [.i a,.i b,.i c,.i e,.i g,.i h]) =
  z147.l2P e g (λx'=>k (Qb z147.l2sh [.i a,.i x'.1,.i x'.2,.i e,.i g,.i h])) (λo=>d (z147.l2out0 a b c e g h o)) (b,c):=by kernel_rfl
theorem z147.link (a0 a1 a2:Int):z147.C.evTop 233 (ifun Tryz.f233) [(.agg [(.int .i64 a0),(.int .i64 a1),(.int .i64 a2)])] z28.dec=z147.F a0 a1 a2:=by kernel_rfl
def z149.C:Ctx where
 T:=tab
theorem z149.link (a0:J0) (a1:Bool):z149.C.evTop 167 (ifun Tryz.f167) [(.agg [(.ints false .i64 a0),(.bool a1)])] z117.dec=z149.F a0 a1:=by kernel_rfl
def z153.C:Ctx where
 T:=tab
 call:=λg args=>match g with|39=>z123.pack args|166=>z148.pack args|167=>z149.pack args|168=>z150.pack args|155=>z151.pack args|_=>none
theorem z153.link (a0:J0) (a1:Bool) (a2 a3:J1) (a4 a5 a6 a7 a8 a9 a10 a11 a12 a13 a14 a15 a16 a17:Int):z153.C.evTop 82 (ifun Tryz.f82) [(.agg [(.ints false .i64 a0),(.bool a1)]),(.agg [(.str a2),(.str a3),(.int .i64 a4),(.int .i64 a5),(.int .i64 a6),(.int .i64 a7),(.int .i64 a8),(.int .i64 a9),(.int .i64 a10),(.int .i64 a11)]),(.agg [(.int .i64 a12),(.int .i64 a13),(.int .i64 a14)]),(.agg [(.int .i64 a15),(.int .i64 a16),(.int .i64 a17)])] z9.dec=z153.F a0 a1 a2 a3 a4 a5 a6 a7 a8 a9 a10 a11 a12 a13 a14 a15 a16 a17:=by kernel_rfl
def z158.C:Ctx where
 T:=tab
 call:=λg args=>match g with|91=>z21.pack args|_=>none
theorem z158.link (a0:J0):z158.C.evTop 239 (ifun Tryz.f239) [(.agg [(.ints false .u64 a0)])] z33.dec=z158.F a0:=by kernel_rfl
def z160.C:Ctx where
 T:=tab
 draws:=λf i=>match f,i with|87,6=>([(31,[(5,0)],0),(32,[(30,1)],1),(33,[(12,0)],0),(34,[(3,0)],0),(35,[(31,2),(32,3),(33,4)],15),(30,[(34,5)],31),(36,[(29,6)],63),(37,[(29,6)],63),(15,[],0),(0,[(14,9),(35,7)],383),(14,[(36,8)],1023)],136902107136)|_,_=>([],0)
 call:=λg args=>match g with|88=>z155.pack args|28=>z20.pack args|68=>z47.pack args|175=>z159.pack args|150=>z136.pack args|_=>none
theorem z160.link (a0:J0) (a1:Bool) (a2:J1) (a3 a4 a5:Int):z160.C.evTop 87 (ifun Tryz.f87) [(.agg [(.ints false .u64 a0),(.bool a1)]),(.str a2),(.int .i64 a3),(.int .i64 a4),(.int .i64 a5)] z46.dec=z160.F a0 a1 a2 a3 a4 a5:=by kernel_rfl
def z164.C:Ctx where
 T:=tab
 call:=λg args=>match g with|90=>z33.pack args|28=>z20.pack args|237=>z163.pack args|_=>none
theorem z164.link (a0:Int) (a1:J0) (a2:Bool) (a3:J0) (a4:Bool) (a5:J0) (a6:Bool):z164.C.evTop 174 (ifun Tryz.f174) [(.int .i64 a0),(.agg [(.ints false .u64 a1),(.bool a2)]),(.agg [(.ints false .u64 a3),(.bool a4)]),(.agg [(.ints false .u64 a5),(.bool a6)])] z33.dec=z164.F a0 a1 a2 a3 a4 a5 a6:=by kernel_rfl
def z170.l0sh:Env×Store:=(.undef::(.int .i64 0)::(.ptr 0 0) :: .undef::(.ptr 1 0)::(.ptr 2 0)::(.int .i64 0)::un 10 [],[(.cells 72 [(.ints false .i64 []),(.bool false),(.ints false .i64 [])]),(.cells 72 [(.ints false .i64 []),(.bool false),(.ints false .i64 [])]),(.cells 72 [(.ints false .i64 []),(.bool false),(.ints false .i64 [])])])
def z170.l0out0 (a c:Int) (d:J0) (e:Bool) (g h:J0) (j:Bool) (k m:J0) (n:Bool) (p:J0) (o:Int×J0×Bool×J0):X×Env×Store:=((.exit 0),Qb z170.l0sh [.i a,.i o.1,.li d,.b e,.li g,.li h,.b j,.li k,.li o.2.1,.b o.2.2.1,.li o.2.2.2])
def z170.l0pack:List Leaf->Option LPack
 |[.i a,.i c,.li d,.b e,.li g,.li h,.b j,.li k,.li m,.b n,.li o]=>some (.one _ (z170.l0 a d e g (c,m,n,o)) (z170.l0out0 a c d e g h j k m n o))
 |_=>none
def z170.C:Ctx where
 T:=tab
 call:=λg args=>match g with|125=>z117.pack args|168=>z150.pack args|_=>none
 keep:=λf i=>match f,i with|271,0=>([1,2,4,5,6],[0,1,2],[])|_,_=>([],[],[])
 keepE:=λf i=>match f,i with|271,0=>([1,2,4,5,6],[0,1,2],[])|_,_=>([],[],[])
 keepR:=λf i=>match f,i with|271,0=>([4],[0,1,2],[4])|_,_=>([],[],[])
 L:=λf i b st=>match f,i,b with|271,0,0=>(matchSt z170.l0sh st).bind z170.l0pack|_,_,_=>none
theorem z170.l0_link (R:Type) (k:Env×Store->Option R) (d:X×Env×Store->Option R) (a c:Int) (e:J0) (g:Bool) (h j:J0) (m:Bool) (n p:J0) (q:Bool) (r:J0) :
  z170.C.loopP 271 0 (Qg 0 (ifun Tryz.f271).body) 3 k d (Qb z170.l0sh [.i a,.i c,.li e,.b g,.li h,.li j,.b m,.li n,.li p,.b q,.li r]) =
  z170.l0P a e g h (λx'=>k (Qb z170.l0sh [.i a,.i x'.1,.li e,.b g,.li h,.li j,.b m,.li n,.li x'.2.1,.b x'.2.2.1,.li x'.2.2.2])) (λo=>d (z170.l0out0 a c e g h j m n p q r o)) (c,p,q,r):=by kernel_rfl
theorem z170.link (a0:J0) (a1:Bool) (a2:J0) (a3:Int):z170.C.evTop 271 (ifun Tryz.f271) [(.agg [(.ints false .i64 a0),(.bool a1),(.ints false .i64 a2)]),(.int .i64 a3)] z117.dec=z170.F a0 a1 a2 a3:=by kernel_rfl
def z173.C:Ctx where
 T:=tab
 call:=λg args=>match g with|125=>z117.pack args|129=>z122.pack args|220=>z146.pack args|271=>z170.pack args|272=>z172.pack args|168=>z150.pack args|_=>none
theorem z173.link (a0:J0) (a1:Bool) (a2 a3:J0) (a4:Bool) (a5:J0) (a6:Int):z173.C.evTop 241 (ifun Tryz.f241) [(.agg [(.ints false .i64 a0),(.bool a1),(.ints false .i64 a2)]),(.agg [(.ints false .i64 a3),(.bool a4),(.ints false .i64 a5)]),(.int .i64 a6)] z117.dec=z173.F a0 a1 a2 a3 a4 a5 a6:=by kernel_rfl
def z177.C:Ctx where
 T:=tab
 draws:=λf i=>match f,i with|21,3=>([(19,[(3,0)],0),(20,[(18,1)],1),(21,[(3,0)],0),(22,[(20,3)],4),(23,[(21,4)],12),(24,[(22,5)],28),(25,[(19,2),(23,6)],63),(26,[(3,0)],0),(27,[(25,8)],128),(28,[(3,0)],0),(29,[(27,10)],512),(30,[(28,11)],1536),(31,[(29,12)],3584),(32,[(26,9),(30,13)],8064),(33,[(3,0)],2047),(0,[(32,15),(24,7)],18431),(34,[(3,0)],65535),(0,[(33,17),(31,14)],131071)],17179607040)|_,_=>([],0)
 call:=λg args=>match g with|43=>z18.pack args|86=>z165.pack args|45=>z126.pack args|83=>z167.pack args|94=>z176.pack args|93=>z168.pack args|_=>none
theorem z177.link (a0 a1 a2 a3 a4 a5 a6 a7 a8 a9 a10 a11:Int) (a12 a13:J1) (a14 a15 a16 a17 a18 a19 a20 a21:Int):z177.C.evTop 21 (ifun Tryz.f21) [(.agg [(.int .u64 a0),(.int .u16 a1),(.int .u32 a2),(.int .u8 a3),(.int .u8 a4),(.int .u8 a5),(.int .u8 a6),(.int .u8 a7),(.int .u8 a8),(.int .i64 a9),(.int .i64 a10),(.int .i64 a11)]),(.agg [(.str a12),(.str a13),(.int .i64 a14),(.int .i64 a15),(.int .i64 a16),(.int .i64 a17),(.int .i64 a18),(.int .i64 a19),(.int .i64 a20),(.int .i64 a21)])] z10.dec=z177.F a0 a1 a2 a3 a4 a5 a6 a7 a8 a9 a10 a11 a12 a13 a14 a15 a16 a17 a18 a19 a20 a21:=by kernel_rfl
end
noncomputable section
abbrev Sn (k:List V->Option Pack) (n:FuncId):Prop:=∀vs p,k vs=some p->SoundC Tryz.prog n vs p
theorem Qd:tab.check Tryz.prog=true:=by kernel_rfl
def tabC:Ctx where
 T:=tab
theorem Qe:Tryz.prog.follows .mixedOrders=true:=by kernel_rfl
theorem z5.l2_sound (hI:InlOK Tryz.prog z5.C λR=>z5.C.inlK 6):Qi z5.C 6 102 2 0 (Qg 2 (ifun Tryz.f102).body) z5.l2sh z5.l2pack:=by
 refine Qj λls p h=>?_
 unfold z5.l2pack at h;split at h<;>cases h
 rename_i a b c e g j
 exact Qk hI (sh:=z5.l2sh) (so:=z5.l2sh) (F:=λR rec done x=>z5.l2P rec done x) (enc:=λ(x':(J1×Int×Int))=>Qb z5.l2sh [.li a,.s b,.s x'.1,.i e,.i x'.2.1,.i x'.2.2]) [2,4,5] [2,4,5] (c,g,j) (by kernel_rfl) (by kernel_rfl) (λx=>by kernel_rfl) (λo=>by kernel_rfl) λR k d x'=>z5.l2_link R k d a b (x'.1) e (x'.2.1) (x'.2.2)
theorem z5.l0_sound (hI:InlOK Tryz.prog z5.C λR=>z5.C.inlK 6):Qi z5.C 6 102 0 0 (Qg 0 (ifun Tryz.f102).body) z5.l0sh z5.l0pack:=by
 refine Qj λls p h=>?_
 unfold z5.l0pack at h;split at h<;>cases h
 rename_i a b c e
 exact Qk hI (sh:=z5.l0sh) (so:=z5.l0sh) (F:=λR rec done x=>z5.l0P a rec done x) (enc:=λ(x':(J1×Int))=>Qb z5.l0sh [.li a,.s b,.s x'.1,.i x'.2]) [2,3] [2,3] (c,e) (by kernel_rfl) (by kernel_rfl) (λx=>by kernel_rfl) (λo=>by kernel_rfl) λR k d x'=>z5.l0_link R k d a b (x'.1) (x'.2)
theorem z5.l4_sound (hI:InlOK Tryz.prog z5.C λR=>z5.C.inlK 6):Qi z5.C 6 102 4 0 (Qg 4 (ifun Tryz.f102).body) z5.l4sh z5.l4pack:=by
 refine Qj λls p h=>?_
 unfold z5.l4pack at h;split at h<;>cases h
 rename_i a b c
 exact Qk hI (sh:=z5.l4sh) (so:=z5.l4sh) (F:=λR rec done x=>z5.l4P b rec done x) (enc:=λ(x':Int)=>Qb z5.l4sh [.s a,.s b,.i x']) [2] [2] c (by kernel_rfl) (by kernel_rfl) (λx=>by kernel_rfl) (λo=>by kernel_rfl) λR k d x'=>z5.l4_link R k d a b (x')
theorem Quv:Ql (ifun Tryz.f102).body=true:=by kernel_rfl
theorem z5.loopsT (hI:InlOK Tryz.prog z5.C λR=>z5.C.inlK 6):LoopsOK z5.C (λR=>z5.C.inlK 6) 102 0 (ifun Tryz.f102).body:=by
 intro id b hm st p hp
 obtain rfl:=Qn Quv hm
 unfold z5.C at hp
 simp only at hp
 try split at hp
 all_goals first
  |(simp at hp;done)
  |(exfalso;omega)
  |exact z5.l2_sound hI st p hp
  |exact z5.l0_sound hI st p hp
  |exact z5.l4_sound hI st p hp
theorem z5.hdec:Q2 z17.dec z5.enc:=by
 intro v r h
 unfold z17.dec at h;split at h<;>cases h
 exact ⟨rfl,rfl⟩
theorem z5.sound:Sn z5.pack 102:=by
 intro vs p h;unfold z5.pack at h;split at h<;>cases h
 exact Qq Qd Qe rfl rfl rfl (λg vs p h=>by simp [z5.C] at h) ⟨Tryz.func102,rfl,by kernel_rfl⟩ z5.loopsT rfl (z5.link _) z5.hdec
theorem z6.sound:Sn z6.pack 26:=by
 intro vs p h;unfold z6.pack at h;split at h<;>cases h
 exact Qf Qd Qe rfl rfl rfl rfl (λg vs p h=>by unfold z6.C at h;simp only at h;split at h;exact z5.sound vs p h;simp at h) ⟨Tryz.func26,rfl,by kernel_rfl⟩ rfl (z6.link _ _) z5.hdec
theorem z7.hdec:Q2 z9.dec z7.enc:=by
 intro v r h
 unfold z9.dec at h;split at h<;>cases h
 exact ⟨rfl,rfl⟩
theorem z7.sound:Sn z7.pack 113:=by
 intro vs p h;unfold z7.pack at h;split at h<;>cases h
 exact Qf Qd Qe rfl rfl rfl rfl (λg vs p h=>by simp [z7.C] at h) ⟨Tryz.func113,rfl,by kernel_rfl⟩ rfl (z7.link _ _) z7.hdec
theorem z8.l0_sound (hI:InlOK Tryz.prog z8.C λR=>z8.C.inlK 6):Qi z8.C 6 152 0 0 (Qg 0 (ifun Tryz.f152).body) z8.l0sh z8.l0pack:=by
 refine Qj λls p h=>?_
 unfold z8.l0pack at h;split at h<;>cases h
 rename_i a b c
 exact Qk hI (sh:=z8.l0sh) (so:=z8.l0sh) (F:=λR rec done x=>z8.l0P rec done x) (enc:=λ(x':(Int×J0))=>Qb z8.l0sh [.i x'.1,.li b,.li x'.2]) [0,2] [0,2] (a,c) (by kernel_rfl) (by kernel_rfl) (λx=>by kernel_rfl) (λo=>by kernel_rfl) λR k d x'=>z8.l0_link R k d (x'.1) b (x'.2)
theorem Qt7:Ql (ifun Tryz.f152).body=true:=by kernel_rfl
theorem z8.loopsT (hI:InlOK Tryz.prog z8.C λR=>z8.C.inlK 6):LoopsOK z8.C (λR=>z8.C.inlK 6) 152 0 (ifun Tryz.f152).body:=by
 intro id b hm st p hp
 obtain rfl:=Qn Qt7 hm
 unfold z8.C at hp
 simp only at hp
 try split at hp
 all_goals first
  |(simp at hp;done)
  |(exfalso;omega)
  |exact z8.l0_sound hI st p hp
theorem z8.hdec:Q2 z15.dec z8.enc:=by
 intro v r h
 unfold z15.dec at h;split at h<;>cases h
 exact ⟨rfl,rfl⟩
theorem z8.sound:Sn z8.pack 152:=by
 intro vs p h;unfold z8.pack at h;split at h<;>cases h
 exact Qq Qd Qe rfl rfl rfl (λg vs p h=>by simp [z8.C] at h) ⟨Tryz.func152,rfl,by kernel_rfl⟩ z8.loopsT rfl (z8.link _) z8.hdec
theorem z9.sound:Sn z9.pack 60:=by
 intro vs p h;unfold z9.pack at h;split at h<;>cases h
 exact Qf Qd Qe rfl rfl rfl rfl (λg vs p h=>by unfold z9.C at h;simp only at h;split at h;exact z8.sound vs p h;exact z7.sound vs p h;simp at h) ⟨Tryz.func60,rfl,by kernel_rfl⟩ rfl (z9.link _) z7.hdec
theorem z10.hdec:Q2 z10.dec z10.enc:=by
 intro v r h
 unfold z10.dec at h;split at h<;>cases h
 exact ⟨rfl,rfl⟩
theorem z10.sound:Sn z10.pack 219:=by
 intro vs p h;unfold z10.pack at h;split at h<;>cases h
 exact Qf Qd Qe rfl rfl rfl rfl (λg vs p h=>by simp [z10.C] at h) ⟨Tryz.func219,rfl,by kernel_rfl⟩ rfl (z10.link _) z10.hdec
theorem z11.hdec:Q2 z28.dec z11.enc:=by
 intro v r h
 unfold z28.dec at h;split at h<;>cases h
 exact ⟨rfl,rfl⟩
theorem z11.sound:Sn z11.pack 153:=by
 intro vs p h;unfold z11.pack at h;split at h<;>cases h
 exact Qf Qd Qe rfl rfl rfl rfl (λg vs p h=>by unfold z11.C at h;simp only at h;split at h;exact z10.sound vs p h;simp at h) ⟨Tryz.func153,rfl,by kernel_rfl⟩ rfl (z11.link _ _) z11.hdec
theorem z12.sound:Sn z12.pack 95:=by
 intro vs p h;unfold z12.pack at h;split at h<;>cases h
 exact Qf Qd Qe rfl rfl rfl rfl (λg vs p h=>by unfold z12.C at h;simp only at h;split at h;exact z11.sound vs p h;simp at h) ⟨Tryz.func95,rfl,by kernel_rfl⟩ rfl (z12.link _ _ _ _) (by intro v r h;unfold z12.dec at h;split at h<;>cases h;exact ⟨rfl,rfl⟩)
theorem z13.sound:Sn z13.pack 234:=by
 intro vs p h;unfold z13.pack at h;split at h<;>cases h
 exact Qf Qd Qe rfl rfl rfl rfl (λg vs p h=>by simp [z13.C] at h) ⟨Tryz.func234,rfl,by kernel_rfl⟩ rfl (z13.link _ _) z11.hdec
theorem z14.l0b6_sound (hI:InlOK Tryz.prog z14.C λR=>z14.C.inlK 6):Qi z14.C 6 235 0 0 (Qg 0 (ifun Tryz.f235).body) z14.l0b6sh z14.l0b6pack:=by
 refine Qj λls p h=>?_
 unfold z14.l0b6pack at h;split at h<;>cases h
 rename_i a b c
 exact Qk hI (sh:=z14.l0b6sh) (so:=z14.l0b6sh) (F:=λR rec done x=>z14.l0b6P a rec done x) (enc:=λ(x':Int)=>Qb z14.l0b6sh [.li a,.i x',.li c]) [1] [1] b (by kernel_rfl) (by kernel_rfl) (λx=>by kernel_rfl) (λo=>by kernel_rfl) λR k d x'=>z14.l0b6_link R k d a (x') c
theorem Qxb:Ql (ifun Tryz.f235).body=true:=by kernel_rfl
theorem z14.loopsT (hI:InlOK Tryz.prog z14.C λR=>z14.C.inlK 6):LoopsOK z14.C (λR=>z14.C.inlK 6) 235 0 (ifun Tryz.f235).body:=by
 intro id b hm st p hp
 obtain rfl:=Qn Qxb hm
 unfold z14.C at hp
 simp only at hp
 try split at hp
 all_goals first
  |(simp at hp;done)
  |(exfalso;omega)
  |exact z14.l0b6_sound hI st p hp
theorem z14.sound:Sn z14.pack 235:=by
 intro vs p h;unfold z14.pack at h;split at h<;>cases h
 exact Qq Qd Qe rfl rfl rfl (λg vs p h=>by simp [z14.C] at h) ⟨Tryz.func235,rfl,by kernel_rfl⟩ z14.loopsT rfl (z14.link _) z8.hdec
theorem z15.l2aa_sound (hI:InlOK Tryz.prog z15.C λR=>z15.C.inlK 6):Qi z15.C 6 208 2 0 (Qg 2 (ifun Tryz.f208).body) z15.l2aash z15.l2aapack:=by
 refine Qj λls p h=>?_
 unfold z15.l2aapack at h;split at h<;>cases h
 rename_i a b c e g j m
 exact Qk hI (sh:=z15.l2aash) (so:=z15.l2aash) (F:=λR rec done x=>z15.l2aaP a b c rec done x) (enc:=λ(x':(Int×Int×J0))=>Qb z15.l2aash [.li a,.li b,.i c,.i x'.1,.i x'.2.1,.li j,.li x'.2.2]) [3,4,6] [3,4,6] (e,g,m) (by kernel_rfl) (by kernel_rfl) (λx=>by kernel_rfl) (λo=>by kernel_rfl) λR k d x'=>z15.l2aa_link R k d a b c (x'.1) (x'.2.1) j (x'.2.2)
theorem z15.l0_sound (hI:InlOK Tryz.prog z15.C λR=>z15.C.inlK 6):Qi z15.C 6 208 0 0 (Qg 0 (ifun Tryz.f208).body) z15.l0sh z15.l0pack:=by
 refine Qj λls p h=>?_
 unfold z15.l0pack at h;split at h<;>cases h
 rename_i a b c e g
 exact Qk hI (sh:=z15.l0sh) (so:=z15.l0sh) (F:=λR rec done x=>z15.l0P a b rec done x) (enc:=λ(x':(Int×J0))=>Qb z15.l0sh [.li a,.li b,.i x'.1,.li e,.li x'.2]) [2,4] [2,4] (c,g) (by kernel_rfl) (by kernel_rfl) (λx=>by kernel_rfl) (λo=>by kernel_rfl) λR k d x'=>z15.l0_link R k d a b (x'.1) e (x'.2)
theorem Qxx:Ql (ifun Tryz.f208).body=true:=by kernel_rfl
theorem z15.loopsT (hI:InlOK Tryz.prog z15.C λR=>z15.C.inlK 6):LoopsOK z15.C (λR=>z15.C.inlK 6) 208 0 (ifun Tryz.f208).body:=by
 intro id b hm st p hp
 obtain rfl:=Qn Qxx hm
 unfold z15.C at hp
 simp only at hp
 try split at hp
 all_goals first
  |(simp at hp;done)
  |(exfalso;omega)
  |exact z15.l2aa_sound hI st p hp
  |exact z15.l0_sound hI st p hp
theorem z15.sound:Sn z15.pack 208:=by
 intro vs p h;unfold z15.pack at h;split at h<;>cases h
 exact Qq Qd Qe rfl rfl rfl (λg vs p h=>by unfold z15.C at h;simp only at h;split at h;exact z13.sound vs p h;exact z14.sound vs p h;simp at h) ⟨Tryz.func208,rfl,by kernel_rfl⟩ z15.loopsT rfl (z15.link _ _) z8.hdec
theorem z16.sound:Sn z16.pack 131:=by
 intro vs p h;unfold z16.pack at h;split at h<;>cases h
 exact Qf Qd Qe rfl rfl rfl rfl (λg vs p h=>by unfold z16.C at h;simp only at h;split at h;exact z15.sound vs p h;exact z7.sound vs p h;simp at h) ⟨Tryz.func131,rfl,by kernel_rfl⟩ rfl (z16.link _ _ _ _) z7.hdec
theorem z17.l0_sound (hI:InlOK Tryz.prog z17.C λR=>z17.C.inlK 6):Qi z17.C 6 132 0 0 (Qg 0 (ifun Tryz.f132).body) z17.l0sh z17.l0pack:=by
 refine Qj λls p h=>?_
 unfold z17.l0pack at h;split at h<;>cases h
 rename_i a c e g j
 exact Qk hI (sh:=z17.l0sh) (so:=z17.l0sh) (F:=λR rec done x=>z17.l0P j rec done x) (enc:=λ(x':(J1))=>Qb z17.l0sh [.s a,.s x',.li e,.b g,.i j]) [1] [1] c (by kernel_rfl) (by kernel_rfl) (λx=>by kernel_rfl) (λo=>by kernel_rfl) λR k d x'=>z17.l0_link R k d a (x') e g j
theorem Qr9:Ql (ifun Tryz.f132).body=true:=by kernel_rfl
theorem z17.loopsT (hI:InlOK Tryz.prog z17.C λR=>z17.C.inlK 6):LoopsOK z17.C (λR=>z17.C.inlK 6) 132 0 (ifun Tryz.f132).body:=by
 intro id b hm st p hp
 obtain rfl:=Qn Qr9 hm
 unfold z17.C at hp
 simp only at hp
 try split at hp
 all_goals first
  |(simp at hp;done)
  |(exfalso;omega)
  |exact z17.l0_sound hI st p hp
theorem z17.sound:Sn z17.pack 132:=by
 intro vs p h;unfold z17.pack at h;split at h<;>cases h
 exact Qq Qd Qe rfl rfl rfl (λg vs p h=>by unfold z17.C at h;simp only at h;split at h;exact z5.sound vs p h;simp at h) ⟨Tryz.func132,rfl,by kernel_rfl⟩ z17.loopsT rfl (z17.link _ _ _) z5.hdec
theorem z18.hdec:Q2 z18.dec z18.enc:=by
 intro v r h
 unfold z18.dec at h;split at h<;>cases h
 exact ⟨rfl,rfl⟩
theorem z18.sound:Sn z18.pack 43:=by
 intro vs p h;unfold z18.pack at h;split at h<;>cases h
 exact Qf Qd Qe rfl rfl rfl rfl (λg vs p h=>by unfold z18.C at h;simp only at h;split at h;exact z12.sound vs p h;exact z9.sound vs p h;exact z16.sound vs p h;exact z6.sound vs p h;exact z17.sound vs p h;simp at h) ⟨Tryz.func43,rfl,by kernel_rfl⟩ rfl (z18.link _ _ _ _ _ _ _ _ _ _ _ _ _) z18.hdec
theorem z19.sound:Sn z19.pack 104:=by
 intro vs p h;unfold z19.pack at h;split at h<;>cases h
 exact Qf Qd Qe rfl rfl rfl rfl (λg vs p h=>by simp [z19.C] at h) ⟨Tryz.func104,rfl,by kernel_rfl⟩ rfl (z19.link _) z10.hdec
theorem z20.sound:Sn z20.pack 28:=by
 intro vs p h;unfold z20.pack at h;split at h<;>cases h
 exact Qf Qd Qe rfl rfl rfl rfl (λg vs p h=>by unfold z20.C at h;simp only at h;split at h;exact z19.sound vs p h;simp at h) ⟨Tryz.func28,rfl,by kernel_rfl⟩ rfl (z20.link _ _) z11.hdec
theorem z21.hdec:Q2 z33.dec z21.enc:=by
 intro v r h
 unfold z33.dec at h;split at h<;>cases h
 exact ⟨rfl,rfl⟩
theorem z21.sound:Sn z21.pack 91:=by
 intro vs p h;unfold z21.pack at h;split at h<;>cases h
 exact Qf Qd Qe rfl rfl rfl rfl (λg vs p h=>by unfold z21.C at h;simp only at h;split at h;exact z19.sound vs p h;simp at h) ⟨Tryz.func91,rfl,by kernel_rfl⟩ rfl (z21.link _ _) z21.hdec
theorem z22.sound:Sn z22.pack 184:=by
 intro vs p h;unfold z22.pack at h;split at h<;>cases h
 exact Qf Qd Qe rfl rfl rfl rfl (λg vs p h=>by simp [z22.C] at h) ⟨Tryz.func184,rfl,by kernel_rfl⟩ rfl (z22.link _ _) (by intro v r h;unfold z22.dec at h;split at h<;>cases h;exact ⟨rfl,rfl⟩)
theorem z23.l0b6_sound (hI:InlOK Tryz.prog z23.C λR=>z23.C.inlK 6):Qi z23.C 6 185 0 0 (Qg 0 (ifun Tryz.f185).body) z23.l0b6sh z23.l0b6pack:=by
 refine Qj λls p h=>?_
 unfold z23.l0b6pack at h;split at h<;>cases h
 rename_i a b c
 exact Qk hI (sh:=z23.l0b6sh) (so:=z23.l0b6sh) (F:=λR rec done x=>z23.l0b6P a rec done x) (enc:=λ(x':Int)=>Qb z23.l0b6sh [.li a,.i x',.li c]) [1] [1] b (by kernel_rfl) (by kernel_rfl) (λx=>by kernel_rfl) (λo=>by kernel_rfl) λR k d x'=>z23.l0b6_link R k d a (x') c
theorem Qrn:Ql (ifun Tryz.f185).body=true:=by kernel_rfl
theorem z23.loopsT (hI:InlOK Tryz.prog z23.C λR=>z23.C.inlK 6):LoopsOK z23.C (λR=>z23.C.inlK 6) 185 0 (ifun Tryz.f185).body:=by
 intro id b hm st p hp
 obtain rfl:=Qn Qrn hm
 unfold z23.C at hp
 simp only at hp
 try split at hp
 all_goals first
  |(simp at hp;done)
  |(exfalso;omega)
  |exact z23.l0b6_sound hI st p hp
theorem z23.hdec:Q2 z23.dec z23.enc:=by
 intro v r h
 unfold z23.dec at h;split at h<;>cases h
 exact ⟨rfl,rfl⟩
theorem z23.sound:Sn z23.pack 185:=by
 intro vs p h;unfold z23.pack at h;split at h<;>cases h
 exact Qq Qd Qe rfl rfl rfl (λg vs p h=>by simp [z23.C] at h) ⟨Tryz.func185,rfl,by kernel_rfl⟩ z23.loopsT rfl (z23.link _) z23.hdec
theorem z24.l0_sound (hI:InlOK Tryz.prog z24.C λR=>z24.C.inlK 6):Qi z24.C 6 99 0 0 (Qg 0 (ifun Tryz.f99).body) z24.l0sh z24.l0pack:=by
 refine Qj λls p h=>?_
 unfold z24.l0pack at h;split at h<;>cases h
 rename_i a b c e g j m
 exact Qk hI (sh:=z24.l0sh) (so:=z24.l0sh) (F:=λR rec done x=>z24.l0P b e g rec done x) (enc:=λ(x':(Int×Int×J0))=>Qb z24.l0sh [.i x'.1,.i b,.i x'.2.1,.li e,.li g,.li j,.li x'.2.2]) [0,2,6] [0,2,6] (a,c,m) (by kernel_rfl) (by kernel_rfl) (λx=>by kernel_rfl) (λo=>by kernel_rfl) λR k d x'=>z24.l0_link R k d (x'.1) b (x'.2.1) e g j (x'.2.2)
theorem Qvk:Ql (ifun Tryz.f99).body=true:=by kernel_rfl
theorem z24.loopsT (hI:InlOK Tryz.prog z24.C λR=>z24.C.inlK 6):LoopsOK z24.C (λR=>z24.C.inlK 6) 99 0 (ifun Tryz.f99).body:=by
 intro id b hm st p hp
 obtain rfl:=Qn Qvk hm
 unfold z24.C at hp
 simp only at hp
 try split at hp
 all_goals first
  |(simp at hp;done)
  |(exfalso;omega)
  |exact z24.l0_sound hI st p hp
theorem z24.sound:Sn z24.pack 99:=by
 intro vs p h;unfold z24.pack at h;split at h<;>cases h
 exact Qq Qd Qe rfl rfl rfl (λg vs p h=>by unfold z24.C at h;simp only at h;split at h;exact z22.sound vs p h;exact z0.sound vs p h;exact z23.sound vs p h;simp at h) ⟨Tryz.func99,rfl,by kernel_rfl⟩ z24.loopsT rfl (z24.link _ _) z23.hdec
theorem z25.sound:Sn z25.pack 212:=by
 intro vs p h;unfold z25.pack at h;split at h<;>cases h
 exact Qf Qd Qe rfl rfl rfl rfl (λg vs p h=>by simp [z25.C] at h) ⟨Tryz.func212,rfl,by kernel_rfl⟩ rfl (z25.link _) z10.hdec
theorem z26.sound:Sn z26.pack 146:=by
 intro vs p h;unfold z26.pack at h;split at h<;>cases h
 exact Qf Qd Qe rfl rfl rfl rfl (λg vs p h=>by unfold z26.C at h;simp only at h;split at h;exact z25.sound vs p h;simp at h) ⟨Tryz.func146,rfl,by kernel_rfl⟩ rfl (z26.link _ _) z11.hdec
theorem z27.sound:Sn z27.pack 273:=by
 intro vs p h;unfold z27.pack at h;split at h<;>cases h
 exact Qf Qd Qe rfl rfl rfl rfl (λg vs p h=>by simp [z27.C] at h) ⟨Tryz.func273,rfl,by kernel_rfl⟩ rfl (z27.link _) z10.hdec
theorem z28.sound:Sn z28.pack 245:=by
 intro vs p h;unfold z28.pack at h;split at h<;>cases h
 exact Qf Qd Qe rfl rfl rfl rfl (λg vs p h=>by unfold z28.C at h;simp only at h;split at h;exact z27.sound vs p h;simp at h) ⟨Tryz.func245,rfl,by kernel_rfl⟩ rfl (z28.link _ _) z11.hdec
theorem z29.l0_sound (hI:InlOK Tryz.prog z29.C λR=>z29.C.inlK 6):Qi z29.C 6 186 0 0 (Qg 0 (ifun Tryz.f186).body) z29.l0sh z29.l0pack:=by
 refine Qj λls p h=>?_
 unfold z29.l0pack at h;split at h<;>cases h
 rename_i a b c e
 exact Yy hI (sh:=z29.l0sh) (so:=z29.l0sh) (so':=z29.l0so1) (F:=λR rec done x=>z29.l0P c e rec done x) (enc:=λ(x':Int)=>Qb z29.l0sh [.i a,.i x',.li c,.li e]) (.exit 0) [1] [1] [0] b (by kernel_rfl) (by kernel_rfl) (λx=>by kernel_rfl) (λo=>by kernel_rfl) (λo=>by kernel_rfl) λR k d x'=>z29.l0_link R k d a (x') c e
theorem Qsk:Ql (ifun Tryz.f186).body=true:=by kernel_rfl
theorem z29.loopsT (hI:InlOK Tryz.prog z29.C λR=>z29.C.inlK 6):LoopsOK z29.C (λR=>z29.C.inlK 6) 186 0 (ifun Tryz.f186).body:=by
 intro id b hm st p hp
 obtain rfl:=Qn Qsk hm
 unfold z29.C at hp
 simp only at hp
 try split at hp
 all_goals first
  |(simp at hp;done)
  |(exfalso;omega)
  |exact z29.l0_sound hI st p hp
theorem z29.sound:Sn z29.pack 186:=by
 intro vs p h;unfold z29.pack at h;split at h<;>cases h
 exact Qq Qd Qe rfl rfl rfl (λg vs p h=>by unfold z29.C at h;simp only at h;split at h;exact z26.sound vs p h;exact z28.sound vs p h;simp at h) ⟨Tryz.func186,rfl,by kernel_rfl⟩ z29.loopsT rfl (z29.link _ _) z11.hdec
theorem z30.l0_sound (hI:InlOK Tryz.prog z30.C λR=>z30.C.inlK 6):Qi z30.C 6 100 0 0 (Qg 0 (ifun Tryz.f100).body) z30.l0sh z30.l0pack:=by
 refine Qj λls p h=>?_
 unfold z30.l0pack at h;split at h<;>cases h
 rename_i a c e g j m n q
 exact Qk hI (sh:=z30.l0sh) (so:=z30.l0sh) (F:=λR rec done x=>z30.l0P e j m rec done x) (enc:=λ(x':(Int×Int×J0))=>Qb z30.l0sh [.b a,.i x'.1,.i e,.i x'.2.1,.li j,.li m,.li n,.li x'.2.2]) [1,3,7] [1,3,7] (c,g,q) (by kernel_rfl) (by kernel_rfl) (λx=>by kernel_rfl) (λo=>by kernel_rfl) λR k d x'=>z30.l0_link R k d a (x'.1) e (x'.2.1) j m n (x'.2.2)
theorem Qul:Ql (ifun Tryz.f100).body=true:=by kernel_rfl
theorem z30.loopsT (hI:InlOK Tryz.prog z30.C λR=>z30.C.inlK 6):LoopsOK z30.C (λR=>z30.C.inlK 6) 100 0 (ifun Tryz.f100).body:=by
 intro id b hm st p hp
 obtain rfl:=Qn Qul hm
 unfold z30.C at hp
 simp only at hp
 try split at hp
 all_goals first
  |(simp at hp;done)
  |(exfalso;omega)
  |exact z30.l0_sound hI st p hp
theorem z30.sound:Sn z30.pack 100:=by
 intro vs p h;unfold z30.pack at h;split at h<;>cases h
 exact Qq Qd Qe rfl rfl rfl (λg vs p h=>by unfold z30.C at h;simp only at h;split at h;exact z29.sound vs p h;exact z22.sound vs p h;exact z1.sound vs p h;exact z23.sound vs p h;simp at h) ⟨Tryz.func100,rfl,by kernel_rfl⟩ z30.loopsT rfl (z30.link _ _) (by intro v r h;unfold z30.dec at h;split at h<;>cases h;exact ⟨rfl,rfl⟩)
theorem z31.sound:Sn z31.pack 24:=by
 intro vs p h;unfold z31.pack at h;split at h<;>cases h
 exact Qf Qd Qe rfl rfl rfl rfl (λg vs p h=>by unfold z31.C at h;simp only at h;split at h;exact z24.sound vs p h;exact z21.sound vs p h;exact z30.sound vs p h;simp at h) ⟨Tryz.func24,rfl,by kernel_rfl⟩ rfl (z31.link _ _ _ _) z21.hdec
theorem z32.sound:Sn z32.pack 110:=by
 intro vs p h;unfold z32.pack at h;split at h<;>cases h
 exact Qf Qd Qe rfl rfl rfl rfl (λg vs p h=>by unfold z32.C at h;simp only at h;split at h;exact z21.sound vs p h;simp at h) ⟨Tryz.func110,rfl,by kernel_rfl⟩ rfl (z32.link _ _) z21.hdec
theorem z33.sound:Sn z33.pack 90:=by
 intro vs p h;unfold z33.pack at h;split at h<;>cases h
 exact Qf Qd Qe rfl rfl rfl rfl (λg vs p h=>by unfold z33.C at h;simp only at h;split at h;exact z32.sound vs p h;exact z31.sound vs p h;simp at h) ⟨Tryz.func90,rfl,by kernel_rfl⟩ rfl (z33.link _ _ _ _) z21.hdec
theorem z34.sound:Sn z34.pack 74:=by
 intro vs p h;unfold z34.pack at h;split at h<;>cases h
 exact Qf Qd Qe rfl rfl rfl rfl (λg vs p h=>by unfold z34.C at h;simp only at h;split at h;exact z33.sound vs p h;exact z20.sound vs p h;simp at h) ⟨Tryz.func74,rfl,by kernel_rfl⟩ rfl (z34.link _ _ _ _) z11.hdec
theorem z35.sound:Sn z35.pack 260:=by
 intro vs p h;unfold z35.pack at h;split at h<;>cases h
 exact Qf Qd Qe rfl rfl rfl rfl (λg vs p h=>by simp [z35.C] at h) ⟨Tryz.func260,rfl,by kernel_rfl⟩ rfl (z35.link _ _) z10.hdec
theorem z36.hdec:Q2 z36.dec z36.enc:=by
 intro v r h
 unfold z36.dec at h;split at h<;>cases h
 exact ⟨rfl,rfl⟩
theorem z36.sound:Sn z36.pack 223:=by
 intro vs p h;unfold z36.pack at h;split at h<;>cases h
 exact Qf Qd Qe rfl rfl rfl rfl (λg vs p h=>by unfold z36.C at h;simp only at h;split at h;exact z35.sound vs p h;simp at h) ⟨Tryz.func223,rfl,by kernel_rfl⟩ rfl (z36.link _ _) z36.hdec
theorem z37.sound:Sn z37.pack 160:=by
 intro vs p h;unfold z37.pack at h;split at h<;>cases h
 exact Qf Qd Qe rfl rfl rfl rfl (λg vs p h=>by unfold z37.C at h;simp only at h;split at h;exact z36.sound vs p h;simp at h) ⟨Tryz.func160,rfl,by kernel_rfl⟩ rfl (z37.link _ _) z36.hdec
theorem prim222:SoundP Tryz.prog 222 (cloneP (.ints true .u64 []) 79 8):=Qw4 (C:=tabC) Qd (f:=Tryz.f222) (t:=35) ⟨Tryz.func222,rfl,by kernel_rfl⟩ rfl (by decide) (by kernel_rfl) (by kernel_rfl) (by kernel_rfl) (by decide) (by kernel_rfl) rfl rfl (by kernel_rfl)
theorem z38.inlF:InlF Tryz.prog z38.C where
 prim g h hp:=by
  unfold z38.C at hp;simp only at hp;split at hp
  ·simp only [Option.some.injEq] at hp;subst hp;exact prim222
  ·simp at hp
 fn g fn h:=by simp [z38.C] at h
 loops g fn h:=by simp [z38.C] at h
theorem z38.sound:Sn z38.pack 158:=by
 intro vs p h;unfold z38.pack at h;split at h<;>cases h
 exact Qa4 Qd Qe rfl (λg vs p h=>by unfold z38.C at h;simp only at h;split at h;exact z23.sound vs p h;simp at h) z38.inlF ⟨Tryz.func158,rfl,by kernel_rfl⟩ (λ_=>noLoops rfl _ _ _ _) rfl (z38.link _) z23.hdec
theorem z39.hdec:Q2 z39.dec z39.enc:=by
 intro v r h
 unfold z39.dec at h;split at h<;>cases h
 exact ⟨rfl,rfl⟩
theorem z39.sound:Sn z39.pack 268:=by
 intro vs p h;unfold z39.pack at h;split at h<;>cases h
 exact Qf Qd Qe rfl rfl rfl rfl (λg vs p h=>by simp [z39.C] at h) ⟨Tryz.func268,rfl,by kernel_rfl⟩ rfl (z39.link _ _) z39.hdec
theorem z40.l0a_sound (hI:InlOK Tryz.prog z40.C λR=>z40.C.inlK 0):Qi z40.C 0 227 0 4 (Qg 0 (ifun Tryz.f227).body) z40.l0ash z40.l0apack:=by
 refine Qj λls p h=>?_
 unfold z40.l0apack at h;split at h<;>cases h
 rename_i a b c e g j m q r s t
 exact Qk hI (sh:=z40.l0ash) (so:=z40.l0ash) (F:=λR rec done x=>z40.l0aP a b c g j rec done x) (enc:=λ(x':(Int×Int×J0))=>Qb z40.l0ash [.i a,.n b,.n c,.i x'.1,.li g,.i j,.i x'.2.1,.li q,.li r,.li x'.2.2,.li t]) [3,6,9] [3,6,9] (e,m,s) (by kernel_rfl) (by kernel_rfl) (λx=>by kernel_rfl) (λo=>by kernel_rfl) λR k d x'=>z40.l0a_link R k d a b c (x'.1) g j (x'.2.1) q r (x'.2.2) t
theorem z40.l0_sound (hI:InlOK Tryz.prog z40.C λR=>z40.C.inlK 6):Qi z40.C 6 164 0 0 (Qg 0 (ifun Tryz.f164).body) z40.l0sh z40.l0pack:=by
 refine Qj λls p h=>?_
 unfold z40.l0pack at h;split at h<;>cases h
 rename_i a b c e g j
 exact Qk hI (sh:=z40.l0sh) (so:=z40.l0sh) (F:=λR rec done x=>z40.l0P a b e rec done x) (enc:=λ(x':(Int×J0))=>Qb z40.l0sh [.li a,.i b,.i x'.1,.li e,.li g,.li x'.2]) [2,5] [2,5] (c,j) (by kernel_rfl) (by kernel_rfl) (λx=>by kernel_rfl) (λo=>by kernel_rfl) λR k d x'=>z40.l0_link R k d a b (x'.1) e g (x'.2)
theorem Qp1:Ql (ifun Tryz.f164).body=true:=by kernel_rfl
theorem Qxw:Ql (ifun Tryz.f227).body=true:=by kernel_rfl
theorem z40.loopsT (hI:InlOK Tryz.prog z40.C λR=>z40.C.inlK 6):LoopsOK z40.C (λR=>z40.C.inlK 6) 164 0 (ifun Tryz.f164).body:=by
 intro id b hm st p hp
 obtain rfl:=Qn Qp1 hm
 unfold z40.C at hp
 simp only at hp
 try split at hp
 all_goals first
  |(simp at hp;done)
  |(exfalso;omega)
  |exact z40.l0_sound hI st p hp
theorem z40.loops227 (hI:InlOK Tryz.prog z40.C λR=>z40.C.inlK 0) (base:Nat):LoopsOK z40.C (λR=>z40.C.inlK 0) 227 base (ifun Tryz.f227).body:=by
 intro id b hm st p hp
 obtain rfl:=Qn Qxw hm
 unfold z40.C at hp
 simp only at hp
 try split at hp
 all_goals first
  |(simp at hp;done)
  |(exfalso;omega)
  |exact z40.l0a_sound hI st p hp
theorem z40.inlF:InlF Tryz.prog z40.C where
 prim g h hp:=by simp [z40.C] at hp
 fn g fn h:=by
  unfold z40.C at h;simp only at h;split at h
  ·simp only [Option.some.injEq] at h;subst h;exact ⟨_,_,⟨Tryz.func227,rfl,by kernel_rfl⟩,rfl⟩
  ·simp at h
 loops g fn h:=by
  unfold z40.C at h;simp only at h;split at h
  ·simp only [Option.some.injEq] at h;subst h;exact λhI base=>z40.loops227 hI base
  ·simp at h
theorem z40.sound:Sn z40.pack 164:=by
 intro vs p h;unfold z40.pack at h;split at h<;>cases h
 exact Qa4 Qd Qe rfl (λg vs p h=>by unfold z40.C at h;simp only at h;split at h;exact z39.sound vs p h;exact z0.sound vs p h;exact z23.sound vs p h;simp at h) z40.inlF ⟨Tryz.func164,rfl,by kernel_rfl⟩ z40.loopsT rfl (z40.link _ _) z23.hdec
theorem z41.l2_sound (hI:InlOK Tryz.prog z41.C λR=>z41.C.inlK 6):Qi z41.C 6 161 2 0 (Qg 2 (ifun Tryz.f161).body) z41.l2sh z41.l2pack:=by
 refine Qj λls p h=>?_
 unfold z41.l2pack at h;split at h<;>cases h
 rename_i a b c e g j m q
 exact Qk hI (sh:=z41.l2sh) (so:=z41.l2sh) (F:=λR rec done x=>z41.l2P m rec done x) (enc:=λ(x':(Int×Nat))=>Qb z41.l2sh [.s a,.i b,.i c,.i x'.1,.li g,.li j,.s m,.n x'.2]) [3,7] [3,7] (e,q) (by kernel_rfl) (by kernel_rfl) (λx=>by kernel_rfl) (λo=>by kernel_rfl) λR k d x'=>z41.l2_link R k d a b c (x'.1) g j m (x'.2)
theorem z41.l2a_sound (hI:InlOK Tryz.prog z41.C λR=>z41.C.inlK 6):Qi z41.C 6 161 2 0 (Qg 2 (ifun Tryz.f161).body) z41.l2ash z41.l2apack:=by
 refine Qj λls p h=>?_
 unfold z41.l2apack at h;split at h<;>cases h
 rename_i a c e g j m q r t u
 exact Qk hI (sh:=z41.l2ash) (so:=z41.l2ash) (F:=λR rec done x=>z41.l2aP t rec done x) (enc:=λ(x':(Int×Nat))=>Qb z41.l2ash [.s a,.i c,.i e,.i x'.1,.i j,.b m,.li q,.li r,.s t,.n x'.2]) [3,9] [3,9] (g,u) (by kernel_rfl) (by kernel_rfl) (λx=>by kernel_rfl) (λo=>by kernel_rfl) λR k d x'=>z41.l2a_link R k d a c e (x'.1) j m q r t (x'.2)
theorem z41.l0aa_sound (hI:InlOK Tryz.prog z41.C λR=>z41.C.inlK 6):Qi z41.C 6 161 0 0 (Qg 0 (ifun Tryz.f161).body) z41.l0aash z41.l0aapack:=by
 refine Qj λls p h=>?_
 unfold z41.l0aapack at h;split at h<;>cases h
 rename_i a c e g j
 exact Qk hI (sh:=z41.l0aash) (so:=z41.l0aash) (F:=λR rec done x=>z41.l0aaP rec done x) (enc:=λ(x':(J1×Bool×J0))=>Qb z41.l0aash [.s x'.1,.i c,.b x'.2.1,.li g,.li x'.2.2]) [0,2,4] [0,2,4] (a,e,j) (by kernel_rfl) (by kernel_rfl) (λx=>by kernel_rfl) (λo=>by kernel_rfl) λR k d x'=>z41.l0aa_link R k d (x'.1) c (x'.2.1) g (x'.2.2)
theorem Qp5:Ql (ifun Tryz.f161).body=true:=by kernel_rfl
theorem z41.loopsT (hI:InlOK Tryz.prog z41.C λR=>z41.C.inlK 6):LoopsOK z41.C (λR=>z41.C.inlK 6) 161 0 (ifun Tryz.f161).body:=by
 intro id b hm st p hp
 obtain rfl:=Qn Qp5 hm
 unfold z41.C at hp
 simp only at hp
 try split at hp
 all_goals first
  |(simp at hp;done)
  |(exfalso;omega)
  |exact (orP_some hp).elim (λh=>z41.l2_sound hI st p h) (λh=>z41.l2a_sound hI st p h)
  |exact z41.l0aa_sound hI st p hp
theorem z41.hdec:Q2 z44.dec z41.enc:=by
 intro v r h
 unfold z44.dec at h;split at h<;>cases h
 exact ⟨rfl,rfl⟩
theorem z41.sound:Sn z41.pack 161:=by
 intro vs p h;unfold z41.pack at h;split at h<;>cases h
 exact Qq Qd Qe rfl rfl rfl (λg vs p h=>by unfold z41.C at h;simp only at h;split at h;exact z3.sound vs p h;exact z38.sound vs p h;exact z40.sound vs p h;exact z24.sound vs p h;simp at h) ⟨Tryz.func161,rfl,by kernel_rfl⟩ z41.loopsT rfl (z41.link _) z41.hdec
theorem z42.hdec:Q2 z46.dec z42.enc:=by
 intro v r h
 unfold z46.dec at h;split at h<;>cases h
 exact ⟨rfl,rfl⟩
theorem z42.sound:Sn z42.pack 76:=by
 intro vs p h;unfold z42.pack at h;split at h<;>cases h
 exact Qf Qd Qe rfl rfl rfl rfl (λg vs p h=>by unfold z42.C at h;simp only at h;split at h;exact z37.sound vs p h;exact z41.sound vs p h;exact z19.sound vs p h;exact z21.sound vs p h;simp at h) ⟨Tryz.func76,rfl,by kernel_rfl⟩ rfl (z42.link _) z42.hdec
theorem z43.l0_sound (hI:InlOK Tryz.prog z43.C λR=>z43.C.inlK 6):Qi z43.C 6 247 0 0 (Qg 0 (ifun Tryz.f247).body) z43.l0sh z43.l0pack:=by
 refine Qj λls p h=>?_
 unfold z43.l0pack at h;split at h<;>cases h
 rename_i a b c e
 exact Qk hI (sh:=z43.l0sh) (so:=z43.l0sh) (F:=λR rec done x=>z43.l0P rec done x) (enc:=λ(x':(Int×J0×J0))=>Qb z43.l0sh [.i x'.1,.li x'.2.1,.li c,.li x'.2.2]) [0,1,3] [0,1,3] (a,b,e) (by kernel_rfl) (by kernel_rfl) (λx=>by kernel_rfl) (λo=>by kernel_rfl) λR k d x'=>z43.l0_link R k d (x'.1) (x'.2.1) c (x'.2.2)
theorem Qp6:Ql (ifun Tryz.f247).body=true:=by kernel_rfl
theorem z43.loopsT (hI:InlOK Tryz.prog z43.C λR=>z43.C.inlK 6):LoopsOK z43.C (λR=>z43.C.inlK 6) 247 0 (ifun Tryz.f247).body:=by
 intro id b hm st p hp
 obtain rfl:=Qn Qp6 hm
 unfold z43.C at hp
 simp only at hp
 try split at hp
 all_goals first
  |(simp at hp;done)
  |(exfalso;omega)
  |exact z43.l0_sound hI st p hp
theorem z43.sound:Sn z43.pack 247:=by
 intro vs p h;unfold z43.pack at h;split at h<;>cases h
 exact Qq Qd Qe rfl rfl rfl (λg vs p h=>by unfold z43.C at h;simp only at h;split at h;exact z38.sound vs p h;exact z40.sound vs p h;simp at h) ⟨Tryz.func247,rfl,by kernel_rfl⟩ z43.loopsT rfl (z43.link _ _) z23.hdec
theorem z44.sound:Sn z44.pack 195:=by
 intro vs p h;unfold z44.pack at h;split at h<;>cases h
 exact Qf Qd Qe rfl rfl rfl rfl (λg vs p h=>by unfold z44.C at h;simp only at h;split at h;exact z38.sound vs p h;exact z43.sound vs p h;simp at h) ⟨Tryz.func195,rfl,by kernel_rfl⟩ rfl (z44.link _) z41.hdec
theorem z45.sound:Sn z45.pack 114:=by
 intro vs p h;unfold z45.pack at h;split at h<;>cases h
 exact Qf Qd Qe rfl rfl rfl rfl (λg vs p h=>by unfold z45.C at h;simp only at h;split at h;exact z44.sound vs p h;exact z21.sound vs p h;simp at h) ⟨Tryz.func114,rfl,by kernel_rfl⟩ rfl z45.link z21.hdec
theorem z46.sound:Sn z46.pack 36:=by
 intro vs p h;unfold z46.pack at h;split at h<;>cases h
 exact Qf Qd Qe rfl rfl rfl rfl (λg vs p h=>by unfold z46.C at h;simp only at h;split at h;exact z42.sound vs p h;exact z20.sound vs p h;exact z45.sound vs p h;exact z34.sound vs p h;simp at h) ⟨Tryz.func36,rfl,by kernel_rfl⟩ rfl (z46.link _) z42.hdec
theorem z47.hdec:Q2 z139.dec z47.enc:=by
 intro v r h
 unfold z139.dec at h;split at h<;>cases h
 exact ⟨rfl,rfl⟩
theorem z47.sound:Sn z47.pack 68:=by
 intro vs p h;unfold z47.pack at h;split at h<;>cases h
 exact Qf Qd Qe rfl rfl rfl rfl (λg vs p h=>by simp [z47.C] at h) ⟨Tryz.func68,rfl,by kernel_rfl⟩ rfl (z47.link _ _) z47.hdec
theorem z48.sound:Sn z48.pack 69:=by
 intro vs p h;unfold z48.pack at h;split at h<;>cases h
 exact Qf Qd Qe rfl rfl rfl rfl (λg vs p h=>by unfold z48.C at h;simp only at h;split at h;exact z38.sound vs p h;exact z21.sound vs p h;simp at h) ⟨Tryz.func69,rfl,by kernel_rfl⟩ rfl (z48.link _) z21.hdec
theorem z49.sound:Sn z49.pack 199:=by
 intro vs p h;unfold z49.pack at h;split at h<;>cases h
 exact Qf Qd Qe rfl rfl rfl rfl (λg vs p h=>by unfold z49.C at h;simp only at h;split at h;exact z3.sound vs p h;simp at h) ⟨Tryz.func199,rfl,by kernel_rfl⟩ rfl (z49.link _) z10.hdec
theorem z50.inlF:InlF Tryz.prog z50.C where
 prim g h hp:=by simp [z50.C] at hp
 fn g fn h:=by
  unfold z50.C at h;simp only at h;split at h
  ·simp only [Option.some.injEq] at h;subst h;exact ⟨_,_,⟨Tryz.func198,rfl,by kernel_rfl⟩,rfl⟩
  ·simp only [Option.some.injEq] at h;subst h;exact ⟨_,_,⟨Tryz.func248,rfl,by kernel_rfl⟩,rfl⟩
  ·simp only [Option.some.injEq] at h;subst h;exact ⟨_,_,⟨Tryz.func275,rfl,by kernel_rfl⟩,rfl⟩
  ·simp only [Option.some.injEq] at h;subst h;exact ⟨_,_,⟨Tryz.func283,rfl,by kernel_rfl⟩,rfl⟩
  ·simp at h
 loops g fn h:=by
  unfold z50.C at h;simp only at h;split at h
  ·simp only [Option.some.injEq] at h;subst h;exact λhI base=>noLoops rfl _ _ _ _
  ·simp only [Option.some.injEq] at h;subst h;exact λhI base=>noLoops rfl _ _ _ _
  ·simp only [Option.some.injEq] at h;subst h;exact λhI base=>noLoops rfl _ _ _ _
  ·simp only [Option.some.injEq] at h;subst h;exact λhI base=>noLoops rfl _ _ _ _
  ·simp at h
theorem z50.hdec:Q2 z50.dec z50.enc:=by
 intro v r h
 unfold z50.dec at h;split at h<;>cases h
 exact ⟨rfl,rfl⟩
theorem z50.sound:Sn z50.pack 118:=by
 intro vs p h;unfold z50.pack at h;split at h<;>cases h
 exact Qa4 Qd Qe rfl (λg vs p h=>by unfold z50.C at h;simp only at h;split at h;exact z37.sound vs p h;exact z49.sound vs p h;exact z3.sound vs p h;exact z4.sound vs p h;exact z41.sound vs p h;exact z21.sound vs p h;exact z2.sound vs p h;simp at h) z50.inlF ⟨Tryz.func118,rfl,by kernel_rfl⟩ (λ_=>noLoops rfl _ _ _ _) rfl (z50.link _) z50.hdec
theorem z51.sound:Sn z51.pack 202:=by
 intro vs p h;unfold z51.pack at h;split at h<;>cases h
 exact Qf Qd Qe rfl rfl rfl rfl (λg vs p h=>by simp [z51.C] at h) ⟨Tryz.func202,rfl,by kernel_rfl⟩ rfl (z51.link _) z10.hdec
theorem z52.sound:Sn z52.pack 119:=by
 intro vs p h;unfold z52.pack at h;split at h<;>cases h
 exact Qf Qd Qe rfl rfl rfl rfl (λg vs p h=>by unfold z52.C at h;simp only at h;split at h;exact z51.sound vs p h;simp at h) ⟨Tryz.func119,rfl,by kernel_rfl⟩ rfl (z52.link _ _ _) z50.hdec
theorem z53.sound:Sn z53.pack 120:=by
 intro vs p h;unfold z53.pack at h;split at h<;>cases h
 exact Qf Qd Qe rfl rfl rfl rfl (λg vs p h=>by simp [z53.C] at h) ⟨Tryz.func120,rfl,by kernel_rfl⟩ rfl (z53.link _ _ _) z21.hdec
theorem z54.sound:Sn z54.pack 156:=by
 intro vs p h;unfold z54.pack at h;split at h<;>cases h
 exact Qf Qd Qe rfl rfl rfl rfl (λg vs p h=>by unfold z54.C at h;simp only at h;split at h;exact z40.sound vs p h;exact z21.sound vs p h;simp at h) ⟨Tryz.func156,rfl,by kernel_rfl⟩ rfl (z54.link _ _ _ _) z21.hdec
theorem z55.sound:Sn z55.pack 204:=by
 intro vs p h;unfold z55.pack at h;split at h<;>cases h
 exact Qf Qd Qe rfl rfl rfl rfl (λg vs p h=>by unfold z55.C at h;simp only at h;split at h;exact z44.sound vs p h;exact z21.sound vs p h;simp at h) ⟨Tryz.func204,rfl,by kernel_rfl⟩ rfl (z55.link _) z21.hdec
theorem z56.sound:Sn z56.pack 203:=by
 intro vs p h;unfold z56.pack at h;split at h<;>cases h
 exact Qf Qd Qe rfl rfl rfl rfl (λg vs p h=>by unfold z56.C at h;simp only at h;split at h;exact z55.sound vs p h;exact z54.sound vs p h;simp at h) ⟨Tryz.func203,rfl,by kernel_rfl⟩ rfl (z56.link _ _ _ _) z21.hdec
theorem z57.sound:Sn z57.pack 121:=by
 intro vs p h;unfold z57.pack at h;split at h<;>cases h
 exact Qf Qd Qe rfl rfl rfl rfl (λg vs p h=>by unfold z57.C at h;simp only at h;split at h;exact z56.sound vs p h;exact z34.sound vs p h;simp at h) ⟨Tryz.func121,rfl,by kernel_rfl⟩ rfl (z57.link _ _ _ _ _ _) z11.hdec
theorem z58.sound:Sn z58.pack 122:=by
 intro vs p h;unfold z58.pack at h;split at h<;>cases h
 exact Qf Qd Qe rfl rfl rfl rfl (λg vs p h=>by simp [z58.C] at h) ⟨Tryz.func122,rfl,by kernel_rfl⟩ rfl (z58.link _ _ _) z11.hdec
theorem z59.sound:Sn z59.pack 92:=by
 intro vs p h;unfold z59.pack at h;split at h<;>cases h
 exact Qf Qd Qe rfl rfl rfl rfl (λg vs p h=>by simp [z59.C] at h) ⟨Tryz.func92,rfl,by kernel_rfl⟩ rfl (z59.link _ _) z23.hdec
theorem fun188:FunOK Tryz.prog 188 Tryz.f188 (ifun Tryz.f188).body:=⟨Tryz.func188,rfl,by kernel_rfl⟩
theorem z60.inlF:InlF Tryz.prog z60.C where
 prim g h hp:=by
  unfold z60.C at hp;simp only at hp;split at hp
  ·simp only [Option.some.injEq] at hp;subst hp;exact prim222
  ·simp at hp
 fn g fn h:=by simp [z60.C] at h
 loops g fn h:=by simp [z60.C] at h
theorem z60.sound:Sn z60.pack 188:=by
 intro vs p h;unfold z60.pack at h;split at h<;>cases h
 exact Qa4 Qd Qe rfl (λg vs p h=>by simp [z60.C] at h) z60.inlF fun188 (λ_=>noLoops rfl _ _ _ _) rfl (z60.link _) (by intro v r h;unfold z60.dec at h;split at h<;>cases h;exact ⟨rfl,rfl⟩)
theorem z61.sound:Sn z61.pack 280:=by
 intro vs p h;unfold z61.pack at h;split at h<;>cases h
 exact Qf Qd Qe rfl rfl rfl rfl (λg vs p h=>by simp [z61.C] at h) ⟨Tryz.func280,rfl,by kernel_rfl⟩ rfl (z61.link _) z11.hdec
theorem z62.sound:Sn z62.pack 262:=by
 intro vs p h;unfold z62.pack at h;split at h<;>cases h
 exact Qf Qd Qe rfl rfl rfl rfl (λg vs p h=>by unfold z62.C at h;simp only at h;split at h;exact z61.sound vs p h;simp at h) ⟨Tryz.func262,rfl,by kernel_rfl⟩ rfl (z62.link _) z11.hdec
theorem z63.l0b8_sound (hI:InlOK Tryz.prog z63.C λR=>z63.C.inlK 6):Qi z63.C 6 261 0 0 (Qg 0 (ifun Tryz.f261).body) z63.l0b8sh z63.l0b8pack:=by
 refine Qj λls p h=>?_
 unfold z63.l0b8pack at h;split at h<;>cases h
 rename_i a b c e g j m n q r s
 exact Qk hI (sh:=z63.l0b8sh) (so:=z63.l0b8sh) (F:=λR rec done x=>z63.l0b8P g j n rec done x) (enc:=λ(x':(Int×Int))=>Qb z63.l0b8sh [.i a,.i b,.i c,.i e,.i g,.i j,.i m,.i n,.i q,.i x'.1,.i x'.2]) [9,10] [9,10] (r,s) (by kernel_rfl) (by kernel_rfl) (λx=>by kernel_rfl) (λo=>by kernel_rfl) λR k d x'=>z63.l0b8_link R k d a b c e g j m n q (x'.1) (x'.2)
theorem z63.l2b8_sound (hI:InlOK Tryz.prog z63.C λR=>z63.C.inlK 6):Qi z63.C 6 261 2 0 (Qg 2 (ifun Tryz.f261).body) z63.l2b8sh z63.l2b8pack:=by
 refine Qj λls p h=>?_
 unfold z63.l2b8pack at h;split at h<;>cases h
 rename_i a b c e g j m n q r s
 exact Qk hI (sh:=z63.l2b8sh) (so:=z63.l2b8sh) (F:=λR rec done x=>z63.l2b8P g j m rec done x) (enc:=λ(x':(Int×Int))=>Qb z63.l2b8sh [.i a,.i b,.i c,.i e,.i g,.i j,.i m,.i n,.i x'.1,.i r,.i x'.2]) [8,10] [8,10] (q,s) (by kernel_rfl) (by kernel_rfl) (λx=>by kernel_rfl) (λo=>by kernel_rfl) λR k d x'=>z63.l2b8_link R k d a b c e g j m n (x'.1) r (x'.2)
theorem Qs9:Ql (ifun Tryz.f261).body=true:=by kernel_rfl
theorem z63.loopsT (hI:InlOK Tryz.prog z63.C λR=>z63.C.inlK 6):LoopsOK z63.C (λR=>z63.C.inlK 6) 261 0 (ifun Tryz.f261).body:=by
 intro id b hm st p hp
 obtain rfl:=Qn Qs9 hm
 unfold z63.C at hp
 simp only at hp
 try split at hp
 all_goals first
  |(simp at hp;done)
  |(exfalso;omega)
  |exact z63.l0b8_sound hI st p hp
  |exact z63.l2b8_sound hI st p hp
theorem z63.sound:Sn z63.pack 261:=by
 intro vs p h;unfold z63.pack at h;split at h<;>cases h
 exact Qq Qd Qe rfl rfl rfl (λg vs p h=>by unfold z63.C at h;simp only at h;split at h;exact z62.sound vs p h;simp at h) ⟨Tryz.func261,rfl,by kernel_rfl⟩ z63.loopsT rfl (z63.link _ _ _) z39.hdec
theorem z64.l0_sound (hI:InlOK Tryz.prog z64.C λR=>z64.C.inlK 6):Qi z64.C 6 224 0 0 (Qg 0 (ifun Tryz.f224).body) z64.l0sh z64.l0pack:=by
 refine Qj λls p h=>?_
 unfold z64.l0pack at h;split at h<;>cases h
 rename_i a b c e g j m
 exact Qk hI (sh:=z64.l0sh) (so:=z64.l0sh) (F:=λR rec done x=>z64.l0P a b rec done x) (enc:=λ(x':(Int×Int×J0))=>Qb z64.l0sh [.li a,.i b,.i c,.i x'.1,.i x'.2.1,.li j,.li x'.2.2]) [3,4,6] [3,4,6] (e,g,m) (by kernel_rfl) (by kernel_rfl) (λx=>by kernel_rfl) (λo=>by kernel_rfl) λR k d x'=>z64.l0_link R k d a b c (x'.1) (x'.2.1) j (x'.2.2)
theorem Qsc:Ql (ifun Tryz.f224).body=true:=by kernel_rfl
theorem z64.loopsT (hI:InlOK Tryz.prog z64.C λR=>z64.C.inlK 6):LoopsOK z64.C (λR=>z64.C.inlK 6) 224 0 (ifun Tryz.f224).body:=by
 intro id b hm st p hp
 obtain rfl:=Qn Qsc hm
 unfold z64.C at hp
 simp only at hp
 try split at hp
 all_goals first
  |(simp at hp;done)
  |(exfalso;omega)
  |exact z64.l0_sound hI st p hp
theorem z64.sound:Sn z64.pack 224:=by
 intro vs p h;unfold z64.pack at h;split at h<;>cases h
 exact Qq Qd Qe rfl rfl rfl (λg vs p h=>by unfold z64.C at h;simp only at h;split at h;exact z63.sound vs p h;simp at h) ⟨Tryz.func224,rfl,by kernel_rfl⟩ z64.loopsT rfl (z64.link _ _) (by intro v r h;unfold z64.dec at h;split at h<;>cases h;exact ⟨rfl,rfl⟩)
theorem z65.sound:Sn z65.pack 281:=by
 intro vs p h;unfold z65.pack at h;split at h<;>cases h
 exact Qf Qd Qe rfl rfl rfl rfl (λg vs p h=>by simp [z65.C] at h) ⟨Tryz.func281,rfl,by kernel_rfl⟩ rfl (z65.link _) z10.hdec
theorem z66.l0_sound (hI:InlOK Tryz.prog z66.C λR=>z66.C.inlK 6):Qi z66.C 6 267 0 0 (Qg 0 (ifun Tryz.f267).body) z66.l0sh z66.l0pack:=by
 refine Qj λls p h=>?_
 unfold z66.l0pack at h;split at h<;>cases h
 rename_i a b c e g j m q
 exact Qk hI (sh:=z66.l0sh) (so:=z66.l0sh) (F:=λR rec done x=>z66.l0P b c e g rec done x) (enc:=λ(x':(Int×J0))=>Qb z66.l0sh [.i a,.n b,.n c,.i e,.i g,.i x'.1,.li m,.li x'.2]) [5,7] [5,7] (j,q) (by kernel_rfl) (by kernel_rfl) (λx=>by kernel_rfl) (λo=>by kernel_rfl) λR k d x'=>z66.l0_link R k d a b c e g (x'.1) m (x'.2)
theorem Qvi:Ql (ifun Tryz.f267).body=true:=by kernel_rfl
theorem z66.loopsT (hI:InlOK Tryz.prog z66.C λR=>z66.C.inlK 6):LoopsOK z66.C (λR=>z66.C.inlK 6) 267 0 (ifun Tryz.f267).body:=by
 intro id b hm st p hp
 obtain rfl:=Qn Qvi hm
 unfold z66.C at hp
 simp only at hp
 try split at hp
 all_goals first
  |(simp at hp;done)
  |(exfalso;omega)
  |exact z66.l0_sound hI st p hp
theorem z66.loops188 (hI:InlOK Tryz.prog z66.C λR=>z66.C.inlK 1) (base:Nat):LoopsOK z66.C (λR=>z66.C.inlK 1) 188 base (ifun Tryz.f188).body:=by
 intro id b hm st p hp
 exfalso
 unfold z66.C at hp
 simp only at hp
 try split at hp
 all_goals first|(simp at hp;done)|omega
theorem z66.inlF:InlF Tryz.prog z66.C where
 prim g h hp:=by
  unfold z66.C at hp;simp only at hp;split at hp
  ·simp only [Option.some.injEq] at hp;subst hp;exact prim222
  ·simp at hp
 fn g fn h:=by
  unfold z66.C at h;simp only at h;split at h
  ·simp only [Option.some.injEq] at h;subst h;exact ⟨_,_,fun188,rfl⟩
  ·simp at h
 loops g fn h:=by
  unfold z66.C at h;simp only at h;split at h
  ·simp only [Option.some.injEq] at h;subst h;exact λhI base=>z66.loops188 hI base
  ·simp at h
theorem z66.sound:Sn z66.pack 267:=by
 intro vs p h;unfold z66.pack at h;split at h<;>cases h
 exact Qa4 Qd Qe rfl (λg vs p h=>by unfold z66.C at h;simp only at h;split at h;exact z65.sound vs p h;exact z38.sound vs p h;simp at h) z66.inlF ⟨Tryz.func267,rfl,by kernel_rfl⟩ z66.loopsT rfl (z66.link _ _) z41.hdec
theorem z67.l0_sound (hI:InlOK Tryz.prog z67.C λR=>z67.C.inlK 0):Qi z67.C 0 263 0 2 (Qg 0 (ifun Tryz.f263).body) z67.l0sh z67.l0pack:=by
 refine Qj λls p h=>?_
 unfold z67.l0pack at h;split at h<;>cases h
 rename_i a b c e g j m n
 exact Qk hI (sh:=z67.l0sh) (so:=z67.l0sh) (F:=λR rec done x=>z67.l0P a b c rec done x) (enc:=λ(x':(Int×J0))=>Qb z67.l0sh [.i a,.li b,.i c,.i x'.1,.li g,.li j,.li m,.li x'.2]) [3,7] [3,7] (e,n) (by kernel_rfl) (by kernel_rfl) (λx=>by kernel_rfl) (λo=>by kernel_rfl) λR k d x'=>z67.l0_link R k d a b c (x'.1) g j m (x'.2)
theorem z67.l0a_sound (hI:InlOK Tryz.prog z67.C λR=>z67.C.inlK 0):Qi z67.C 0 263 0 4 (Qg 0 (ifun Tryz.f263).body) z67.l0ash z67.l0apack:=by
 refine Qj λls p h=>?_
 unfold z67.l0apack at h;split at h<;>cases h
 rename_i a b c e g j m n q r
 exact Qk hI (sh:=z67.l0ash) (so:=z67.l0ash) (F:=λR rec done x=>z67.l0aP a b c rec done x) (enc:=λ(x':(Int×J0))=>Qb z67.l0ash [.i a,.li b,.i c,.i x'.1,.li g,.li j,.li m,.li n,.li q,.li x'.2]) [3,9] [3,9] (e,r) (by kernel_rfl) (by kernel_rfl) (λx=>by kernel_rfl) (λo=>by kernel_rfl) λR k d x'=>z67.l0a_link R k d a b c (x'.1) g j m n q (x'.2)
theorem z67.l0b3_sound (hI:InlOK Tryz.prog z67.C λR=>z67.C.inlK 0):Qi z67.C 0 265 0 7 (Qg 0 (ifun Tryz.f265).body) z67.l0b3sh z67.l0b3pack:=by
 refine Qj λls p h=>?_
 unfold z67.l0b3pack at h;split at h<;>cases h
 rename_i a b c e g j m q r s t u v w y z A
 exact Qk hI (sh:=z67.l0b3sh) (so:=z67.l0b3sh) (F:=λR rec done x=>z67.l0b3P a b g r s t z rec done x) (enc:=λ(x':(Int×Int×Int×J0))=>Qb z67.l0b3sh [.n a,.n b,.n c,.n e,.i g,.i j,.i x'.1,.i x'.2.1,.n r,.n s,.i t,.i x'.2.2.1,.li v,.li w,.li x'.2.2.2,.li z,.li A]) [6,7,11,14] [6,7,11,14] (m,q,u,y) (by kernel_rfl) (by kernel_rfl) (λx=>by kernel_rfl) (λo=>by kernel_rfl) λR k d x'=>z67.l0b3_link R k d a b c e g j (x'.1) (x'.2.1) r s t (x'.2.2.1) v w (x'.2.2.2) z A
theorem z67.l0b4_sound (hI:InlOK Tryz.prog z67.C λR=>z67.C.inlK 0):Qi z67.C 0 266 0 7 (Qg 0 (ifun Tryz.f266).body) z67.l0b4sh z67.l0b4pack:=by
 refine Qj λls p h=>?_
 unfold z67.l0b4pack at h;split at h<;>cases h
 rename_i a b c e g j m q r s t u v w
 exact Qk hI (sh:=z67.l0b4sh) (so:=z67.l0b4sh) (F:=λR rec done x=>z67.l0b4P a b j m q v rec done x) (enc:=λ(x':(Int×Int×J0))=>Qb z67.l0b4sh [.n a,.n b,.n c,.n e,.i x'.1,.n j,.n m,.i q,.i x'.2.1,.li s,.li t,.li x'.2.2,.li v,.li w]) [4,8,11] [4,8,11] (g,r,u) (by kernel_rfl) (by kernel_rfl) (λx=>by kernel_rfl) (λo=>by kernel_rfl) λR k d x'=>z67.l0b4_link R k d a b c e (x'.1) j m q (x'.2.1) s t (x'.2.2) v w
theorem z67.l2_sound (hI:InlOK Tryz.prog z67.C λR=>z67.C.inlK 6):Qi z67.C 6 225 2 0 (Qg 2 (ifun Tryz.f225).body) z67.l2sh z67.l2pack:=by
 refine Qj λls p h=>?_
 unfold z67.l2pack at h;split at h<;>cases h
 rename_i a b c e g j m q r s t u v
 exact Qk hI (sh:=z67.l2sh) (so:=z67.l2sh) (F:=λR rec done x=>z67.l2P a b g j u rec done x) (enc:=λ(x':(Int×Int×J0))=>Qb z67.l2sh [.n a,.n b,.i c,.i e,.n g,.n j,.i x'.1,.i x'.2.1,.li r,.li s,.li x'.2.2,.li u,.li v]) [6,7,10] [6,7,10] (m,q,t) (by kernel_rfl) (by kernel_rfl) (λx=>by kernel_rfl) (λo=>by kernel_rfl) λR k d x'=>z67.l2_link R k d a b c e g j (x'.1) (x'.2.1) r s (x'.2.2) u v
theorem z67.l0aa_sound (hI:InlOK Tryz.prog z67.C λR=>z67.C.inlK 6):Qi z67.C 6 225 0 0 (Qg 0 (ifun Tryz.f225).body) z67.l0aash z67.l0aapack:=by
 refine Qj λls p h=>?_
 unfold z67.l0aapack at h;split at h<;>cases h
 rename_i a b c e g j m q r
 exact Qk hI (sh:=z67.l0aash) (so:=z67.l0aash) (F:=λR rec done x=>z67.l0aaP a b q rec done x) (enc:=λ(x':(Int×J0×J0))=>Qb z67.l0aash [.n a,.n b,.i c,.i x'.1,.li g,.li j,.li x'.2.1,.li q,.li x'.2.2]) [3,6,8] [3,6,8] (e,m,r) (by kernel_rfl) (by kernel_rfl) (λx=>by kernel_rfl) (λo=>by kernel_rfl) λR k d x'=>z67.l0aa_link R k d a b c (x'.1) g j (x'.2.1) q (x'.2.2)
theorem Qt6:Ql (ifun Tryz.f225).body=true:=by kernel_rfl
theorem Qsg:Ql (ifun Tryz.f263).body=true:=by kernel_rfl
theorem Qq8:Ql (ifun Tryz.f265).body=true:=by kernel_rfl
theorem Qr0:Ql (ifun Tryz.f266).body=true:=by kernel_rfl
theorem z67.loopsT (hI:InlOK Tryz.prog z67.C λR=>z67.C.inlK 6):LoopsOK z67.C (λR=>z67.C.inlK 6) 225 0 (ifun Tryz.f225).body:=by
 intro id b hm st p hp
 obtain rfl:=Qn Qt6 hm
 unfold z67.C at hp
 simp only at hp
 try split at hp
 all_goals first
  |(simp at hp;done)
  |(exfalso;omega)
  |exact z67.l2_sound hI st p hp
  |exact z67.l0aa_sound hI st p hp
theorem z67.loops263 (hI:InlOK Tryz.prog z67.C λR=>z67.C.inlK 0) (base:Nat):LoopsOK z67.C (λR=>z67.C.inlK 0) 263 base (ifun Tryz.f263).body:=by
 intro id b hm st p hp
 obtain rfl:=Qn Qsg hm
 unfold z67.C at hp
 simp only at hp
 by_cases hb2:base=2
 ·subst hb2
  try split at hp
  all_goals first
   |(simp at hp;done)
   |(exfalso;omega)
   |exact z67.l0_sound hI st p hp
 by_cases hb4:base=4
 ·subst hb4
  try split at hp
  all_goals first
   |(simp at hp;done)
   |(exfalso;omega)
   |exact z67.l0a_sound hI st p hp
 exfalso
 try split at hp
 all_goals first|(simp at hp;done)|omega
theorem z67.loops264 (hI:InlOK Tryz.prog z67.C λR=>z67.C.inlK 0) (base:Nat):LoopsOK z67.C (λR=>z67.C.inlK 0) 264 base (ifun Tryz.f264).body:=by
 intro id b hm st p hp
 exfalso
 unfold z67.C at hp
 simp only at hp
 try split at hp
 all_goals first|(simp at hp;done)|omega
theorem z67.loops265 (hI:InlOK Tryz.prog z67.C λR=>z67.C.inlK 0) (base:Nat):LoopsOK z67.C (λR=>z67.C.inlK 0) 265 base (ifun Tryz.f265).body:=by
 intro id b hm st p hp
 obtain rfl:=Qn Qq8 hm
 unfold z67.C at hp
 simp only at hp
 try split at hp
 all_goals first
  |(simp at hp;done)
  |(exfalso;omega)
  |exact z67.l0b3_sound hI st p hp
theorem z67.loops266 (hI:InlOK Tryz.prog z67.C λR=>z67.C.inlK 0) (base:Nat):LoopsOK z67.C (λR=>z67.C.inlK 0) 266 base (ifun Tryz.f266).body:=by
 intro id b hm st p hp
 obtain rfl:=Qn Qr0 hm
 unfold z67.C at hp
 simp only at hp
 try split at hp
 all_goals first
  |(simp at hp;done)
  |(exfalso;omega)
  |exact z67.l0b4_sound hI st p hp
theorem z67.inlF:InlF Tryz.prog z67.C where
 prim g h hp:=by simp [z67.C] at hp
 fn g fn h:=by
  unfold z67.C at h;simp only at h;split at h
  ·simp only [Option.some.injEq] at h;subst h;exact ⟨_,_,⟨Tryz.func263,rfl,by kernel_rfl⟩,rfl⟩
  ·simp only [Option.some.injEq] at h;subst h;exact ⟨_,_,⟨Tryz.func264,rfl,by kernel_rfl⟩,rfl⟩
  ·simp only [Option.some.injEq] at h;subst h;exact ⟨_,_,⟨Tryz.func265,rfl,by kernel_rfl⟩,rfl⟩
  ·simp only [Option.some.injEq] at h;subst h;exact ⟨_,_,⟨Tryz.func266,rfl,by kernel_rfl⟩,rfl⟩
  ·simp at h
 loops g fn h:=by
  unfold z67.C at h;simp only at h;split at h
  ·simp only [Option.some.injEq] at h;subst h;exact λhI base=>z67.loops263 hI base
  ·simp only [Option.some.injEq] at h;subst h;exact λhI base=>z67.loops264 hI base
  ·simp only [Option.some.injEq] at h;subst h;exact λhI base=>z67.loops265 hI base
  ·simp only [Option.some.injEq] at h;subst h;exact λhI base=>z67.loops266 hI base
  ·simp at h
theorem z67.sound:Sn z67.pack 225:=by
 intro vs p h;unfold z67.pack at h;split at h<;>cases h
 exact Qa4 Qd Qe rfl (λg vs p h=>by unfold z67.C at h;simp only at h;split at h;exact z62.sound vs p h;exact z39.sound vs p h;exact z0.sound vs p h;exact z1.sound vs p h;exact z63.sound vs p h;exact z38.sound vs p h;exact z66.sound vs p h;exact z60.sound vs p h;simp at h) z67.inlF ⟨Tryz.func225,rfl,by kernel_rfl⟩ z67.loopsT rfl (z67.link _ _) (by intro v r h;unfold z67.dec at h;split at h<;>cases h;exact ⟨rfl,rfl⟩)
theorem z68.sound:Sn z68.pack 162:=by
 intro vs p h;unfold z68.pack at h;split at h<;>cases h
 exact Qf Qd Qe rfl rfl rfl rfl (λg vs p h=>by unfold z68.C at h;simp only at h;split at h;exact z19.sound vs p h;exact z29.sound vs p h;exact z60.sound vs p h;exact z64.sound vs p h;exact z38.sound vs p h;exact z67.sound vs p h;simp at h) ⟨Tryz.func162,rfl,by kernel_rfl⟩ rfl (z68.link _ _) (by intro v r h;unfold z68.dec at h;split at h<;>cases h;exact ⟨rfl,rfl⟩)
theorem z69.l0_sound (hI:InlOK Tryz.prog z69.C λR=>z69.C.inlK 6):Qi z69.C 6 226 0 0 (Qg 0 (ifun Tryz.f226).body) z69.l0sh z69.l0pack:=by
 refine Qj λls p h=>?_
 unfold z69.l0pack at h;split at h<;>cases h
 rename_i a b c
 exact Qk hI (sh:=z69.l0sh) (so:=z69.l0sh) (F:=λR rec done x=>z69.l0P rec done x) (enc:=λ(x':(J0×J0))=>Qb z69.l0sh [.li x'.1,.li x'.2,.li c]) [0,1] [0,1] (a,b) (by kernel_rfl) (by kernel_rfl) (λx=>by kernel_rfl) (λo=>by kernel_rfl) λR k d x'=>z69.l0_link R k d (x'.1) (x'.2) c
theorem Qx4:Ql (ifun Tryz.f226).body=true:=by kernel_rfl
theorem z69.loopsT (hI:InlOK Tryz.prog z69.C λR=>z69.C.inlK 6):LoopsOK z69.C (λR=>z69.C.inlK 6) 226 0 (ifun Tryz.f226).body:=by
 intro id b hm st p hp
 obtain rfl:=Qn Qx4 hm
 unfold z69.C at hp
 simp only at hp
 try split at hp
 all_goals first
  |(simp at hp;done)
  |(exfalso;omega)
  |exact z69.l0_sound hI st p hp
theorem z69.sound:Sn z69.pack 226:=by
 intro vs p h;unfold z69.pack at h;split at h<;>cases h
 exact Qq Qd Qe rfl rfl rfl (λg vs p h=>by unfold z69.C at h;simp only at h;split at h;exact z19.sound vs p h;exact z68.sound vs p h;simp at h) ⟨Tryz.func226,rfl,by kernel_rfl⟩ z69.loopsT rfl (z69.link _ _) z23.hdec
theorem z70.sound:Sn z70.pack 163:=by
 intro vs p h;unfold z70.pack at h;split at h<;>cases h
 exact Qf Qd Qe rfl rfl rfl rfl (λg vs p h=>by unfold z70.C at h;simp only at h;split at h;exact z59.sound vs p h;exact z69.sound vs p h;exact z68.sound vs p h;exact z38.sound vs p h;exact z30.sound vs p h;exact z20.sound vs p h;exact z21.sound vs p h;simp at h) ⟨Tryz.func163,rfl,by kernel_rfl⟩ rfl (z70.link _ _ _) z47.hdec
theorem z71.hdec:Q2 z75.dec z71.enc:=by
 intro v r h
 unfold z75.dec at h;split at h<;>cases h
 exact ⟨rfl,rfl⟩
theorem z71.sound:Sn z71.pack 176:=by
 intro vs p h;unfold z71.pack at h;split at h<;>cases h
 exact Qf Qd Qe rfl rfl rfl rfl (λg vs p h=>by unfold z71.C at h;simp only at h;split at h;exact z20.sound vs p h;exact z32.sound vs p h;exact z59.sound vs p h;exact z70.sound vs p h;simp at h) ⟨Tryz.func176,rfl,by kernel_rfl⟩ rfl (z71.link _ _ _ _) z71.hdec
theorem z72.sound:Sn z72.pack 123:=by
 intro vs p h;unfold z72.pack at h;split at h<;>cases h
 exact Qf Qd Qe rfl rfl rfl rfl (λg vs p h=>by unfold z72.C at h;simp only at h;split at h;exact z55.sound vs p h;exact z71.sound vs p h;simp at h) ⟨Tryz.func123,rfl,by kernel_rfl⟩ rfl (z72.link _ _ _) z47.hdec
theorem z73.sound:Sn z73.pack 130:=by
 intro vs p h;unfold z73.pack at h;split at h<;>cases h
 exact Qf Qd Qe rfl rfl rfl rfl (λg vs p h=>by unfold z73.C at h;simp only at h;split at h;exact z38.sound vs p h;exact z24.sound vs p h;simp at h) ⟨Tryz.func130,rfl,by kernel_rfl⟩ rfl (z73.link _ _ _) z23.hdec
theorem z74.sound:Sn z74.pack 157:=by
 intro vs p h;unfold z74.pack at h;split at h<;>cases h
 exact Qf Qd Qe rfl rfl rfl rfl (λg vs p h=>by unfold z74.C at h;simp only at h;split at h;exact z73.sound vs p h;exact z21.sound vs p h;simp at h) ⟨Tryz.func157,rfl,by kernel_rfl⟩ rfl (z74.link _ _ _) z21.hdec
theorem z75.sound:Sn z75.pack 124:=by
 intro vs p h;unfold z75.pack at h;split at h<;>cases h
 exact Qf Qd Qe rfl rfl rfl rfl (λg vs p h=>by unfold z75.C at h;simp only at h;split at h;exact z74.sound vs p h;exact z54.sound vs p h;exact z71.sound vs p h;simp at h) ⟨Tryz.func124,rfl,by kernel_rfl⟩ rfl (z75.link _ _ _ _ _ _) z71.hdec
theorem z76.sound:Sn z76.pack 38:=by
 intro vs p h;unfold z76.pack at h;split at h<;>cases h
 exact Qf Qd Qe rfl rfl rfl rfl (λg vs p h=>by unfold z76.C at h;simp only at h;split at h;exact z50.sound vs p h;exact z48.sound vs p h;exact z52.sound vs p h;exact z53.sound vs p h;exact z20.sound vs p h;exact z57.sound vs p h;exact z58.sound vs p h;exact z72.sound vs p h;exact z47.sound vs p h;exact z75.sound vs p h;simp at h) ⟨Tryz.func38,rfl,by kernel_rfl⟩ rfl (z76.link _) z71.hdec
theorem z77.hdec:Q2 z77.dec z77.enc:=by
 intro v r h
 unfold z77.dec at h;split at h<;>cases h
 exact ⟨rfl,rfl⟩
theorem z77.sound:Sn z77.pack 137:=by
 intro vs p h;unfold z77.pack at h;split at h<;>cases h
 exact Qf Qd Qe rfl rfl rfl rfl (λg vs p h=>by simp [z77.C] at h) ⟨Tryz.func137,rfl,by kernel_rfl⟩ rfl z77.link z77.hdec
theorem z78.sound:Sn z78.pack 47:=by
 intro vs p h;unfold z78.pack at h;split at h<;>cases h
 exact Qf Qd Qe rfl rfl rfl rfl (λg vs p h=>by unfold z78.C at h;simp only at h;split at h;exact z77.sound vs p h;simp at h) ⟨Tryz.func47,rfl,by kernel_rfl⟩ rfl (z78.link _) z5.hdec
theorem z79.sound:Sn z79.pack 214:=by
 intro vs p h;unfold z79.pack at h;split at h<;>cases h
 exact Qf Qd Qe rfl rfl rfl rfl (λg vs p h=>by simp [z79.C] at h) ⟨Tryz.func214,rfl,by kernel_rfl⟩ rfl (z79.link _) z10.hdec
theorem z80.sound:Sn z80.pack 215:=by
 intro vs p h;unfold z80.pack at h;split at h<;>cases h
 exact Qf Qd Qe rfl rfl rfl rfl (λg vs p h=>by simp [z80.C] at h) ⟨Tryz.func215,rfl,by kernel_rfl⟩ rfl z80.link z77.hdec
theorem z81.sound:Sn z81.pack 149:=by
 intro vs p h;unfold z81.pack at h;split at h<;>cases h
 exact Qf Qd Qe rfl rfl rfl rfl (λg vs p h=>by unfold z81.C at h;simp only at h;split at h;exact z79.sound vs p h;exact z80.sound vs p h;simp at h) ⟨Tryz.func149,rfl,by kernel_rfl⟩ rfl (z81.link _) z5.hdec
theorem z82.sound:Sn z82.pack 228:=by
 intro vs p h;unfold z82.pack at h;split at h<;>cases h
 exact Qf Qd Qe rfl rfl rfl rfl (λg vs p h=>by simp [z82.C] at h) ⟨Tryz.func228,rfl,by kernel_rfl⟩ rfl (z82.link _) z10.hdec
theorem z83.sound:Sn z83.pack 257:=by
 intro vs p h;unfold z83.pack at h;split at h<;>cases h
 exact Qf Qd Qe rfl rfl rfl rfl (λg vs p h=>by simp [z83.C] at h) ⟨Tryz.func257,rfl,by kernel_rfl⟩ rfl z83.link z77.hdec
theorem z84.sound:Sn z84.pack 209:=by
 intro vs p h;unfold z84.pack at h;split at h<;>cases h
 exact Qf Qd Qe rfl rfl rfl rfl (λg vs p h=>by unfold z84.C at h;simp only at h;split at h;exact z82.sound vs p h;exact z83.sound vs p h;simp at h) ⟨Tryz.func209,rfl,by kernel_rfl⟩ rfl (z84.link _) z5.hdec
theorem z85.sound:Sn z85.pack 133:=by
 intro vs p h;unfold z85.pack at h;split at h<;>cases h
 exact Qf Qd Qe rfl rfl rfl rfl (λg vs p h=>by unfold z85.C at h;simp only at h;split at h;exact z78.sound vs p h;exact z84.sound vs p h;exact z81.sound vs p h;simp at h) ⟨Tryz.func133,rfl,by kernel_rfl⟩ rfl (z85.link _ _ _ _ _ _ _ _ _ _) z10.hdec
theorem z86.sound:Sn z86.pack 258:=by
 intro vs p h;unfold z86.pack at h;split at h<;>cases h
 exact Qf Qd Qe rfl rfl rfl rfl (λg vs p h=>by simp [z86.C] at h) ⟨Tryz.func258,rfl,by kernel_rfl⟩ rfl (z86.link _) z10.hdec
theorem z87.sound:Sn z87.pack 259:=by
 intro vs p h;unfold z87.pack at h;split at h<;>cases h
 exact Qf Qd Qe rfl rfl rfl rfl (λg vs p h=>by unfold z87.C at h;simp only at h;split at h;exact z86.sound vs p h;simp at h) ⟨Tryz.func259,rfl,by kernel_rfl⟩ rfl (z87.link _) z10.hdec
theorem z88.sound:Sn z88.pack 210:=by
 intro vs p h;unfold z88.pack at h;split at h<;>cases h
 exact Qf Qd Qe rfl rfl rfl rfl (λg vs p h=>by unfold z88.C at h;simp only at h;split at h;exact z86.sound vs p h;exact z87.sound vs p h;simp at h) ⟨Tryz.func210,rfl,by kernel_rfl⟩ rfl (z88.link _ _) z11.hdec
theorem z89.sound:Sn z89.pack 142:=by
 intro vs p h;unfold z89.pack at h;split at h<;>cases h
 exact Qf Qd Qe rfl rfl rfl rfl (λg vs p h=>by unfold z89.C at h;simp only at h;split at h;exact z88.sound vs p h;simp at h) ⟨Tryz.func142,rfl,by kernel_rfl⟩ rfl (z89.link _ _ _) z11.hdec
theorem z90.sound:Sn z90.pack 134:=by
 intro vs p h;unfold z90.pack at h;split at h<;>cases h
 exact Qf Qd Qe rfl rfl rfl rfl (λg vs p h=>by unfold z90.C at h;simp only at h;split at h;exact z89.sound vs p h;exact z88.sound vs p h;simp at h) ⟨Tryz.func134,rfl,by kernel_rfl⟩ rfl (z90.link _ _ _ _) (by intro v r h;unfold z90.dec at h;split at h<;>cases h;exact ⟨rfl,rfl⟩)
theorem z91.sound:Sn z91.pack 44:=by
 intro vs p h;unfold z91.pack at h;split at h<;>cases h
 exact Qf Qd Qe rfl rfl rfl rfl (λg vs p h=>by unfold z91.C at h;simp only at h;split at h;exact z46.sound vs p h;exact z20.sound vs p h;exact z76.sound vs p h;exact z85.sound vs p h;exact z90.sound vs p h;simp at h) ⟨Tryz.func44,rfl,by kernel_rfl⟩ rfl (z91.link _ _ _ _ _ _ _ _ _ _) z11.hdec
theorem z92.l0_sound (hI:InlOK Tryz.prog z92.C λR=>z92.C.inlK 6):Qi z92.C 6 138 0 0 (Qg 0 (ifun Tryz.f138).body) z92.l0sh z92.l0pack:=by
 refine Qj λls p h=>?_
 unfold z92.l0pack at h;split at h<;>cases h
 rename_i a b c e g j m n q
 exact Yy hI (sh:=z92.l0sh) (so:=z92.l0sh) (so':=z92.l0so1) (F:=λR rec done x=>z92.l0P a b g j m rec done x) (enc:=λ(x':(Int×J2))=>Qb z92.l0sh [.i a,.i b,.i c,.i x'.1,.i g,.i j,.i m,.lr n,.lr x'.2]) (.exit 0) [3,8] [3,8] [0,1,6] (e,q) (by kernel_rfl) (by kernel_rfl) (λx=>by kernel_rfl) (λo=>by kernel_rfl) (λo=>by kernel_rfl) λR k d x'=>z92.l0_link R k d a b c (x'.1) g j m n (x'.2)
theorem Qqt:Ql (ifun Tryz.f138).body=true:=by kernel_rfl
theorem z92.loopsT (hI:InlOK Tryz.prog z92.C λR=>z92.C.inlK 6):LoopsOK z92.C (λR=>z92.C.inlK 6) 138 0 (ifun Tryz.f138).body:=by
 intro id b hm st p hp
 obtain rfl:=Qn Qqt hm
 unfold z92.C at hp
 simp only at hp
 try split at hp
 all_goals first
  |(simp at hp;done)
  |(exfalso;omega)
  |exact z92.l0_sound hI st p hp
theorem z92.hdec:Q2 z92.dec z92.enc:=by
 intro v r h
 unfold z92.dec at h;split at h<;>cases h
 exact ⟨rfl,rfl⟩
theorem z92.sound:Sn z92.pack 138:=by
 intro vs p h;unfold z92.pack at h;split at h<;>cases h
 exact Qq Qd Qe rfl rfl rfl (λg vs p h=>by unfold z92.C at h;simp only at h;split at h;exact z89.sound vs p h;exact z90.sound vs p h;simp at h) ⟨Tryz.func138,rfl,by kernel_rfl⟩ z92.loopsT rfl (z92.link _ _ _ _ _) z92.hdec
theorem z93.sound:Sn z93.pack 48:=by
 intro vs p h;unfold z93.pack at h;split at h<;>cases h
 exact Qf Qd Qe rfl rfl rfl rfl (λg vs p h=>by unfold z93.C at h;simp only at h;split at h;exact z91.sound vs p h;exact z92.sound vs p h;simp at h) ⟨Tryz.func48,rfl,by kernel_rfl⟩ rfl (z93.link _ _ _ _ _ _ _ _ _ _) z92.hdec
theorem z94.l0_sound (hI:InlOK Tryz.prog z94.C λR=>z94.C.inlK 6):Qi z94.C 6 49 0 0 (Qg 0 (ifun Tryz.f49).body) z94.l0sh z94.l0pack:=by
 refine Qj λls p h=>?_
 unfold z94.l0pack at h;split at h<;>cases h
 rename_i a b c e g j m n q
 exact Qk hI (sh:=z94.l0sh) (so:=z94.l0sh) (F:=λR rec done x=>z94.l0P b c rec done x) (enc:=λ(x':(Int×J2×Int×Int×Int))=>Qb z94.l0sh [.i a,.lr b,.i c,.i x'.1,.lr g,.lr x'.2.1,.i x'.2.2.1,.i x'.2.2.2.1,.i x'.2.2.2.2]) [3,5,6,7,8] [3,5,6,7,8] (e,j,m,n,q) (by kernel_rfl) (by kernel_rfl) (λx=>by kernel_rfl) (λo=>by kernel_rfl) λR k d x'=>z94.l0_link R k d a b c (x'.1) g (x'.2.1) (x'.2.2.1) (x'.2.2.2.1) (x'.2.2.2.2)
theorem Qse:Ql (ifun Tryz.f49).body=true:=by kernel_rfl
theorem z94.loopsT (hI:InlOK Tryz.prog z94.C λR=>z94.C.inlK 6):LoopsOK z94.C (λR=>z94.C.inlK 6) 49 0 (ifun Tryz.f49).body:=by
 intro id b hm st p hp
 obtain rfl:=Qn Qse hm
 unfold z94.C at hp
 simp only at hp
 try split at hp
 all_goals first
  |(simp at hp;done)
  |(exfalso;omega)
  |exact z94.l0_sound hI st p hp
theorem z94.sound:Sn z94.pack 49:=by
 intro vs p h;unfold z94.pack at h;split at h<;>cases h
 exact Qq Qd Qe rfl rfl rfl (λg vs p h=>by unfold z94.C at h;simp only at h;split at h;exact z93.sound vs p h;simp at h) ⟨Tryz.func49,rfl,by kernel_rfl⟩ z94.loopsT rfl (z94.link _ _ _ _ _ _ _ _ _ _) (by intro v r h;unfold z94.dec at h;split at h<;>cases h;exact ⟨rfl,rfl⟩)
theorem z95.l0_sound (hI:InlOK Tryz.prog z95.C λR=>z95.C.inlK 6):Qi z95.C 6 145 0 0 (Qg 0 (ifun Tryz.f145).body) z95.l0sh z95.l0pack:=by
 refine Qj λls p h=>?_
 unfold z95.l0pack at h;split at h<;>cases h
 rename_i a b c e g
 exact Yy hI (sh:=z95.l0sh) (so:=z95.l0sh) (so':=z95.l0so1) (F:=λR rec done x=>z95.l0P b c e rec done x) (enc:=λ(x':Int)=>Qb z95.l0sh [.i a,.i b,.li c,.i e,.i x']) (.exit 0) [4] [4] [0] g (by kernel_rfl) (by kernel_rfl) (λx=>by kernel_rfl) (λo=>by kernel_rfl) (λo=>by kernel_rfl) λR k d x'=>z95.l0_link R k d a b c e (x')
theorem Qwi:Ql (ifun Tryz.f145).body=true:=by kernel_rfl
theorem z95.loopsT (hI:InlOK Tryz.prog z95.C λR=>z95.C.inlK 6):LoopsOK z95.C (λR=>z95.C.inlK 6) 145 0 (ifun Tryz.f145).body:=by
 intro id b hm st p hp
 obtain rfl:=Qn Qwi hm
 unfold z95.C at hp
 simp only at hp
 try split at hp
 all_goals first
  |(simp at hp;done)
  |(exfalso;omega)
  |exact z95.l0_sound hI st p hp
theorem z95.sound:Sn z95.pack 145:=by
 intro vs p h;unfold z95.pack at h;split at h<;>cases h
 exact Qq Qd Qe rfl rfl rfl (λg vs p h=>by simp [z95.C] at h) ⟨Tryz.func145,rfl,by kernel_rfl⟩ z95.loopsT rfl (z95.link _) z11.hdec
theorem z96.sound:Sn z96.pack 57:=by
 intro vs p h;unfold z96.pack at h;split at h<;>cases h
 exact Qf Qd Qe rfl rfl rfl rfl (λg vs p h=>by unfold z96.C at h;simp only at h;split at h;exact z26.sound vs p h;exact z95.sound vs p h;simp at h) ⟨Tryz.func57,rfl,by kernel_rfl⟩ rfl (z96.link _ _ _ _ _ _) z11.hdec
theorem z97.sound:Sn z97.pack 211:=by
 intro vs p h;unfold z97.pack at h;split at h<;>cases h
 exact Qf Qd Qe rfl rfl rfl rfl (λg vs p h=>by simp [z97.C] at h) ⟨Tryz.func211,rfl,by kernel_rfl⟩ rfl (z97.link _) z11.hdec
theorem z98.l0_sound (hI:InlOK Tryz.prog z98.C λR=>z98.C.inlK 6):Qi z98.C 6 140 0 0 (Qg 0 (ifun Tryz.f140).body) z98.l0sh z98.l0pack:=by
 refine Qj λls p h=>?_
 unfold z98.l0pack at h;split at h<;>cases h
 rename_i a b c e g j m
 exact Qk hI (sh:=z98.l0sh) (so:=z98.l0sh) (F:=λR rec done x=>z98.l0P g j rec done x) (enc:=λ(x':(Int×Int))=>Qb z98.l0sh [.i a,.i b,.i x'.1,.i x'.2,.i g,.i j,.i m]) [2,3] [2,3] (c,e) (by kernel_rfl) (by kernel_rfl) (λx=>by kernel_rfl) (λo=>by kernel_rfl) λR k d x'=>z98.l0_link R k d a b (x'.1) (x'.2) g j m
theorem Qqc:Ql (ifun Tryz.f140).body=true:=by kernel_rfl
theorem z98.loopsT (hI:InlOK Tryz.prog z98.C λR=>z98.C.inlK 6):LoopsOK z98.C (λR=>z98.C.inlK 6) 140 0 (ifun Tryz.f140).body:=by
 intro id b hm st p hp
 obtain rfl:=Qn Qqc hm
 unfold z98.C at hp
 simp only at hp
 try split at hp
 all_goals first
  |(simp at hp;done)
  |(exfalso;omega)
  |exact z98.l0_sound hI st p hp
theorem z98.hdec:Q2 z98.dec z98.enc:=by
 intro v r h
 unfold z98.dec at h;split at h<;>cases h
 exact ⟨rfl,rfl⟩
theorem z98.sound:Sn z98.pack 140:=by
 intro vs p h;unfold z98.pack at h;split at h<;>cases h
 exact Qq Qd Qe rfl rfl rfl (λg vs p h=>by unfold z98.C at h;simp only at h;split at h;exact z89.sound vs p h;exact z97.sound vs p h;exact z88.sound vs p h;simp at h) ⟨Tryz.func140,rfl,by kernel_rfl⟩ z98.loopsT rfl (z98.link _ _ _) z98.hdec
theorem z99.l2_sound (hI:InlOK Tryz.prog z99.C λR=>z99.C.inlK 6):Qi z99.C 6 192 2 0 (Qg 2 (ifun Tryz.f192).body) z99.l2sh z99.l2pack:=by
 refine Qj λls p h=>?_
 unfold z99.l2pack at h;split at h<;>cases h
 rename_i a b c e g j
 exact Qk hI (sh:=z99.l2sh) (so:=z99.l2sh) (F:=λR rec done x=>z99.l2P a b rec done x) (enc:=λ(x':(Int×Int))=>Qb z99.l2sh [.s a,.i b,.i x'.1,.i x'.2,.li g,.li j]) [2,3] [2,3] (c,e) (by kernel_rfl) (by kernel_rfl) (λx=>by kernel_rfl) (λo=>by kernel_rfl) λR k d x'=>z99.l2_link R k d a b (x'.1) (x'.2) g j
theorem z99.l0_sound (hI:InlOK Tryz.prog z99.C λR=>z99.C.inlK 6):Qi z99.C 6 192 0 0 (Qg 0 (ifun Tryz.f192).body) z99.l0sh z99.l0pack:=by
 refine Qj λls p h=>?_
 unfold z99.l0pack at h;split at h<;>cases h
 rename_i a b c e
 exact Qk hI (sh:=z99.l0sh) (so:=z99.l0sh) (F:=λR rec done x=>z99.l0P a rec done x) (enc:=λ(x':(Int×J0))=>Qb z99.l0sh [.s a,.i x'.1,.li c,.li x'.2]) [1,3] [1,3] (b,e) (by kernel_rfl) (by kernel_rfl) (λx=>by kernel_rfl) (λo=>by kernel_rfl) λR k d x'=>z99.l0_link R k d a (x'.1) c (x'.2)
theorem Qtw:Ql (ifun Tryz.f192).body=true:=by kernel_rfl
theorem z99.loopsT (hI:InlOK Tryz.prog z99.C λR=>z99.C.inlK 6):LoopsOK z99.C (λR=>z99.C.inlK 6) 192 0 (ifun Tryz.f192).body:=by
 intro id b hm st p hp
 obtain rfl:=Qn Qtw hm
 unfold z99.C at hp
 simp only at hp
 try split at hp
 all_goals first
  |(simp at hp;done)
  |(exfalso;omega)
  |exact z99.l2_sound hI st p hp
  |exact z99.l0_sound hI st p hp
theorem z99.sound:Sn z99.pack 192:=by
 intro vs p h;unfold z99.pack at h;split at h<;>cases h
 exact Qq Qd Qe rfl rfl rfl (λg vs p h=>by unfold z99.C at h;simp only at h;split at h;exact z14.sound vs p h;simp at h) ⟨Tryz.func192,rfl,by kernel_rfl⟩ z99.loopsT rfl (z99.link _) z8.hdec
theorem z100.sound:Sn z100.pack 103:=by
 intro vs p h;unfold z100.pack at h;split at h<;>cases h
 exact Qf Qd Qe rfl rfl rfl rfl (λg vs p h=>by unfold z100.C at h;simp only at h;split at h;exact z99.sound vs p h;exact z7.sound vs p h;simp at h) ⟨Tryz.func103,rfl,by kernel_rfl⟩ rfl (z100.link _) z7.hdec
theorem z101.l0b4_sound (hI:InlOK Tryz.prog z101.C λR=>z101.C.inlK 6):Qi z101.C 6 196 0 0 (Qg 0 (ifun Tryz.f196).body) z101.l0b4sh z101.l0b4pack:=by
 refine Qj λls p h=>?_
 unfold z101.l0b4pack at h;split at h<;>cases h
 rename_i a c e
 exact Yy hI (sh:=z101.l0b4sh) (so:=z101.l0b4sh) (so':=z101.l0b4so1) (F:=λR rec done x=>z101.l0b4P a rec done x) (enc:=λ(x':Int)=>Qb z101.l0b4sh [.s a,.b c,.i x']) (.exit 0) [2] [2] [0] e (by kernel_rfl) (by kernel_rfl) (λx=>by kernel_rfl) (λo=>by kernel_rfl) (λo=>by kernel_rfl) λR k d x'=>z101.l0b4_link R k d a c (x')
theorem Qvo:Ql (ifun Tryz.f196).body=true:=by kernel_rfl
theorem z101.loopsT (hI:InlOK Tryz.prog z101.C λR=>z101.C.inlK 6):LoopsOK z101.C (λR=>z101.C.inlK 6) 196 0 (ifun Tryz.f196).body:=by
 intro id b hm st p hp
 obtain rfl:=Qn Qvo hm
 unfold z101.C at hp
 simp only at hp
 try split at hp
 all_goals first
  |(simp at hp;done)
  |(exfalso;omega)
  |exact z101.l0b4_sound hI st p hp
theorem z101.sound:Sn z101.pack 196:=by
 intro vs p h;unfold z101.pack at h;split at h<;>cases h
 exact Qq Qd Qe rfl rfl rfl (λg vs p h=>by simp [z101.C] at h) ⟨Tryz.func196,rfl,by kernel_rfl⟩ z101.loopsT rfl (z101.link _) z10.hdec
theorem z102.hdec:Q2 z102.dec z102.enc:=by
 intro v r h
 unfold z102.dec at h;split at h<;>cases h
 exact ⟨rfl,rfl⟩
theorem z102.sound:Sn z102.pack 115:=by
 intro vs p h;unfold z102.pack at h;split at h<;>cases h
 exact Qf Qd Qe rfl rfl rfl rfl (λg vs p h=>by unfold z102.C at h;simp only at h;split at h;exact z9.sound vs p h;exact z101.sound vs p h;exact z100.sound vs p h;simp at h) ⟨Tryz.func115,rfl,by kernel_rfl⟩ rfl (z102.link _) z102.hdec
theorem z103.l0_sound (hI:InlOK Tryz.prog z103.C λR=>z103.C.inlK 6):Qi z103.C 6 116 0 0 (Qg 0 (ifun Tryz.f116).body) z103.l0sh z103.l0pack:=by
 refine Qj λls p h=>?_
 unfold z103.l0pack at h;split at h<;>cases h
 rename_i a b c e
 exact Qk hI (sh:=z103.l0sh) (so:=z103.l0sh) (F:=λR rec done x=>z103.l0P a rec done x) (enc:=λ(x':(J1×Int))=>Qb z103.l0sh [.i a,.s x'.1,.i x'.2,.li e]) [1,2] [1,2] (b,c) (by kernel_rfl) (by kernel_rfl) (λx=>by kernel_rfl) (λo=>by kernel_rfl) λR k d x'=>z103.l0_link R k d a (x'.1) (x'.2) e
theorem Qxd:Ql (ifun Tryz.f116).body=true:=by kernel_rfl
theorem z103.loopsT (hI:InlOK Tryz.prog z103.C λR=>z103.C.inlK 6):LoopsOK z103.C (λR=>z103.C.inlK 6) 116 0 (ifun Tryz.f116).body:=by
 intro id b hm st p hp
 obtain rfl:=Qn Qxd hm
 unfold z103.C at hp
 simp only at hp
 try split at hp
 all_goals first
  |(simp at hp;done)
  |(exfalso;omega)
  |exact z103.l0_sound hI st p hp
theorem z103.sound:Sn z103.pack 116:=by
 intro vs p h;unfold z103.pack at h;split at h<;>cases h
 exact Qq Qd Qe rfl rfl rfl (λg vs p h=>by unfold z103.C at h;simp only at h;split at h;exact z99.sound vs p h;simp at h) ⟨Tryz.func116,rfl,by kernel_rfl⟩ z103.loopsT rfl (z103.link _) z8.hdec
theorem z104.sound:Sn z104.pack 35:=by
 intro vs p h;unfold z104.pack at h;split at h<;>cases h
 exact Qf Qd Qe rfl rfl rfl rfl (λg vs p h=>by unfold z104.C at h;simp only at h;split at h;exact z7.sound vs p h;simp at h) ⟨Tryz.func35,rfl,by kernel_rfl⟩ rfl (z104.link _ _) z7.hdec
theorem z105.l0b6_sound (hI:InlOK Tryz.prog z105.C λR=>z105.C.inlK 6):Qi z105.C 6 170 0 0 (Qg 0 (ifun Tryz.f170).body) z105.l0b6sh z105.l0b6pack:=by
 refine Qj λls p h=>?_
 unfold z105.l0b6pack at h;split at h<;>cases h
 rename_i a b c e g j
 exact Qk hI (sh:=z105.l0b6sh) (so:=z105.l0b6sh) (F:=λR rec done x=>z105.l0b6P a b rec done x) (enc:=λ(x':(Int×Int×J0))=>Qb z105.l0b6sh [.li a,.li b,.i x'.1,.i x'.2.1,.li g,.li x'.2.2]) [2,3,5] [2,3,5] (c,e,j) (by kernel_rfl) (by kernel_rfl) (λx=>by kernel_rfl) (λo=>by kernel_rfl) λR k d x'=>z105.l0b6_link R k d a b (x'.1) (x'.2.1) g (x'.2.2)
theorem Que:Ql (ifun Tryz.f170).body=true:=by kernel_rfl
theorem z105.loopsT (hI:InlOK Tryz.prog z105.C λR=>z105.C.inlK 6):LoopsOK z105.C (λR=>z105.C.inlK 6) 170 0 (ifun Tryz.f170).body:=by
 intro id b hm st p hp
 obtain rfl:=Qn Que hm
 unfold z105.C at hp
 simp only at hp
 try split at hp
 all_goals first
  |(simp at hp;done)
  |(exfalso;omega)
  |exact z105.l0b6_sound hI st p hp
theorem z105.sound:Sn z105.pack 170:=by
 intro vs p h;unfold z105.pack at h;split at h<;>cases h
 exact Qq Qd Qe rfl rfl rfl (λg vs p h=>by unfold z105.C at h;simp only at h;split at h;exact z13.sound vs p h;exact z14.sound vs p h;simp at h) ⟨Tryz.func170,rfl,by kernel_rfl⟩ z105.loopsT rfl (z105.link _ _) z8.hdec
theorem z106.l0_sound (hI:InlOK Tryz.prog z106.C λR=>z106.C.inlK 6):Qi z106.C 6 171 0 0 (Qg 0 (ifun Tryz.f171).body) z106.l0sh z106.l0pack:=by
 refine Qj λls p h=>?_
 unfold z106.l0pack at h;split at h<;>cases h
 rename_i a b c e
 exact Yy hI (sh:=z106.l0sh) (so:=z106.l0sh) (so':=z106.l0so1) (F:=λR rec done x=>z106.l0P a b rec done x) (enc:=λ(x':Int)=>Qb z106.l0sh [.li a,.li b,.i c,.i x']) (.exit 0) [3] [3] [0] e (by kernel_rfl) (by kernel_rfl) (λx=>by kernel_rfl) (λo=>by kernel_rfl) (λo=>by kernel_rfl) λR k d x'=>z106.l0_link R k d a b c (x')
theorem Qta:Ql (ifun Tryz.f171).body=true:=by kernel_rfl
theorem z106.loopsT (hI:InlOK Tryz.prog z106.C λR=>z106.C.inlK 6):LoopsOK z106.C (λR=>z106.C.inlK 6) 171 0 (ifun Tryz.f171).body:=by
 intro id b hm st p hp
 obtain rfl:=Qn Qta hm
 unfold z106.C at hp
 simp only at hp
 try split at hp
 all_goals first
  |(simp at hp;done)
  |(exfalso;omega)
  |exact z106.l0_sound hI st p hp
theorem z106.sound:Sn z106.pack 171:=by
 intro vs p h;unfold z106.pack at h;split at h<;>cases h
 exact Qq Qd Qe rfl rfl rfl (λg vs p h=>by simp [z106.C] at h) ⟨Tryz.func171,rfl,by kernel_rfl⟩ z106.loopsT rfl (z106.link _ _) z11.hdec
theorem z107.l0_sound (hI:InlOK Tryz.prog z107.C λR=>z107.C.inlK 6):Qi z107.C 6 172 0 0 (Qg 0 (ifun Tryz.f172).body) z107.l0sh z107.l0pack:=by
 refine Qj λls p h=>?_
 unfold z107.l0pack at h;split at h<;>cases h
 rename_i a b c e g j
 exact Qk hI (sh:=z107.l0sh) (so:=z107.l0sh) (F:=λR rec done x=>z107.l0P a b rec done x) (enc:=λ(x':(Int×Int×J0))=>Qb z107.l0sh [.li a,.li b,.i x'.1,.i x'.2.1,.li g,.li x'.2.2]) [2,3,5] [2,3,5] (c,e,j) (by kernel_rfl) (by kernel_rfl) (λx=>by kernel_rfl) (λo=>by kernel_rfl) λR k d x'=>z107.l0_link R k d a b (x'.1) (x'.2.1) g (x'.2.2)
theorem Qwd:Ql (ifun Tryz.f172).body=true:=by kernel_rfl
theorem z107.loopsT (hI:InlOK Tryz.prog z107.C λR=>z107.C.inlK 6):LoopsOK z107.C (λR=>z107.C.inlK 6) 172 0 (ifun Tryz.f172).body:=by
 intro id b hm st p hp
 obtain rfl:=Qn Qwd hm
 unfold z107.C at hp
 simp only at hp
 try split at hp
 all_goals first
  |(simp at hp;done)
  |(exfalso;omega)
  |exact z107.l0_sound hI st p hp
theorem z107.sound:Sn z107.pack 172:=by
 intro vs p h;unfold z107.pack at h;split at h<;>cases h
 exact Qq Qd Qe rfl rfl rfl (λg vs p h=>by unfold z107.C at h;simp only at h;split at h;exact z13.sound vs p h;exact z14.sound vs p h;simp at h) ⟨Tryz.func172,rfl,by kernel_rfl⟩ z107.loopsT rfl (z107.link _ _) z8.hdec
theorem z108.sound:Sn z108.pack 85:=by
 intro vs p h;unfold z108.pack at h;split at h<;>cases h
 exact Qf Qd Qe rfl rfl rfl rfl (λg vs p h=>by unfold z108.C at h;simp only at h;split at h;exact z105.sound vs p h;exact z7.sound vs p h;exact z106.sound vs p h;exact z107.sound vs p h;simp at h) ⟨Tryz.func85,rfl,by kernel_rfl⟩ rfl (z108.link _ _ _ _) z7.hdec
theorem z109.sound:Sn z109.pack 63:=by
 intro vs p h;unfold z109.pack at h;split at h<;>cases h
 exact Qf Qd Qe rfl rfl rfl rfl (λg vs p h=>by unfold z109.C at h;simp only at h;split at h;exact z104.sound vs p h;exact z108.sound vs p h;simp at h) ⟨Tryz.func63,rfl,by kernel_rfl⟩ rfl (z109.link _ _ _ _) z7.hdec
theorem z110.sound:Sn z110.pack 197:=by
 intro vs p h;unfold z110.pack at h;split at h<;>cases h
 exact Qf Qd Qe rfl rfl rfl rfl (λg vs p h=>by simp [z110.C] at h) ⟨Tryz.func197,rfl,by kernel_rfl⟩ rfl (z110.link _ _) z11.hdec
theorem z111.sound:Sn z111.pack 117:=by
 intro vs p h;unfold z111.pack at h;split at h<;>cases h
 exact Qf Qd Qe rfl rfl rfl rfl (λg vs p h=>by unfold z111.C at h;simp only at h;split at h;exact z109.sound vs p h;exact z110.sound vs p h;simp at h) ⟨Tryz.func117,rfl,by kernel_rfl⟩ rfl (z111.link _ _ _ _) z11.hdec
theorem z112.sound:Sn z112.pack 37:=by
 intro vs p h;unfold z112.pack at h;split at h<;>cases h
 exact Qf Qd Qe rfl rfl rfl rfl (λg vs p h=>by unfold z112.C at h;simp only at h;split at h;exact z9.sound vs p h;exact z102.sound vs p h;exact z103.sound vs p h;exact z7.sound vs p h;exact z111.sound vs p h;simp at h) ⟨Tryz.func37,rfl,by kernel_rfl⟩ rfl (z112.link _) z102.hdec
theorem z113.l2_sound (hI:InlOK Tryz.prog z113.C λR=>z113.C.inlK 6):Qi z113.C 6 221 2 0 (Qg 2 (ifun Tryz.f221).body) z113.l2sh z113.l2pack:=by
 refine Qj λls p h=>?_
 unfold z113.l2pack at h;split at h<;>cases h
 rename_i a b c e g j m n q
 exact Qk hI (sh:=z113.l2sh) (so:=z113.l2sh) (F:=λR rec done x=>z113.l2P b c rec done x) (enc:=λ(x':(Int×Int))=>Qb z113.l2sh [.li a,.li b,.li c,.i e,.i x'.1,.i x'.2,.li m,.li n,.li q]) [4,5] [4,5] (g,j) (by kernel_rfl) (by kernel_rfl) (λx=>by kernel_rfl) (λo=>by kernel_rfl) λR k d x'=>z113.l2_link R k d a b c e (x'.1) (x'.2) m n q
theorem z113.l0a_sound (hI:InlOK Tryz.prog z113.C λR=>z113.C.inlK 6):Qi z113.C 6 221 0 0 (Qg 0 (ifun Tryz.f221).body) z113.l0ash z113.l0apack:=by
 refine Qj λls p h=>?_
 unfold z113.l0apack at h;split at h<;>cases h
 rename_i a b c e g j m
 exact Qk hI (sh:=z113.l0ash) (so:=z113.l0ash) (F:=λR rec done x=>z113.l0aP a b rec done x) (enc:=λ(x':(J0×Int×J0))=>Qb z113.l0ash [.li a,.li b,.li x'.1,.i x'.2.1,.li g,.li j,.li x'.2.2]) [2,3,6] [2,3,6] (c,e,m) (by kernel_rfl) (by kernel_rfl) (λx=>by kernel_rfl) (λo=>by kernel_rfl) λR k d x'=>z113.l0a_link R k d a b (x'.1) (x'.2.1) g j (x'.2.2)
theorem Qvv:Ql (ifun Tryz.f221).body=true:=by kernel_rfl
theorem z113.loopsT (hI:InlOK Tryz.prog z113.C λR=>z113.C.inlK 6):LoopsOK z113.C (λR=>z113.C.inlK 6) 221 0 (ifun Tryz.f221).body:=by
 intro id b hm st p hp
 obtain rfl:=Qn Qvv hm
 unfold z113.C at hp
 simp only at hp
 try split at hp
 all_goals first
  |(simp at hp;done)
  |(exfalso;omega)
  |exact z113.l2_sound hI st p hp
  |exact z113.l0a_sound hI st p hp
theorem z113.sound:Sn z113.pack 221:=by
 intro vs p h;unfold z113.pack at h;split at h<;>cases h
 exact Qq Qd Qe rfl rfl rfl (λg vs p h=>by unfold z113.C at h;simp only at h;split at h;exact z14.sound vs p h;exact z8.sound vs p h;exact z15.sound vs p h;exact z106.sound vs p h;exact z107.sound vs p h;simp at h) ⟨Tryz.func221,rfl,by kernel_rfl⟩ z113.loopsT rfl (z113.link _ _) (by intro v r h;unfold z113.dec at h;split at h<;>cases h;exact ⟨rfl,rfl⟩)
theorem z114.l0_sound (hI:InlOK Tryz.prog z114.C λR=>z114.C.inlK 6):Qi z114.C 6 256 0 0 (Qg 0 (ifun Tryz.f256).body) z114.l0sh z114.l0pack:=by
 refine Qj λls p h=>?_
 unfold z114.l0pack at h;split at h<;>cases h
 rename_i a b c
 exact Qk hI (sh:=z114.l0sh) (so:=z114.l0sh) (F:=λR rec done x=>z114.l0P rec done x) (enc:=λ(x':(J0×J0))=>Qb z114.l0sh [.li x'.1,.li x'.2,.li c]) [0,1] [0,1] (a,b) (by kernel_rfl) (by kernel_rfl) (λx=>by kernel_rfl) (λo=>by kernel_rfl) λR k d x'=>z114.l0_link R k d (x'.1) (x'.2) c
theorem Qrr:Ql (ifun Tryz.f256).body=true:=by kernel_rfl
theorem z114.loopsT (hI:InlOK Tryz.prog z114.C λR=>z114.C.inlK 6):LoopsOK z114.C (λR=>z114.C.inlK 6) 256 0 (ifun Tryz.f256).body:=by
 intro id b hm st p hp
 obtain rfl:=Qn Qrr hm
 unfold z114.C at hp
 simp only at hp
 try split at hp
 all_goals first
  |(simp at hp;done)
  |(exfalso;omega)
  |exact z114.l0_sound hI st p hp
theorem z114.sound:Sn z114.pack 256:=by
 intro vs p h;unfold z114.pack at h;split at h<;>cases h
 exact Qq Qd Qe rfl rfl rfl (λg vs p h=>by unfold z114.C at h;simp only at h;split at h;exact z113.sound vs p h;simp at h) ⟨Tryz.func256,rfl,by kernel_rfl⟩ z114.loopsT rfl (z114.link _ _) z8.hdec
theorem z115.hdec:Q2 z117.dec z115.enc:=by
 intro v r h
 unfold z117.dec at h;split at h<;>cases h
 exact ⟨rfl,rfl⟩
theorem z115.sound:Sn z115.pack 206:=by
 intro vs p h;unfold z115.pack at h;split at h<;>cases h
 exact Qf Qd Qe rfl rfl rfl rfl (λg vs p h=>by unfold z115.C at h;simp only at h;split at h;exact z114.sound vs p h;exact z113.sound vs p h;exact z7.sound vs p h;simp at h) ⟨Tryz.func206,rfl,by kernel_rfl⟩ rfl (z115.link _ _ _) z115.hdec
theorem z116.sound:Sn z116.pack 205:=by
 intro vs p h;unfold z116.pack at h;split at h<;>cases h
 exact Qf Qd Qe rfl rfl rfl rfl (λg vs p h=>by unfold z116.C at h;simp only at h;split at h;exact z104.sound vs p h;exact z115.sound vs p h;simp at h) ⟨Tryz.func205,rfl,by kernel_rfl⟩ rfl (z116.link _ _ _ _) z115.hdec
theorem z117.sound:Sn z117.pack 125:=by
 intro vs p h;unfold z117.pack at h;split at h<;>cases h
 exact Qf Qd Qe rfl rfl rfl rfl (λg vs p h=>by unfold z117.C at h;simp only at h;split at h;exact z9.sound vs p h;exact z116.sound vs p h;simp at h) ⟨Tryz.func125,rfl,by kernel_rfl⟩ rfl (z117.link _ _) z115.hdec
theorem z118.l0b10_sound (hI:InlOK Tryz.prog z118.C λR=>z118.C.inlK 6):Qi z118.C 6 126 0 0 (Qg 0 (ifun Tryz.f126).body) z118.l0b10sh z118.l0b10pack:=by
 refine Qj λls p h=>?_
 unfold z118.l0b10pack at h;split at h<;>cases h
 rename_i a c e g j m n q r t u v w y
 exact Yy hI (sh:=z118.l0b10sh) (so:=z118.l0b10sh) (so':=z118.l0b10so1) (F:=λR rec done x=>z118.l0b10P a rec done x) (enc:=λ(x':(Int×J1×Int×Int×Bool))=>Qb z118.l0b10sh [.s a,.i c,.b e,.i x'.1,.s x'.2.1,.i x'.2.2.1,.i x'.2.2.2.1,.b x'.2.2.2.2,.li r,.b t,.i u,.li v,.b w,.i y]) (.exit 0) [3,4,5,6,7] [3,4,5,6,7] [0] (g,j,m,n,q) (by kernel_rfl) (by kernel_rfl) (λx=>by kernel_rfl) (λo=>by kernel_rfl) (λo=>by kernel_rfl) λR k d x'=>z118.l0b10_link R k d a c e (x'.1) (x'.2.1) (x'.2.2.1) (x'.2.2.2.1) (x'.2.2.2.2) r t u v w y
theorem Qxk:Ql (ifun Tryz.f126).body=true:=by kernel_rfl
theorem z118.loopsT (hI:InlOK Tryz.prog z118.C λR=>z118.C.inlK 6):LoopsOK z118.C (λR=>z118.C.inlK 6) 126 0 (ifun Tryz.f126).body:=by
 intro id b hm st p hp
 obtain rfl:=Qn Qxk hm
 unfold z118.C at hp
 simp only at hp
 try split at hp
 all_goals first
  |(simp at hp;done)
  |(exfalso;omega)
  |exact z118.l0b10_sound hI st p hp
theorem z118.sound:Sn z118.pack 126:=by
 intro vs p h;unfold z118.pack at h;split at h<;>cases h
 exact Qq Qd Qe rfl rfl rfl (λg vs p h=>by unfold z118.C at h;simp only at h;split at h;exact z99.sound vs p h;exact z7.sound vs p h;simp at h) ⟨Tryz.func126,rfl,by kernel_rfl⟩ z118.loopsT rfl (z118.link _) (by intro v r h;unfold z118.dec at h;split at h<;>cases h;exact ⟨rfl,rfl⟩)
theorem z119.sound:Sn z119.pack 127:=by
 intro vs p h;unfold z119.pack at h;split at h<;>cases h
 exact Qf Qd Qe rfl rfl rfl rfl (λg vs p h=>by unfold z119.C at h;simp only at h;split at h;exact z103.sound vs p h;exact z115.sound vs p h;simp at h) ⟨Tryz.func127,rfl,by kernel_rfl⟩ rfl (z119.link _ _ _) z115.hdec
theorem z120.sound:Sn z120.pack 207:=by
 intro vs p h;unfold z120.pack at h;split at h<;>cases h
 exact Qf Qd Qe rfl rfl rfl rfl (λg vs p h=>by unfold z120.C at h;simp only at h;split at h;exact z7.sound vs p h;exact z16.sound vs p h;simp at h) ⟨Tryz.func207,rfl,by kernel_rfl⟩ rfl (z120.link _ _ _ _ _ _) z7.hdec
theorem z121.sound:Sn z121.pack 128:=by
 intro vs p h;unfold z121.pack at h;split at h<;>cases h
 exact Qf Qd Qe rfl rfl rfl rfl (λg vs p h=>by unfold z121.C at h;simp only at h;split at h;exact z120.sound vs p h;exact z111.sound vs p h;simp at h) ⟨Tryz.func128,rfl,by kernel_rfl⟩ rfl (z121.link _ _ _ _ _ _) z11.hdec
theorem z122.sound:Sn z122.pack 129:=by
 intro vs p h;unfold z122.pack at h;split at h<;>cases h
 exact Qf Qd Qe rfl rfl rfl rfl (λg vs p h=>by unfold z122.C at h;simp only at h;split at h;exact z120.sound vs p h;exact z7.sound vs p h;exact z16.sound vs p h;exact z116.sound vs p h;simp at h) ⟨Tryz.func129,rfl,by kernel_rfl⟩ rfl (z122.link _ _ _ _ _ _) z115.hdec
theorem z123.hdec:Q2 z123.dec z123.enc:=by
 intro v r h
 unfold z123.dec at h;split at h<;>cases h
 exact ⟨rfl,rfl⟩
theorem z123.sound:Sn z123.pack 39:=by
 intro vs p h;unfold z123.pack at h;split at h<;>cases h
 exact Qf Qd Qe rfl rfl rfl rfl (λg vs p h=>by unfold z123.C at h;simp only at h;split at h;exact z117.sound vs p h;exact z118.sound vs p h;exact z119.sound vs p h;exact z121.sound vs p h;exact z122.sound vs p h;simp at h) ⟨Tryz.func39,rfl,by kernel_rfl⟩ rfl (z123.link _) z123.hdec
theorem z124.sound:Sn z124.pack 80:=by
 intro vs p h;unfold z124.pack at h;split at h<;>cases h
 exact Qf Qd Qe rfl rfl rfl rfl (λg vs p h=>by unfold z124.C at h;simp only at h;split at h;exact z11.sound vs p h;simp at h) ⟨Tryz.func80,rfl,by kernel_rfl⟩ rfl (z124.link _ _ _) z10.hdec
theorem z125.l0_sound (hI:InlOK Tryz.prog z125.C λR=>z125.C.inlK 6):Qi z125.C 6 135 0 0 (Qg 0 (ifun Tryz.f135).body) z125.l0sh z125.l0pack:=by
 refine Qj λls p h=>?_
 unfold z125.l0pack at h;split at h<;>cases h
 rename_i a c e g j m n q r
 exact Qk hI (sh:=z125.l0sh) (so:=z125.l0sh) (F:=λR rec done x=>z125.l0P rec done x) (enc:=λ(x':(Int×Int))=>Qb z125.l0sh [.b a,.i x'.1,.i x'.2,.i g,.i j,.i m,.i n,.i q,.i r]) [1,2] [1,2] (c,e) (by kernel_rfl) (by kernel_rfl) (λx=>by kernel_rfl) (λo=>by kernel_rfl) λR k d x'=>z125.l0_link R k d a (x'.1) (x'.2) g j m n q r
theorem z125.l2_sound (hI:InlOK Tryz.prog z125.C λR=>z125.C.inlK 6):Qi z125.C 6 135 2 0 (Qg 2 (ifun Tryz.f135).body) z125.l2sh z125.l2pack:=by
 refine Qj λls p h=>?_
 unfold z125.l2pack at h;split at h<;>cases h
 rename_i a c e g j m n q r
 exact Qk hI (sh:=z125.l2sh) (so:=z125.l2sh) (F:=λR rec done x=>z125.l2P rec done x) (enc:=λ(x':(Int×Int))=>Qb z125.l2sh [.b a,.i x'.1,.i x'.2,.i g,.i j,.i m,.i n,.i q,.i r]) [1,2] [1,2] (c,e) (by kernel_rfl) (by kernel_rfl) (λx=>by kernel_rfl) (λo=>by kernel_rfl) λR k d x'=>z125.l2_link R k d a (x'.1) (x'.2) g j m n q r
theorem Qtn:Ql (ifun Tryz.f135).body=true:=by kernel_rfl
theorem z125.loopsT (hI:InlOK Tryz.prog z125.C λR=>z125.C.inlK 6):LoopsOK z125.C (λR=>z125.C.inlK 6) 135 0 (ifun Tryz.f135).body:=by
 intro id b hm st p hp
 obtain rfl:=Qn Qtn hm
 unfold z125.C at hp
 simp only at hp
 try split at hp
 all_goals first
  |(simp at hp;done)
  |(exfalso;omega)
  |exact z125.l0_sound hI st p hp
  |exact z125.l2_sound hI st p hp
theorem z125.sound:Sn z125.pack 135:=by
 intro vs p h;unfold z125.pack at h;split at h<;>cases h
 exact Qq Qd Qe rfl rfl rfl (λg vs p h=>by unfold z125.C at h;simp only at h;split at h;exact z11.sound vs p h;simp at h) ⟨Tryz.func135,rfl,by kernel_rfl⟩ z125.loopsT rfl (z125.link _ _ _ _) (by intro v r h;unfold z125.dec at h;split at h<;>cases h;exact ⟨rfl,rfl⟩)
theorem z126.sound:Sn z126.pack 45:=by
 intro vs p h;unfold z126.pack at h;split at h<;>cases h
 exact Qf Qd Qe rfl rfl rfl rfl (λg vs p h=>by unfold z126.C at h;simp only at h;split at h;exact z112.sound vs p h;exact z123.sound vs p h;exact z124.sound vs p h;exact z125.sound vs p h;simp at h) ⟨Tryz.func45,rfl,by kernel_rfl⟩ rfl (z126.link _ _ _ _ _ _ _ _ _ _) z11.hdec
theorem z127.l0_sound (hI:InlOK Tryz.prog z127.C λR=>z127.C.inlK 6):Qi z127.C 6 139 0 0 (Qg 0 (ifun Tryz.f139).body) z127.l0sh z127.l0pack:=by
 refine Qj λls p h=>?_
 unfold z127.l0pack at h;split at h<;>cases h
 rename_i a b c e g j m n q
 exact Yy hI (sh:=z127.l0sh) (so:=z127.l0sh) (so':=z127.l0so1) (F:=λR rec done x=>z127.l0P a b g j m rec done x) (enc:=λ(x':(Int×J2))=>Qb z127.l0sh [.i a,.i b,.i c,.i x'.1,.i g,.i j,.i m,.lr n,.lr x'.2]) (.exit 0) [3,8] [3,8] [0,1,6] (e,q) (by kernel_rfl) (by kernel_rfl) (λx=>by kernel_rfl) (λo=>by kernel_rfl) (λo=>by kernel_rfl) λR k d x'=>z127.l0_link R k d a b c (x'.1) g j m n (x'.2)
theorem Qqv:Ql (ifun Tryz.f139).body=true:=by kernel_rfl
theorem z127.loopsT (hI:InlOK Tryz.prog z127.C λR=>z127.C.inlK 6):LoopsOK z127.C (λR=>z127.C.inlK 6) 139 0 (ifun Tryz.f139).body:=by
 intro id b hm st p hp
 obtain rfl:=Qn Qqv hm
 unfold z127.C at hp
 simp only at hp
 try split at hp
 all_goals first
  |(simp at hp;done)
  |(exfalso;omega)
  |exact z127.l0_sound hI st p hp
theorem z127.sound:Sn z127.pack 139:=by
 intro vs p h;unfold z127.pack at h;split at h<;>cases h
 exact Qq Qd Qe rfl rfl rfl (λg vs p h=>by unfold z127.C at h;simp only at h;split at h;exact z124.sound vs p h;exact z125.sound vs p h;simp at h) ⟨Tryz.func139,rfl,by kernel_rfl⟩ z127.loopsT rfl (z127.link _ _ _ _ _) z92.hdec
theorem z128.sound:Sn z128.pack 50:=by
 intro vs p h;unfold z128.pack at h;split at h<;>cases h
 exact Qf Qd Qe rfl rfl rfl rfl (λg vs p h=>by unfold z128.C at h;simp only at h;split at h;exact z126.sound vs p h;exact z127.sound vs p h;simp at h) ⟨Tryz.func50,rfl,by kernel_rfl⟩ rfl (z128.link _ _ _ _ _ _ _ _ _ _) z92.hdec
theorem z129.l0_sound (hI:InlOK Tryz.prog z129.C λR=>z129.C.inlK 6):Qi z129.C 6 52 0 0 (Qg 0 (ifun Tryz.f52).body) z129.l0sh z129.l0pack:=by
 refine Qj λls p h=>?_
 unfold z129.l0pack at h;split at h<;>cases h
 rename_i a b c e g j m
 exact Qk hI (sh:=z129.l0sh) (so:=z129.l0sh) (F:=λR rec done x=>z129.l0P a rec done x) (enc:=λ(x':(Int×J2×Int×Int×Int))=>Qb z129.l0sh [.lr a,.i x'.1,.lr c,.lr x'.2.1,.i x'.2.2.1,.i x'.2.2.2.1,.i x'.2.2.2.2]) [1,3,4,5,6] [1,3,4,5,6] (b,e,g,j,m) (by kernel_rfl) (by kernel_rfl) (λx=>by kernel_rfl) (λo=>by kernel_rfl) λR k d x'=>z129.l0_link R k d a (x'.1) c (x'.2.1) (x'.2.2.1) (x'.2.2.2.1) (x'.2.2.2.2)
theorem Qs0:Ql (ifun Tryz.f52).body=true:=by kernel_rfl
theorem z129.loopsT (hI:InlOK Tryz.prog z129.C λR=>z129.C.inlK 6):LoopsOK z129.C (λR=>z129.C.inlK 6) 52 0 (ifun Tryz.f52).body:=by
 intro id b hm st p hp
 obtain rfl:=Qn Qs0 hm
 unfold z129.C at hp
 simp only at hp
 try split at hp
 all_goals first
  |(simp at hp;done)
  |(exfalso;omega)
  |exact z129.l0_sound hI st p hp
theorem z129.sound:Sn z129.pack 52:=by
 intro vs p h;unfold z129.pack at h;split at h<;>cases h
 exact Qq Qd Qe rfl rfl rfl (λg vs p h=>by unfold z129.C at h;simp only at h;split at h;exact z128.sound vs p h;simp at h) ⟨Tryz.func52,rfl,by kernel_rfl⟩ z129.loopsT rfl (z129.link _ _ _ _ _ _ _ _ _ _) (by intro v r h;unfold z129.dec at h;split at h<;>cases h;exact ⟨rfl,rfl⟩)
theorem z130.l0b4_sound (hI:InlOK Tryz.prog z130.C λR=>z130.C.inlK 6):Qi z130.C 6 189 0 0 (Qg 0 (ifun Tryz.f189).body) z130.l0b4sh z130.l0b4pack:=by
 refine Qj λls p h=>?_
 unfold z130.l0b4pack at h;split at h<;>cases h
 rename_i a b c e g
 exact Qk hI (sh:=z130.l0b4sh) (so:=z130.l0b4sh) (F:=λR rec done x=>z130.l0b4P b rec done x) (enc:=λ(x':(Int×Int×J0))=>Qb z130.l0b4sh [.i x'.1,.i b,.s c,.i x'.2.1,.li x'.2.2]) [0,3,4] [0,3,4] (a,e,g) (by kernel_rfl) (by kernel_rfl) (λx=>by kernel_rfl) (λo=>by kernel_rfl) λR k d x'=>z130.l0b4_link R k d (x'.1) b c (x'.2.1) (x'.2.2)
theorem Qvc:Ql (ifun Tryz.f189).body=true:=by kernel_rfl
theorem z130.loopsT (hI:InlOK Tryz.prog z130.C λR=>z130.C.inlK 6):LoopsOK z130.C (λR=>z130.C.inlK 6) 189 0 (ifun Tryz.f189).body:=by
 intro id b hm st p hp
 obtain rfl:=Qn Qvc hm
 unfold z130.C at hp
 simp only at hp
 try split at hp
 all_goals first
  |(simp at hp;done)
  |(exfalso;omega)
  |exact z130.l0b4_sound hI st p hp
theorem z130.sound:Sn z130.pack 189:=by
 intro vs p h;unfold z130.pack at h;split at h<;>cases h
 exact Qq Qd Qe rfl rfl rfl (λg vs p h=>by simp [z130.C] at h) ⟨Tryz.func189,rfl,by kernel_rfl⟩ z130.loopsT rfl (z130.link _ _) z5.hdec
theorem z131.l2_sound (hI:InlOK Tryz.prog z131.C λR=>z131.C.inlK 6):Qi z131.C 6 101 2 0 (Qg 2 (ifun Tryz.f101).body) z131.l2sh z131.l2pack:=by
 refine Qj λls p h=>?_
 unfold z131.l2pack at h;split at h<;>cases h
 rename_i a b c e g j m n
 exact Qk hI (sh:=z131.l2sh) (so:=z131.l2sh) (F:=λR rec done x=>z131.l2P c e rec done x) (enc:=λ(x':(Int×Int))=>Qb z131.l2sh [.s a,.i x'.1,.li c,.i e,.i x'.2,.li j,.ls m,.li n]) [1,4] [1,4] (b,g) (by kernel_rfl) (by kernel_rfl) (λx=>by kernel_rfl) (λo=>by kernel_rfl) λR k d x'=>z131.l2_link R k d a (x'.1) c e (x'.2) j m n
theorem z131.l0_sound (hI:InlOK Tryz.prog z131.C λR=>z131.C.inlK 6):Qi z131.C 6 101 0 0 (Qg 0 (ifun Tryz.f101).body) z131.l0sh z131.l0pack:=by
 refine Qj λls p h=>?_
 unfold z131.l0pack at h;split at h<;>cases h
 rename_i a b c
 exact Qk hI (sh:=z131.l0sh) (so:=z131.l0sh) (F:=λR rec done x=>z131.l0P rec done x) (enc:=λ(x':(J0×(List J1)))=>Qb z131.l0sh [.s a,.li x'.1,.ls x'.2]) [1,2] [1,2] (b,c) (by kernel_rfl) (by kernel_rfl) (λx=>by kernel_rfl) (λo=>by kernel_rfl) λR k d x'=>z131.l0_link R k d a (x'.1) (x'.2)
theorem z131.l4_sound (hI:InlOK Tryz.prog z131.C λR=>z131.C.inlK 6):Qi z131.C 6 101 4 0 (Qg 4 (ifun Tryz.f101).body) z131.l4sh z131.l4pack:=by
 refine Qj λls p h=>?_
 unfold z131.l4pack at h;split at h<;>cases h
 rename_i a b c e
 exact Qk hI (sh:=z131.l4sh) (so:=z131.l4sh) (F:=λR rec done x=>z131.l4P c rec done x) (enc:=λ(x':(Int×J0))=>Qb z131.l4sh [.s a,.i x'.1,.ls c,.li x'.2]) [1,3] [1,3] (b,e) (by kernel_rfl) (by kernel_rfl) (λx=>by kernel_rfl) (λo=>by kernel_rfl) λR k d x'=>z131.l4_link R k d a (x'.1) c (x'.2)
theorem Qsj:Ql (ifun Tryz.f101).body=true:=by kernel_rfl
theorem z131.loopsT (hI:InlOK Tryz.prog z131.C λR=>z131.C.inlK 6):LoopsOK z131.C (λR=>z131.C.inlK 6) 101 0 (ifun Tryz.f101).body:=by
 intro id b hm st p hp
 obtain rfl:=Qn Qsj hm
 unfold z131.C at hp
 simp only at hp
 try split at hp
 all_goals first
  |(simp at hp;done)
  |(exfalso;omega)
  |exact z131.l2_sound hI st p hp
  |exact z131.l0_sound hI st p hp
  |exact z131.l4_sound hI st p hp
theorem z131.loops191 (hI:InlOK Tryz.prog z131.C λR=>z131.C.inlK 0) (base:Nat):LoopsOK z131.C (λR=>z131.C.inlK 0) 191 base (ifun Tryz.f191).body:=by
 intro id b hm st p hp
 exfalso
 unfold z131.C at hp
 simp only at hp
 try split at hp
 all_goals first|(simp at hp;done)|omega
theorem z131.loops190 (hI:InlOK Tryz.prog z131.C λR=>z131.C.inlK 1) (base:Nat):LoopsOK z131.C (λR=>z131.C.inlK 1) 190 base (ifun Tryz.f190).body:=by
 intro id b hm st p hp
 exfalso
 unfold z131.C at hp
 simp only at hp
 try split at hp
 all_goals first|(simp at hp;done)|omega
theorem prim246:SoundP Tryz.prog 246 (copyP 274):=Qxu
theorem z131.inlF:InlF Tryz.prog z131.C where
 prim g h hp:=by
  unfold z131.C at hp;simp only at hp;split at hp
  ·simp only [Option.some.injEq] at hp;subst hp;exact prim246
  ·simp at hp
 fn g fn h:=by
  unfold z131.C at h;simp only at h;split at h
  ·simp only [Option.some.injEq] at h;subst h;exact ⟨_,_,⟨Tryz.func191,rfl,by kernel_rfl⟩,rfl⟩
  ·simp only [Option.some.injEq] at h;subst h;exact ⟨_,_,⟨Tryz.func190,rfl,by kernel_rfl⟩,rfl⟩
  ·simp at h
 loops g fn h:=by
  unfold z131.C at h;simp only at h;split at h
  ·simp only [Option.some.injEq] at h;subst h;exact λhI base=>z131.loops191 hI base
  ·simp only [Option.some.injEq] at h;subst h;exact λhI base=>z131.loops190 hI base
  ·simp at h
theorem z131.sound:Sn z131.pack 101:=by
 intro vs p h;unfold z131.pack at h;split at h<;>cases h
 exact Qa4 Qd Qe rfl (λg vs p h=>by unfold z131.C at h;simp only at h;split at h;exact z19.sound vs p h;exact z38.sound vs p h;exact z68.sound vs p h;exact z60.sound vs p h;exact z130.sound vs p h;simp at h) z131.inlF ⟨Tryz.func101,rfl,by kernel_rfl⟩ z131.loopsT rfl (z131.link _) z5.hdec
theorem z132.sound:Sn z132.pack 25:=by
 intro vs p h;unfold z132.pack at h;split at h<;>cases h
 exact Qf Qd Qe rfl rfl rfl rfl (λg vs p h=>by unfold z132.C at h;simp only at h;split at h;exact z131.sound vs p h;simp at h) ⟨Tryz.func25,rfl,by kernel_rfl⟩ rfl (z132.link _ _) z5.hdec
theorem z133.sound:Sn z133.pack 71:=by
 intro vs p h;unfold z133.pack at h;split at h<;>cases h
 exact Qf Qd Qe rfl rfl rfl rfl (λg vs p h=>by unfold z133.C at h;simp only at h;split at h;exact z20.sound vs p h;simp at h) ⟨Tryz.func71,rfl,by kernel_rfl⟩ rfl (z133.link _ _ _) z11.hdec
theorem z134.sound:Sn z134.pack 216:=by
 intro vs p h;unfold z134.pack at h;split at h<;>cases h
 exact Qf Qd Qe rfl rfl rfl rfl (λg vs p h=>by simp [z134.C] at h) ⟨Tryz.func216,rfl,by kernel_rfl⟩ rfl (z134.link _ _ _) z21.hdec
theorem z135.sound:Sn z135.pack 217:=by
 intro vs p h;unfold z135.pack at h;split at h<;>cases h
 exact Qf Qd Qe rfl rfl rfl rfl (λg vs p h=>by unfold z135.C at h;simp only at h;split at h;exact z24.sound vs p h;exact z29.sound vs p h;exact z60.sound vs p h;simp at h) ⟨Tryz.func217,rfl,by kernel_rfl⟩ rfl (z135.link _ _ _ _) z10.hdec
theorem z136.sound:Sn z136.pack 150:=by
 intro vs p h;unfold z136.pack at h;split at h<;>cases h
 exact Qf Qd Qe rfl rfl rfl rfl (λg vs p h=>by unfold z136.C at h;simp only at h;split at h;exact z79.sound vs p h;exact z134.sound vs p h;exact z59.sound vs p h;exact z73.sound vs p h;exact z68.sound vs p h;exact z19.sound vs p h;exact z135.sound vs p h;exact z38.sound vs p h;exact z24.sound vs p h;exact z133.sound vs p h;exact z21.sound vs p h;simp at h) ⟨Tryz.func150,rfl,by kernel_rfl⟩ rfl (z136.link _ _ _ _) z42.hdec
theorem z137.sound:Sn z137.pack 78:=by
 intro vs p h;unfold z137.pack at h;split at h<;>cases h
 exact Qf Qd Qe rfl rfl rfl rfl (λg vs p h=>by unfold z137.C at h;simp only at h;split at h;exact z74.sound vs p h;exact z54.sound vs p h;exact z31.sound vs p h;exact z73.sound vs p h;exact z40.sound vs p h;exact z70.sound vs p h;simp at h) ⟨Tryz.func78,rfl,by kernel_rfl⟩ rfl (z137.link _ _ _ _ _ _) z47.hdec
theorem z138.sound:Sn z138.pack 89:=by
 intro vs p h;unfold z138.pack at h;split at h<;>cases h
 exact Qf Qd Qe rfl rfl rfl rfl (λg vs p h=>by unfold z138.C at h;simp only at h;split at h;exact z54.sound vs p h;exact z73.sound vs p h;exact z40.sound vs p h;exact z70.sound vs p h;simp at h) ⟨Tryz.func89,rfl,by kernel_rfl⟩ rfl (z138.link _ _ _ _ _ _) z47.hdec
theorem z139.sound:Sn z139.pack 230:=by
 intro vs p h;unfold z139.pack at h;split at h<;>cases h
 exact Qf Qd Qe rfl rfl rfl rfl (λg vs p h=>by unfold z139.C at h;simp only at h;split at h;exact z48.sound vs p h;exact z71.sound vs p h;simp at h) ⟨Tryz.func230,rfl,by kernel_rfl⟩ rfl (z139.link _ _) z47.hdec
theorem z140.sound:Sn z140.pack 229:=by
 intro vs p h;unfold z140.pack at h;split at h<;>cases h
 exact Qf Qd Qe rfl rfl rfl rfl (λg vs p h=>by unfold z140.C at h;simp only at h;split at h;exact z139.sound vs p h;simp at h) ⟨Tryz.func229,rfl,by kernel_rfl⟩ rfl (z140.link _ _ _ _ _ _) z47.hdec
theorem z141.sound:Sn z141.pack 65:=by
 intro vs p h;unfold z141.pack at h;split at h<;>cases h
 exact Qf Qd Qe rfl rfl rfl rfl (λg vs p h=>by unfold z141.C at h;simp only at h;split at h;exact z98.sound vs p h;simp at h) ⟨Tryz.func65,rfl,by kernel_rfl⟩ rfl (z141.link _ _ _ _ _ _) z98.hdec
theorem z142.sound:Sn z142.pack 231:=by
 intro vs p h;unfold z142.pack at h;split at h<;>cases h
 exact Qf Qd Qe rfl rfl rfl rfl (λg vs p h=>by unfold z142.C at h;simp only at h;split at h;exact z141.sound vs p h;simp at h) ⟨Tryz.func231,rfl,by kernel_rfl⟩ rfl (z142.link _ _ _ _ _ _) z11.hdec
theorem z143.sound:Sn z143.pack 269:=by
 intro vs p h;unfold z143.pack at h;split at h<;>cases h
 exact Qf Qd Qe rfl rfl rfl rfl (λg vs p h=>by unfold z143.C at h;simp only at h;split at h;exact z87.sound vs p h;simp at h) ⟨Tryz.func269,rfl,by kernel_rfl⟩ rfl (z143.link _) z11.hdec
theorem z144.sound:Sn z144.pack 232:=by
 intro vs p h;unfold z144.pack at h;split at h<;>cases h
 exact Qf Qd Qe rfl rfl rfl rfl (λg vs p h=>by unfold z144.C at h;simp only at h;split at h;exact z142.sound vs p h;exact z143.sound vs p h;exact z139.sound vs p h;exact z137.sound vs p h;simp at h) ⟨Tryz.func232,rfl,by kernel_rfl⟩ rfl (z144.link _ _ _ _ _ _) z47.hdec
theorem z145.sound:Sn z145.pack 165:=by
 intro vs p h;unfold z145.pack at h;split at h<;>cases h
 exact Qf Qd Qe rfl rfl rfl rfl (λg vs p h=>by unfold z145.C at h;simp only at h;split at h;exact z82.sound vs p h;exact z89.sound vs p h;exact z96.sound vs p h;exact z140.sound vs p h;exact z142.sound vs p h;exact z139.sound vs p h;exact z144.sound vs p h;simp at h) ⟨Tryz.func165,rfl,by kernel_rfl⟩ rfl (z145.link _ _ _ _ _ _ _) z71.hdec
theorem z146.sound:Sn z146.pack 220:=by
 intro vs p h;unfold z146.pack at h;split at h<;>cases h
 exact Qf Qd Qe rfl rfl rfl rfl (λg vs p h=>by unfold z146.C at h;simp only at h;split at h;exact z120.sound vs p h;exact z108.sound vs p h;exact z15.sound vs p h;exact z115.sound vs p h;simp at h) ⟨Tryz.func220,rfl,by kernel_rfl⟩ rfl (z146.link _ _ _ _ _ _) z115.hdec
theorem z147.l0_sound (hI:InlOK Tryz.prog z147.C λR=>z147.C.inlK 6):Qi z147.C 6 233 0 0 (Qg 0 (ifun Tryz.f233).body) z147.l0sh z147.l0pack:=by
 refine Qj λls p h=>?_
 unfold z147.l0pack at h;split at h<;>cases h
 rename_i a b c e g j
 exact Qk hI (sh:=z147.l0sh) (so:=z147.l0sh) (F:=λR rec done x=>z147.l0P e rec done x) (enc:=λ(x':(Int×Int))=>Qb z147.l0sh [.i a,.i x'.1,.i x'.2,.i e,.i g,.i j]) [1,2] [1,2] (b,c) (by kernel_rfl) (by kernel_rfl) (λx=>by kernel_rfl) (λo=>by kernel_rfl) λR k d x'=>z147.l0_link R k d a (x'.1) (x'.2) e g j
theorem z147.l2_sound (hI:InlOK Tryz.prog z147.C λR=>z147.C.inlK 6):Qi z147.C 6 233 2 0 (Qg 2 (ifun Tryz.f233).body) z147.l2sh z147.l2pack:=by
 refine Qj λls p h=>?_
 unfold z147.l2pack at h;split at h<;>cases h
 rename_i a b c e g j
 exact Qk hI (sh:=z147.l2sh) (so:=z147.l2sh) (F:=λR rec done x=>z147.l2P e g rec done x) (enc:=λ(x':(Int×Int))=>Qb z147.l2sh [.i a,.i x'.1,.i x'.2,.i e,.i g,.i j]) [1,2] [1,2] (b,c) (by kernel_rfl) (by kernel_rfl) (λx=>by kernel_rfl) (λo=>by kernel_rfl) λR k d x'=>z147.l2_link R k d a (x'.1) (x'.2) e g j
theorem Qv5:Ql (ifun Tryz.f233).body=true:=by kernel_rfl
theorem z147.loopsT (hI:InlOK Tryz.prog z147.C λR=>z147.C.inlK 6):LoopsOK z147.C (λR=>z147.C.inlK 6) 233 0 (ifun Tryz.f233).body:=by
 intro id b hm st p hp
 obtain rfl:=Qn Qv5 hm
 unfold z147.C at hp
 simp only at hp
 try split at hp
 all_goals first
  |(simp at hp;done)
  |(exfalso;omega)
  |exact z147.l0_sound hI st p hp
  |exact z147.l2_sound hI st p hp
theorem z147.sound:Sn z147.pack 233:=by
 intro vs p h;unfold z147.pack at h;split at h<;>cases h
 exact Qq Qd Qe rfl rfl rfl (λg vs p h=>by unfold z147.C at h;simp only at h;split at h;exact z10.sound vs p h;exact z11.sound vs p h;simp at h) ⟨Tryz.func233,rfl,by kernel_rfl⟩ z147.loopsT rfl (z147.link _ _ _) z11.hdec
theorem z148.l0_sound (hI:InlOK Tryz.prog z148.C λR=>z148.C.inlK 6):Qi z148.C 6 166 0 0 (Qg 0 (ifun Tryz.f166).body) z148.l0sh z148.l0pack:=by
 refine Qj λls p h=>?_
 unfold z148.l0pack at h;split at h<;>cases h
 rename_i a c e g j m n q r s t u
 exact Qk hI (sh:=z148.l0sh) (so:=z148.l0sh) (F:=λR rec done x=>z148.l0P a c g rec done x) (enc:=λ(x':(Int×J0×Bool×J0))=>Qb z148.l0sh [.i a,.i c,.i x'.1,.i g,.i j,.i m,.li n,.b q,.li r,.li x'.2.1,.b x'.2.2.1,.li x'.2.2.2]) [2,9,10,11] [2,9,10,11] (e,s,t,u) (by kernel_rfl) (by kernel_rfl) (λx=>by kernel_rfl) (λo=>by kernel_rfl) λR k d x'=>z148.l0_link R k d a c (x'.1) g j m n q r (x'.2.1) (x'.2.2.1) (x'.2.2.2)
theorem Qqr:Ql (ifun Tryz.f166).body=true:=by kernel_rfl
theorem z148.loopsT (hI:InlOK Tryz.prog z148.C λR=>z148.C.inlK 6):LoopsOK z148.C (λR=>z148.C.inlK 6) 166 0 (ifun Tryz.f166).body:=by
 intro id b hm st p hp
 obtain rfl:=Qn Qqr hm
 unfold z148.C at hp
 simp only at hp
 try split at hp
 all_goals first
  |(simp at hp;done)
  |(exfalso;omega)
  |exact z148.l0_sound hI st p hp
theorem z148.sound:Sn z148.pack 166:=by
 intro vs p h;unfold z148.pack at h;split at h<;>cases h
 exact Qq Qd Qe rfl rfl rfl (λg vs p h=>by unfold z148.C at h;simp only at h;split at h;exact z117.sound vs p h;exact z147.sound vs p h;exact z10.sound vs p h;exact z146.sound vs p h;simp at h) ⟨Tryz.func166,rfl,by kernel_rfl⟩ z148.loopsT rfl (z148.link _ _ _ _ _ _ _) z115.hdec
theorem z149.sound:Sn z149.pack 167:=by
 intro vs p h;unfold z149.pack at h;split at h<;>cases h
 exact Qf Qd Qe rfl rfl rfl rfl (λg vs p h=>by simp [z149.C] at h) ⟨Tryz.func167,rfl,by kernel_rfl⟩ rfl (z149.link _ _) z115.hdec
theorem z150.sound:Sn z150.pack 168:=by
 intro vs p h;unfold z150.pack at h;split at h<;>cases h
 exact Qf Qd Qe rfl rfl rfl rfl (λg vs p h=>by unfold z150.C at h;simp only at h;split at h;exact z16.sound vs p h;exact z15.sound vs p h;exact z115.sound vs p h;simp at h) ⟨Tryz.func168,rfl,by kernel_rfl⟩ rfl (z150.link _ _ _ _ _ _) z115.hdec
theorem z151.sound:Sn z151.pack 155:=by
 intro vs p h;unfold z151.pack at h;split at h<;>cases h
 exact Qf Qd Qe rfl rfl rfl rfl (λg vs p h=>by unfold z151.C at h;simp only at h;split at h;exact z113.sound vs p h;exact z105.sound vs p h;exact z15.sound vs p h;exact z106.sound vs p h;exact z7.sound vs p h;simp at h) ⟨Tryz.func155,rfl,by kernel_rfl⟩ rfl (z151.link _ _ _ _) z7.hdec
theorem z152.sound:Sn z152.pack 79:=by
 intro vs p h;unfold z152.pack at h;split at h<;>cases h
 exact Qf Qd Qe rfl rfl rfl rfl (λg vs p h=>by unfold z152.C at h;simp only at h;split at h;exact z91.sound vs p h;exact z145.sound vs p h;exact z76.sound vs p h;exact z47.sound vs p h;exact z138.sound vs p h;exact z136.sound vs p h;simp at h) ⟨Tryz.func79,rfl,by kernel_rfl⟩ rfl (z152.link _ _ _ _ _ _ _ _ _ _ _ _ _ _ _ _ _ _) z42.hdec
theorem z153.sound:Sn z153.pack 82:=by
 intro vs p h;unfold z153.pack at h;split at h<;>cases h
 exact Qf Qd Qe rfl rfl rfl rfl (λg vs p h=>by unfold z153.C at h;simp only at h;split at h;exact z123.sound vs p h;exact z148.sound vs p h;exact z149.sound vs p h;exact z150.sound vs p h;exact z151.sound vs p h;simp at h) ⟨Tryz.func82,rfl,by kernel_rfl⟩ rfl (z153.link _ _ _ _ _ _ _ _ _ _ _ _ _ _ _ _ _ _) z7.hdec
theorem z154.l0_sound (hI:InlOK Tryz.prog z154.C λR=>z154.C.inlK 6):Qi z154.C 6 84 0 0 (Qg 0 (ifun Tryz.f84).body) z154.l0sh z154.l0pack:=by
 refine Qj λls p h=>?_
 unfold z154.l0pack at h;split at h<;>cases h
 rename_i a c e g j m n q r s t u
 exact Yy hI (sh:=z154.l0sh) (so:=z154.l0sh) (so':=z154.l0so1) (F:=λR rec done x=>z154.l0P c e rec done x) (enc:=λ(x':(Int×J0×Bool×J0×Bool))=>Qb z154.l0sh [.i a,.lr c,.i e,.i x'.1,.li j,.b m,.li n,.b q,.li x'.2.1,.b x'.2.2.1,.li x'.2.2.2.1,.b x'.2.2.2.2]) (.exit 0) [3,8,9,10,11] [3,8,9,10,11] [0,1,2,3,4,5,6,7,8] (g,r,s,t,u) (by kernel_rfl) (by kernel_rfl) (λx=>by kernel_rfl) (λo=>by kernel_rfl) (λo=>by kernel_rfl) λR k d x'=>z154.l0_link R k d a c e (x'.1) j m n q (x'.2.1) (x'.2.2.1) (x'.2.2.2.1) (x'.2.2.2.2)
theorem Quj:Ql (ifun Tryz.f84).body=true:=by kernel_rfl
theorem z154.loopsT (hI:InlOK Tryz.prog z154.C λR=>z154.C.inlK 6):LoopsOK z154.C (λR=>z154.C.inlK 6) 84 0 (ifun Tryz.f84).body:=by
 intro id b hm st p hp
 obtain rfl:=Qn Quj hm
 unfold z154.C at hp
 simp only at hp
 try split at hp
 all_goals first
  |(simp at hp;done)
  |(exfalso;omega)
  |exact z154.l0_sound hI st p hp
theorem z154.sound:Sn z154.pack 84:=by
 intro vs p h;unfold z154.pack at h;split at h<;>cases h
 exact Qq Qd Qe rfl rfl rfl (λg vs p h=>by unfold z154.C at h;simp only at h;split at h;exact z46.sound vs p h;exact z31.sound vs p h;simp at h) ⟨Tryz.func84,rfl,by kernel_rfl⟩ z154.loopsT rfl (z154.link _) (by intro v r h;unfold z154.dec at h;split at h<;>cases h;exact ⟨rfl,rfl⟩)
theorem z155.sound:Sn z155.pack 88:=by
 intro vs p h;unfold z155.pack at h;split at h<;>cases h
 exact Qf Qd Qe rfl rfl rfl rfl (λg vs p h=>by unfold z155.C at h;simp only at h;split at h;exact z76.sound vs p h;exact z48.sound vs p h;exact z71.sound vs p h;exact z138.sound vs p h;simp at h) ⟨Tryz.func88,rfl,by kernel_rfl⟩ rfl (z155.link _ _) z71.hdec
theorem z156.sound:Sn z156.pack 270:=by
 intro vs p h;unfold z156.pack at h;split at h<;>cases h
 exact Qf Qd Qe rfl rfl rfl rfl (λg vs p h=>by unfold z156.C at h;simp only at h;split at h;exact z19.sound vs p h;exact z61.sound vs p h;simp at h) ⟨Tryz.func270,rfl,by kernel_rfl⟩ rfl (z156.link _) z11.hdec
theorem z157.sound:Sn z157.pack 238:=by
 intro vs p h;unfold z157.pack at h;split at h<;>cases h
 exact Qf Qd Qe rfl rfl rfl rfl (λg vs p h=>by unfold z157.C at h;simp only at h;split at h;exact z156.sound vs p h;exact z43.sound vs p h;simp at h) ⟨Tryz.func238,rfl,by kernel_rfl⟩ rfl (z157.link _ _) z41.hdec
theorem z158.sound:Sn z158.pack 239:=by
 intro vs p h;unfold z158.pack at h;split at h<;>cases h
 exact Qf Qd Qe rfl rfl rfl rfl (λg vs p h=>by unfold z158.C at h;simp only at h;split at h;exact z21.sound vs p h;simp at h) ⟨Tryz.func239,rfl,by kernel_rfl⟩ rfl (z158.link _) z21.hdec
theorem z159.sound:Sn z159.pack 175:=by
 intro vs p h;unfold z159.pack at h;split at h<;>cases h
 exact Qf Qd Qe rfl rfl rfl rfl (λg vs p h=>by unfold z159.C at h;simp only at h;split at h;exact z133.sound vs p h;exact z48.sound vs p h;exact z47.sound vs p h;exact z75.sound vs p h;exact z73.sound vs p h;exact z134.sound vs p h;exact z59.sound vs p h;exact z24.sound vs p h;exact z157.sound vs p h;exact z30.sound vs p h;exact z54.sound vs p h;exact z158.sound vs p h;exact z40.sound vs p h;exact z71.sound vs p h;simp at h) ⟨Tryz.func175,rfl,by kernel_rfl⟩ rfl (z159.link _ _ _ _ _ _ _) z71.hdec
theorem z160.sound:Sn z160.pack 87:=by
 intro vs p h;unfold z160.pack at h;split at h<;>cases h
 exact Qf Qd Qe rfl rfl rfl rfl (λg vs p h=>by unfold z160.C at h;simp only at h;split at h;exact z155.sound vs p h;exact z20.sound vs p h;exact z47.sound vs p h;exact z159.sound vs p h;exact z136.sound vs p h;simp at h) ⟨Tryz.func87,rfl,by kernel_rfl⟩ rfl (z160.link _ _ _ _ _ _) z42.hdec
theorem z161.sound:Sn z161.pack 236:=by
 intro vs p h;unfold z161.pack at h;split at h<;>cases h
 exact Qf Qd Qe rfl rfl rfl rfl (λg vs p h=>by unfold z161.C at h;simp only at h;split at h;exact z20.sound vs p h;exact z48.sound vs p h;exact z71.sound vs p h;exact z136.sound vs p h;simp at h) ⟨Tryz.func236,rfl,by kernel_rfl⟩ rfl (z161.link _ _ _ _) z42.hdec
theorem z162.sound:Sn z162.pack 173:=by
 intro vs p h;unfold z162.pack at h;split at h<;>cases h
 exact Qf Qd Qe rfl rfl rfl rfl (λg vs p h=>by unfold z162.C at h;simp only at h;split at h;exact z46.sound vs p h;exact z160.sound vs p h;exact z161.sound vs p h;simp at h) ⟨Tryz.func173,rfl,by kernel_rfl⟩ rfl (z162.link _ _ _ _ _ _ _ _ _ _) z42.hdec
theorem meth39_Cmp:MethOK Tryz.prog 39 "Cmp" 74:=λrecv w=>by kernel_rfl
theorem z163.meths (t:Nat) (m:String) (g:Nat) (h:z163.C.meth t m=some g):MethOK Tryz.prog t m g:=by
 unfold z163.C at h;simp only at h
 split at h
 ·rename_i e;obtain ⟨rfl,rfl⟩:=e;cases h;exact meth39_Cmp
 ·simp at h
theorem z163.sound:Sn z163.pack 237:=by
 intro vs p h;unfold z163.pack at h;split at h<;>cases h
 exact Qwh Qd Qe rfl rfl rfl rfl (λg vs p h=>by unfold z163.C at h;simp only at h;split at h;exact z34.sound vs p h;simp at h) z163.meths ⟨Tryz.func237,rfl,by kernel_rfl⟩ rfl (z163.link _ _ _ _) z21.hdec
theorem z164.sound:Sn z164.pack 174:=by
 intro vs p h;unfold z164.pack at h;split at h<;>cases h
 exact Qf Qd Qe rfl rfl rfl rfl (λg vs p h=>by unfold z164.C at h;simp only at h;split at h;exact z33.sound vs p h;exact z20.sound vs p h;exact z163.sound vs p h;simp at h) ⟨Tryz.func174,rfl,by kernel_rfl⟩ rfl (z164.link _ _ _ _ _ _ _) z21.hdec
theorem z165.l0_sound (hI:InlOK Tryz.prog z165.C λR=>z165.C.inlK 6):Qi z165.C 6 86 0 0 (Qg 0 (ifun Tryz.f86).body) z165.l0sh z165.l0pack:=by
 refine Qj λls p h=>?_
 unfold z165.l0pack at h;split at h<;>cases h
 rename_i a c e g j m n q r t u v w y z A B D E G H
 exact Yy hI (sh:=z165.l0sh) (so:=z165.l0sh) (so':=z165.l0so1) (F:=λR rec done x=>z165.l0P c e g m n q r t u v w y z B D rec done x) (enc:=λ(x':(Int×J0×Bool×J2))=>Qb z165.l0sh [.i a,.lr c,.lr e,.i g,.i x'.1,.s m,.s n,.i q,.i r,.i t,.i u,.i v,.i w,.i y,.i z,.lr A,.li B,.b D,.li x'.2.1,.b x'.2.2.1,.lr x'.2.2.2]) (.exit 0) [4,18,19,20] [4,18,19,20] [0,1,15,16,17] (j,E,G,H) (by kernel_rfl) (by kernel_rfl) (λx=>by kernel_rfl) (λo=>by kernel_rfl) (λo=>by kernel_rfl) λR k d x'=>z165.l0_link R k d a c e g (x'.1) m n q r t u v w y z A B D (x'.2.1) (x'.2.2.1) (x'.2.2.2)
theorem Qtr:Ql (ifun Tryz.f86).body=true:=by kernel_rfl
theorem z165.loopsT (hI:InlOK Tryz.prog z165.C λR=>z165.C.inlK 6):LoopsOK z165.C (λR=>z165.C.inlK 6) 86 0 (ifun Tryz.f86).body:=by
 intro id b hm st p hp
 obtain rfl:=Qn Qtr hm
 unfold z165.C at hp
 simp only at hp
 try split at hp
 all_goals first
  |(simp at hp;done)
  |(exfalso;omega)
  |exact z165.l0_sound hI st p hp
theorem z165.sound:Sn z165.pack 86:=by
 intro vs p h;unfold z165.pack at h;split at h<;>cases h
 exact Qq Qd Qe rfl rfl rfl (λg vs p h=>by unfold z165.C at h;simp only at h;split at h;exact z94.sound vs p h;exact z162.sound vs p h;exact z46.sound vs p h;exact z152.sound vs p h;exact z164.sound vs p h;exact z33.sound vs p h;exact z132.sound vs p h;exact z31.sound vs p h;simp at h) ⟨Tryz.func86,rfl,by kernel_rfl⟩ z165.loopsT rfl (z165.link _ _ _ _ _ _ _ _ _ _) (by intro v r h;unfold z165.dec at h;split at h<;>cases h;exact ⟨rfl,rfl⟩)
theorem z166.sound:Sn z166.pack 169:=by
 intro vs p h;unfold z166.pack at h;split at h<;>cases h
 exact Qf Qd Qe rfl rfl rfl rfl (λg vs p h=>by simp [z166.C] at h) ⟨Tryz.func169,rfl,by kernel_rfl⟩ rfl z166.link z18.hdec
theorem z167.sound:Sn z167.pack 83:=by
 intro vs p h;unfold z167.pack at h;split at h<;>cases h
 exact Qf Qd Qe rfl rfl rfl rfl (λg vs p h=>by unfold z167.C at h;simp only at h;split at h;exact z166.sound vs p h;exact z165.sound vs p h;exact z154.sound vs p h;exact z132.sound vs p h;exact z20.sound vs p h;simp at h) ⟨Tryz.func83,rfl,by kernel_rfl⟩ rfl z167.link z10.hdec
theorem z168.l0_sound (hI:InlOK Tryz.prog z168.C λR=>z168.C.inlK 6):Qi z168.C 6 93 0 0 (Qg 0 (ifun Tryz.f93).body) z168.l0sh z168.l0pack:=by
 refine Qj λls p h=>?_
 unfold z168.l0pack at h;split at h<;>cases h
 rename_i a c e g j
 exact Yy hI (sh:=z168.l0sh) (so:=z168.l0sh) (so':=z168.l0so1) (F:=λR rec done x=>z168.l0P a c g rec done x) (enc:=λ(x':Int)=>Qb z168.l0sh [.lr a,.lr c,.b e,.i g,.i x']) (.exit 0) [4] [4] [0] j (by kernel_rfl) (by kernel_rfl) (λx=>by kernel_rfl) (λo=>by kernel_rfl) (λo=>by kernel_rfl) λR k d x'=>z168.l0_link R k d a c e g (x')
theorem Qsz:Ql (ifun Tryz.f93).body=true:=by kernel_rfl
theorem z168.loopsT (hI:InlOK Tryz.prog z168.C λR=>z168.C.inlK 6):LoopsOK z168.C (λR=>z168.C.inlK 6) 93 0 (ifun Tryz.f93).body:=by
 intro id b hm st p hp
 obtain rfl:=Qn Qsz hm
 unfold z168.C at hp
 simp only at hp
 try split at hp
 all_goals first
  |(simp at hp;done)
  |(exfalso;omega)
  |exact z168.l0_sound hI st p hp
theorem z168.sound:Sn z168.pack 93:=by
 intro vs p h;unfold z168.pack at h;split at h<;>cases h
 exact Qq Qd Qe rfl rfl rfl (λg vs p h=>by simp [z168.C] at h) ⟨Tryz.func93,rfl,by kernel_rfl⟩ z168.loopsT rfl (z168.link _ _) z10.hdec
theorem z169.sound:Sn z169.pack 240:=by
 intro vs p h;unfold z169.pack at h;split at h<;>cases h
 exact Qf Qd Qe rfl rfl rfl rfl (λg vs p h=>by unfold z169.C at h;simp only at h;split at h;exact z117.sound vs p h;exact z123.sound vs p h;exact z150.sound vs p h;simp at h) ⟨Tryz.func240,rfl,by kernel_rfl⟩ rfl (z169.link _ _) z123.hdec
theorem z170.l0_sound (hI:InlOK Tryz.prog z170.C λR=>z170.C.inlK 6):Qi z170.C 6 271 0 0 (Qg 0 (ifun Tryz.f271).body) z170.l0sh z170.l0pack:=by
 refine Qj λls p h=>?_
 unfold z170.l0pack at h;split at h<;>cases h
 rename_i a c e g j m n q r s t
 exact Qk hI (sh:=z170.l0sh) (so:=z170.l0sh) (F:=λR rec done x=>z170.l0P a e g j rec done x) (enc:=λ(x':(Int×J0×Bool×J0))=>Qb z170.l0sh [.i a,.i x'.1,.li e,.b g,.li j,.li m,.b n,.li q,.li x'.2.1,.b x'.2.2.1,.li x'.2.2.2]) [1,8,9,10] [1,8,9,10] (c,r,s,t) (by kernel_rfl) (by kernel_rfl) (λx=>by kernel_rfl) (λo=>by kernel_rfl) λR k d x'=>z170.l0_link R k d a (x'.1) e g j m n q (x'.2.1) (x'.2.2.1) (x'.2.2.2)
theorem Qqz:Ql (ifun Tryz.f271).body=true:=by kernel_rfl
theorem z170.loopsT (hI:InlOK Tryz.prog z170.C λR=>z170.C.inlK 6):LoopsOK z170.C (λR=>z170.C.inlK 6) 271 0 (ifun Tryz.f271).body:=by
 intro id b hm st p hp
 obtain rfl:=Qn Qqz hm
 unfold z170.C at hp
 simp only at hp
 try split at hp
 all_goals first
  |(simp at hp;done)
  |(exfalso;omega)
  |exact z170.l0_sound hI st p hp
theorem z170.sound:Sn z170.pack 271:=by
 intro vs p h;unfold z170.pack at h;split at h<;>cases h
 exact Qq Qd Qe rfl rfl rfl (λg vs p h=>by unfold z170.C at h;simp only at h;split at h;exact z117.sound vs p h;exact z150.sound vs p h;simp at h) ⟨Tryz.func271,rfl,by kernel_rfl⟩ z170.loopsT rfl (z170.link _ _ _ _) z115.hdec
theorem z171.sound:Sn z171.pack 282:=by
 intro vs p h;unfold z171.pack at h;split at h<;>cases h
 exact Qf Qd Qe rfl rfl rfl rfl (λg vs p h=>by unfold z171.C at h;simp only at h;split at h;exact z104.sound vs p h;simp at h) ⟨Tryz.func282,rfl,by kernel_rfl⟩ rfl (z171.link _ _ _) z115.hdec
theorem z172.sound:Sn z172.pack 272:=by
 intro vs p h;unfold z172.pack at h;split at h<;>cases h
 exact Qf Qd Qe rfl rfl rfl rfl (λg vs p h=>by unfold z172.C at h;simp only at h;split at h;exact z171.sound vs p h;exact z146.sound vs p h;simp at h) ⟨Tryz.func272,rfl,by kernel_rfl⟩ rfl (z172.link _ _ _ _ _ _) z115.hdec
theorem z173.sound:Sn z173.pack 241:=by
 intro vs p h;unfold z173.pack at h;split at h<;>cases h
 exact Qf Qd Qe rfl rfl rfl rfl (λg vs p h=>by unfold z173.C at h;simp only at h;split at h;exact z117.sound vs p h;exact z122.sound vs p h;exact z146.sound vs p h;exact z170.sound vs p h;exact z172.sound vs p h;exact z150.sound vs p h;simp at h) ⟨Tryz.func241,rfl,by kernel_rfl⟩ rfl (z173.link _ _ _ _ _ _ _) z115.hdec
theorem z174.sound:Sn z174.pack 177:=by
 intro vs p h;unfold z174.pack at h;split at h<;>cases h
 exact Qf Qd Qe rfl rfl rfl rfl (λg vs p h=>by unfold z174.C at h;simp only at h;split at h;exact z9.sound vs p h;exact z169.sound vs p h;exact z149.sound vs p h;exact z173.sound vs p h;exact z151.sound vs p h;simp at h) ⟨Tryz.func177,rfl,by kernel_rfl⟩ rfl (z174.link _ _ _ _ _ _) z102.hdec
theorem z175.sound:Sn z175.pack 178:=by
 intro vs p h;unfold z175.pack at h;split at h<;>cases h
 exact Qf Qd Qe rfl rfl rfl rfl (λg vs p h=>by unfold z175.C at h;simp only at h;split at h;exact z9.sound vs p h;exact z116.sound vs p h;exact z151.sound vs p h;simp at h) ⟨Tryz.func178,rfl,by kernel_rfl⟩ rfl (z175.link _ _ _ _) z102.hdec
theorem z176.l0b5_sound (hI:InlOK Tryz.prog z176.C λR=>z176.C.inlK 6):Qi z176.C 6 94 0 0 (Qg 0 (ifun Tryz.f94).body) z176.l0b5sh z176.l0b5pack:=by
 refine Qj λls p h=>?_
 unfold z176.l0b5pack at h;split at h<;>cases h
 rename_i a c e g j m n q r t u v w y z A B D
 exact Qk hI (sh:=z176.l0b5sh) (so:=z176.l0b5sh) (F:=λR rec done x=>z176.l0b5P a e g j m n q r t u v A B rec done x) (enc:=λ(x':(Int×J0×Bool×J2))=>Qb z176.l0b5sh [.lr a,.i x'.1,.s e,.s g,.i j,.i m,.i n,.i q,.i r,.i t,.i u,.i v,.lr w,.li x'.2.1,.b x'.2.2.1,.li A,.b B,.lr x'.2.2.2]) [1,13,14,17] [1,13,14,17] (c,y,z,D) (by kernel_rfl) (by kernel_rfl) (λx=>by kernel_rfl) (λo=>by kernel_rfl) λR k d x'=>z176.l0b5_link R k d a (x'.1) e g j m n q r t u v w (x'.2.1) (x'.2.2.1) A B (x'.2.2.2)
theorem Qv4:Ql (ifun Tryz.f94).body=true:=by kernel_rfl
theorem z176.loopsT (hI:InlOK Tryz.prog z176.C λR=>z176.C.inlK 6):LoopsOK z176.C (λR=>z176.C.inlK 6) 94 0 (ifun Tryz.f94).body:=by
 intro id b hm st p hp
 obtain rfl:=Qn Qv4 hm
 unfold z176.C at hp
 simp only at hp
 try split at hp
 all_goals first
  |(simp at hp;done)
  |(exfalso;omega)
  |exact z176.l0b5_sound hI st p hp
theorem z176.sound:Sn z176.pack 94:=by
 intro vs p h;unfold z176.pack at h;split at h<;>cases h
 exact Qq Qd Qe rfl rfl rfl (λg vs p h=>by unfold z176.C at h;simp only at h;split at h;exact z129.sound vs p h;exact z112.sound vs p h;exact z9.sound vs p h;exact z174.sound vs p h;exact z175.sound vs p h;exact z153.sound vs p h;exact z109.sound vs p h;exact z111.sound vs p h;exact z108.sound vs p h;exact z6.sound vs p h;simp at h) ⟨Tryz.func94,rfl,by kernel_rfl⟩ z176.loopsT rfl (z176.link _ _ _ _ _ _ _ _ _ _) (by intro v r h;unfold z176.dec at h;split at h<;>cases h;exact ⟨rfl,rfl⟩)
theorem Qo3:FunOK Tryz.prog 21 Tryz.f21 (ifun Tryz.f21).body:=⟨Tryz.func21,rfl,by kernel_rfl⟩
theorem z177.sound:Sn z177.pack 21:=by
 intro vs p h;unfold z177.pack at h;split at h<;>cases h
 exact Qf Qd Qe rfl rfl rfl rfl (λg vs p h=>by unfold z177.C at h;simp only at h;split at h;exact z18.sound vs p h;exact z165.sound vs p h;exact z126.sound vs p h;exact z167.sound vs p h;exact z176.sound vs p h;exact z168.sound vs p h;simp at h) Qo3 rfl (z177.link _ _ _ _ _ _ _ _ _ _ _ _ _ _ _ _ _ _ _ _ _ _) z10.hdec
end
end Go.Proofs.YtgjncgiekniniaaGreatDoor.A
end
section
namespace Go.Proofs.YtgjncgiekniniaaGreatDoor.A
open Go Go.RowKit Go.ChangeShapes Go.WideShapes
noncomputable section
inductive SC where
 |b
 |i (k:IntKind)
 |s
inductive CT where
 |sc (c:SC)
 |sl (cs:List SC)
def scOf:CT->Option SC
 |.sc c=>some c
 |_=>none
def Jm:List CT->Option (List SC)
 |[]=>some []
 |c::l=>(scOf c).bind λx=>(Jm l).map (x :: ·)
def okS:SC->V->Prop
 |.b,v=>∃x,v=.bool x
 |.i k,v=>∃n,v=.int k n/\(Lit.int k n).wf=true
 |.s,v=>∃l,v=.str l/\l.length<=maxLen
def okSL:List SC->List V->Prop
 |[],vs=>vs=[]
 |c::cs,vs=>∃v l,vs=v::l/\okS c v/\okSL cs l
def okC:CT->V->Prop
 |.sc c,v=>okS c v
 |.sl [.i k],v=>∃l,v=.ints false k l/\(∀n∈l,(Lit.int k n).wf=true)/\l.length<=maxLen
 |.sl [.s],v=>∃l,v=.strs false l/\(∀s∈l,s.length<=maxLen)/\l.length<=maxLen
 |.sl cs,v=>∃l,v=.recs false cs.length l/\(∀r∈l,okSL cs r)/\l.length<=maxLen
def okCL:List CT->List V->Prop
 |[],vs=>vs=[]
 |c::cs,vs=>∃v l,vs=v::l/\okC c v/\okCL cs l
def ctsF (P:Program) (rec:TypeId->Option (List CT)):Nat->List Field->Option (List CT)
 |_,[]=>some []
 |off,f::fs=>if f.offset=off then (rec f.type).bind λl=>if P.cellsOf f.type=l.length then (ctsF P rec (off+l.length) fs).map (l ++ ·) else none else none
def ctsA (l:List CT):Nat->List CT
 |0=>[]
 |n+1=>l++ctsA l n
def cts (P:Program):Nat->TypeId->Option (List CT)
 |0,_=>none
 |
  n+1,t=>
  match P.underlying t with
  |some .bool=>some [.sc .b]
  |some (.int k)=>some [.sc (.i k)]
  |some .string=>some [.sc .s]
  |some (.struct fs)=>(ctsF P (cts P n) 0 fs.toList).bind λl=>if P.cellsOf t=l.length then some l else none
  |some (.array m e)=>(cts P n e).bind λl=>if P.cellsOf e=l.length/\P.cellsOf t=m*l.length then some (ctsA l m) else none
  |some (.slice e)=>(cts P n e).bind λl=>(Jm l).bind λcs=>if P.cellsOf e=cs.length/\0<cs.length then some [.sl cs] else none
  |_=>none
abbrev noO:Nat->Prop:=λ_=>False
def Qpi (W:World) (c:CT) (cv:Value) (v:V):Prop:=okC c v/\Rep0 noO W cv v/\cv.oneCell'=true
def Y6 (W:World) (l:List CT) (cs:List Value) (vs:List V):Prop:=
 cs.length=l.length/\vs.length=l.length/\∀(j:Nat) (c:CT) (cv:Value) (v:V),l[j]? = some c->cs[j]? = some cv->vs[j]? = some v->Qpi W c cv v
theorem cellsR_nil (W:World):Y6 W [] [] []:=⟨rfl,rfl,λ(j:Nat) c cv v h=>by simp at h⟩
theorem Qdd {W:World} {c:CT} {cv:Value} {v:V} (h:Qpi W c cv v):Y6 W [c] [cv] [v]:=by
 refine ⟨rfl,rfl,λj c' cv' v' h1 h2 h3=>?_⟩
 cases j with
 |zero=>simp at h1 h2 h3;subst h1 h2 h3;exact h
 |succ j=>simp at h1
theorem Qot {W:World} {l l':List CT} {cs cs':List Value} {vs vs':List V} (h:Y6 W l cs vs) (h':Y6 W l' cs' vs'):Y6 W (l++l') (cs++cs') (vs++vs'):=by
 obtain ⟨a1,a2,a3⟩:=h;obtain ⟨b1,b2,b3⟩:=h'
 refine ⟨by simp [a1,b1],by simp [a2,b2],λj c cv v h1 h2 h3=>?_⟩
 by_cases hj:j<l.length
 ·rw [List.getElem?_append_left hj] at h1
  rw [List.getElem?_append_left (by omega)] at h2 h3
  exact a3 j c cv v h1 h2 h3
 ·rw [List.getElem?_append_right (by omega)] at h1 h2 h3
  rw [a1] at h2;rw [a2] at h3
  exact b3 _ c cv v h1 h2 h3
theorem Qh2 {W:World}:∀{l:List CT} {cs:List Value} {vs:List V},Y6 W l cs vs->okCL l vs
 |[],cs,vs,h=>List.length_eq_zero_iff.1 h.2.1
 |
  c::l,cs,vs,h=>by
  obtain ⟨h1,h2,h3⟩:=h
  match cs,vs,h1,h2 with
  |
   cv::cs,v::vs,h1,h2=>
   exact ⟨v,vs,rfl,(h3 0 c cv v rfl rfl rfl).1,Qh2 (cs:=cs) ⟨by simpa using h1,by simpa using h2,λj c' cv' v' a b d=>h3 (j+1) c' cv' v' (by simpa using a) (by simpa using b) (by simpa using d)⟩⟩
theorem Qnp:∀{l:List CT} {ss:List SC} {vs:List V},Jm l=some ss->okCL l vs->okSL ss vs
 |[],ss,vs,h,hv=>by simp [Jm] at h;subst h;exact hv
 |
  c::l,ss,vs,h,hv=>by
  simp only [Jm,Option.bind_eq_some_iff,Option.map_eq_some_iff] at h
  obtain ⟨x,hx,y,hy,rfl⟩:=h
  obtain ⟨v,r,rfl,h1,h2⟩:=hv
  refine ⟨v,r,rfl,?_,Qnp hy h2⟩
  cases c with
  |sc c=>simp [scOf] at hx;subst hx;exact h1
  |sl _=>simp [scOf] at hx
theorem Qo0:∀{l:List CT} {ss:List SC},Jm l=some ss->ss.length=l.length
 |[],ss,h=>by simp [Jm] at h;subst h;rfl
 |
  c::l,ss,h=>by
  simp only [Jm,Option.bind_eq_some_iff,Option.map_eq_some_iff] at h
  obtain ⟨x,hx,y,hy,rfl⟩:=h
  simp [Qo0 hy]
theorem Qh9 {α:Type} {Q:Nat->α->Prop}:∀{n:Nat},(∀i,i<n->∃x,Q i x)->∃l:List α,l.length=n/\∀(i:Nat) (x:α),l[i]? = some x->Q i x
 |0,_=>⟨[],rfl,λi x h=>by simp at h⟩
 |
  n+1,h=>by
  obtain ⟨l,h1,h2⟩:=Qh9 (n:=n) λi hi=>h i (by omega)
  obtain ⟨x,hx⟩:=h n (by omega)
  refine ⟨l++[x],by simp [h1],λi y hy=>?_⟩
  by_cases hi:i<l.length
  ·rw [List.getElem?_append_left hi] at hy;exact h2 i y hy
  ·rw [List.getElem?_append_right (by omega)] at hy
   have:i-l.length=0:=by
    rcases Nat.lt_or_ge (i-l.length) 1 with h0|h0
    ·omega
    ·rw [List.getElem?_eq_none (by simp;omega)] at hy;simp at hy
   rw [this] at hy;simp at hy;subst hy
   have:i=n:=by omega
   subst this;exact hx
theorem Qos {α:Type} (z:Nat) (hz:0<z):∀(l:List (List α)) (j:Nat),(∀e∈l,e.length=z)->l.flatten[j]? = (l[j/z]?).bind (·[j%z]?)
 |[],j,_=>by simp
 |
  e::l,j,h=>by
  have he:=h e (by simp)
  rw [List.flatten_cons]
  by_cases hj:j<z
  ·rw [List.getElem?_append_left (by omega),Nat.div_eq_of_lt hj,Nat.mod_eq_of_lt hj];rfl
  ·rw [List.getElem?_append_right (by omega),Qos z hz l _ (λx hx=>h x (by simp [hx])),he]
   have h1:j/z=(j-z)/z+1:=by rw [<-Nat.add_div_right (j-z) hz,Nat.sub_add_cancel (by omega)]
   have h2:j%z=(j-z)%z:=by rw [<-Nat.add_mod_right (j-z) z,Nat.sub_add_cancel (by omega)]
   rw [h1,h2];rfl
theorem ones {α:Type} {c:SC} {f:α->V} {Q:α->Prop} (hc:∀v,okS c v->∃n,v=f n/\Q n):∀vss:J2,(∀r∈vss,okSL [c] r) ->
  ∃zs:List α,vss.flatten=zs.map f/\zs.length=vss.length/\∀n∈zs,Q n
 |[],_=>⟨[],rfl,rfl,by simp⟩
 |
  r::vss,h=>by
  obtain ⟨zs,e1,e2,e3⟩:=ones hc vss λx hx=>h x (by simp [hx])
  obtain ⟨v,l,rfl,hv,hl⟩:=h r (by simp)
  have hl:l=[]:=hl
  subst hl
  obtain ⟨n,rfl,hq⟩:=hc v hv
  exact ⟨n::zs,by simp [e1],by simp [e2],by simpa using ⟨hq,e3⟩⟩
theorem Qw7 {W:World} {t e n m:Nat} {ss:List SC} {l:List CT} {a:Addr} {len cap:Nat} (hs:Jm l=some ss) (hz:0<ss.length) (hl:len<=cap) (hm:cap<=maxLen)
  (h:∀i,i<len->∃cs vs,W.cells? 0 (a.add (i*ss.length)) ss.length=some cs/\Y6 W l cs vs):∃v,okC (.sl ss) v/\Rep0 noO W (.slice (some a) len cap) v:=by
 obtain ⟨rows,h1,h2⟩:=Qh9 h
 have hsl:=Qo0 hs
 have hrow:∀(i:Nat) (r:List Value),rows[i]? = some r->∃vs:List V,r.length=ss.length/\okSL ss vs/\vs.length=ss.length/\∀(j:Nat) (cv:Value) (v:V),r[j]? = some cv->vs[j]? = some v->W.cell? (a.add (i*ss.length+j))=some cv/\Rep0 noO W cv v/\cv.oneCell'=true:=by
  intro i r hr
  obtain ⟨vs,hc,hv⟩:=h2 i r hr
  obtain ⟨_,hlen,hcell⟩:=World.cells?_some hc
  refine ⟨vs,hlen,Qnp hs (Qh2 hv),hv.2.1.trans hsl.symm,λj cv v hj hjv=>?_⟩
  have hjl:j<l.length:=by have:=(List.getElem?_eq_some_iff.1 hj).1;omega
  have:=hv.2.2 j l[j] cv v (by simp) hj hjv
  refine ⟨?_,this.2⟩
  rw [<-Go.Deep.add_add,hcell j (by omega),hj]
 have hall:∀i,i<rows.length->∃vs:List V,okSL ss vs/\vs.length=ss.length/\∀(j:Nat) (v:V),vs[j]? = some v->∃cv,W.cell? (a.add (i*ss.length+j))=some cv/\Rep0 noO W cv v/\cv.oneCell'=true:=by
  intro i hi
  obtain ⟨vs,q1,q2,q3,q4⟩:=hrow i rows[i] (by simp [hi])
  refine ⟨vs,q2,q3,λj v hv=>?_⟩
  have:j<ss.length:=by have:=(List.getElem?_eq_some_iff.1 hv).1;omega
  exact ⟨_,q4 j (rows[i][j]'(by omega)) v (by simp) hv⟩
 obtain ⟨vss,g1,g2⟩:=Qh9 hall
 have hvlen:∀e∈vss,e.length=ss.length:=λe he=>by obtain ⟨i,hi,rfl⟩:=List.getElem_of_mem he;exact (g2 i _ (by simp [hi])).2.1
 have gen:∀v:V,flatV v=some (len,vss.flatten)->isExact v=false->Rep0 noO W (.slice (some a) len cap) v:=by
  intro v hf hx
  have hcell:∀(j:Nat) (v:V),vss.flatten[j]? = some v->∃cv,W.cell? (a.add j)=some cv/\Rep0 noO W cv v/\cv.oneCell'=true:=by
   intro j v hv
   rw [Qos ss.length hz vss j hvlen] at hv
   obtain ⟨r,hr,hv⟩:=Option.bind_eq_some_iff.1 hv
   obtain ⟨cv,k1,k2⟩:=(g2 _ r hr).2.2 _ v hv
   refine ⟨cv,?_,k2⟩
   rw [show j=j/ss.length*ss.length+j%ss.length by rw [Nat.mul_comm];exact (Nat.div_add_mod j ss.length).symm]
   exact k1
  refine .slice (some a) len cap v vss.flatten (λj=>(W.cell? (a.add j)).getD Go.undef) hf (by simp [hx]) hl (by simp) (λj hj=>?_) (λj hj=>?_) (λj hj=>?_)
  ·obtain ⟨cv,k1,k2,k3⟩:=hcell j _ (List.getElem?_eq_getElem hj)
   exact ⟨a,rfl,λh=>h.elim,by rw [k1];rfl⟩
  ·obtain ⟨cv,k1,k2,k3⟩:=hcell j _ (List.getElem?_eq_getElem hj)
   rw [k1];exact k3
  ·obtain ⟨cv,k1,k2,k3⟩:=hcell j _ (List.getElem?_eq_getElem hj)
   rw [k1];exact k2
 have hlen':vss.length=len:=by omega
 have recs:∃v,(∃l,v=V.recs false ss.length l/\(∀r∈l,okSL ss r)/\l.length<=maxLen)/\Rep0 noO W (.slice (some a) len cap) v:=by
  refine ⟨.recs false ss.length vss,⟨vss,rfl,λr hr=>?_,by omega⟩,gen _ ?_ rfl⟩
  ·obtain ⟨i,hi,rfl⟩:=List.getElem_of_mem hr;exact (g2 i _ (by simp [hi])).1
  ·simp only [flatV];rw [if_pos ⟨hz,hvlen⟩,hlen']
 match ss,hs,hz,recs,g2,gen,hvlen with
 |[],_,hz,_,_,_,_=>simp at hz
 |[.b],_,_,recs,_,_,_=>exact recs
 |x::y::_,_,_,recs,_,_,_=>exact by cases x<;>exact recs
 |
  [.i k],_,_,recs,g2,gen,hvlen=>
  obtain ⟨zs,e1,e2,e3⟩:=ones (c:=.i k) (f:=V.int k) (λv h=>h) vss λr hr=>by
   obtain ⟨i,hi,rfl⟩:=List.getElem_of_mem hr;exact (g2 i _ (by simp [hi])).1
  refine ⟨.ints false k zs,⟨zs,rfl,e3,by omega⟩,gen _ ?_ rfl⟩
  simp only [flatV];rw [e1,e2,hlen']
 |
  [.s],_,_,recs,g2,gen,hvlen=>
  obtain ⟨zs,e1,e2,e3⟩:=ones (c:=.s) (f:=V.str) (λv h=>h) vss λr hr=>by
   obtain ⟨i,hi,rfl⟩:=List.getElem_of_mem hr;exact (g2 i _ (by simp [hi])).1
  refine ⟨.strs false zs,⟨zs,rfl,e3,by omega⟩,gen _ ?_ rfl⟩
  simp only [flatV];rw [e1,e2,hlen']
theorem Qtb {W:World} {ss:List SC} (hz:0<ss.length):∃v,okC (.sl ss) v/\Rep0 noO W (.slice none 0 0) v:=by
 have gen:∀v:V,flatV v=some (0,[])->isExact v=false->Rep0 noO W (.slice none 0 0) v:=λv hf hx=>
  .slice none 0 0 v [] (λ_=>Go.undef) hf (by simp [hx]) (Nat.le_refl _) (λ_=>rfl) (λj hj=>by simp at hj) (λj hj=>by simp at hj) (λj hj=>by simp at hj)
 match ss,hz with
 |[.i k],_=>exact ⟨.ints false k [],⟨[],rfl,by simp,by simp⟩,gen _ rfl rfl⟩
 |[.s],_=>exact ⟨.strs false [],⟨[],rfl,by simp,by simp⟩,gen _ rfl rfl⟩
 |[.b],_=>exact ⟨.recs false 1 [],⟨[],rfl,by simp,by simp⟩,gen _ (by simp [flatV]) rfl⟩
 |a::a'::ss,_=>exact ⟨.recs false (a::a'::ss).length [],by cases a<;>exact ⟨[],rfl,by simp,by simp⟩,gen _ (by simp [flatV]) rfl⟩
section
variable {H:Type} {enc:TypeId×Value->H} {P:Program} {W:World}
theorem Qey:∀(n:Nat) (t:TypeId) (l:List CT),cts P n t=some l->∀(fuel:Nat) (cs:List Value) (x:DataW H×List MemPlace),DataW.trod enc P W 0 (λ_=>true) true fuel t cs=some x ->
  ∃vs,Y6 W l cs vs
 |0,t,l,h,_,_,_,_=>by simp [cts] at h
 |
  n+1,t,l,h,fuel,cs,x,hx=>by
  unfold cts at h
  split at h
  ·rename_i ht
   simp at h;subst h
   obtain ⟨bb,rfl,_⟩:=DataW.trod_bool ht hx
   exact ⟨[.bool bb],Qdd ⟨⟨bb,rfl⟩,.bool bb,rfl⟩⟩
  ·rename_i k ht
   simp at h;subst h
   obtain ⟨b,rfl,_,hw⟩:=DataW.trod_int ht hx
   exact ⟨[.int k b],Qdd ⟨⟨b,rfl,hw⟩,.int k b,rfl⟩⟩
  ·rename_i ht
   simp at h;subst h
   obtain ⟨b,rfl,_,hw⟩:=DataW.trod_string ht hx
   exact ⟨[.str b.data.toList],Qdd ⟨⟨_,rfl,by simpa using hw⟩,.str _ _ rfl,rfl⟩⟩
  ·rename_i fs ht
   obtain ⟨l',h1,h2⟩:=Option.bind_eq_some_iff.1 h
   split at h2
   case isFalse=>simp at h2
   rename_i hsz
   simp at h2;subst h2
   obtain ⟨xs,m,_,_,hlen,hxl,hf⟩:=DataW.trod_struct ht hx
   have key:∀(gs:List Field) (off:Nat) (l':List CT),ctsF P (cts P n) off gs=some l'->(∀f∈gs,∃y,DataW.trod enc P W 0 (λ_=>true) true m f.type ((cs.drop f.offset).take (P.cellsOf f.type))=some y) ->
     ∃vs,Y6 W l' ((cs.drop off).take l'.length) vs:=by
    intro gs
    induction gs with
    |nil=>intro off l' h _;simp [ctsF] at h;subst h;exact ⟨[],by simpa using cellsR_nil W⟩
    |
     cons f gs ih=>
     intro off l' h hg
     unfold ctsF at h
     split at h
     case isFalse=>simp at h
     rename_i hoff
     obtain ⟨lf,h1,h2⟩:=Option.bind_eq_some_iff.1 h
     split at h2
     case isFalse=>simp at h2
     rename_i hsz
     obtain ⟨l2,h3,rfl⟩:=Option.map_eq_some_iff.1 h2
     obtain ⟨y,hy⟩:=hg f (by simp)
     obtain ⟨vs1,c1⟩:=Qey n f.type lf h1 m _ y hy
     obtain ⟨vs2,c2⟩:=ih _ _ h3 λf' hf'=>hg f' (by simp [hf'])
     refine ⟨vs1++vs2,?_⟩
     have hc:=Qot c1 c2
     rw [hoff,hsz] at hc
     have hl1:lf.length<=(cs.drop off).length:=by
      have:=c1.1;rw [hoff,hsz,List.length_take] at this;omega
     rw [List.length_append,List.take_add,List.drop_drop]
     exact hc
   have hall:∀f∈fs.toList,∃y,DataW.trod enc P W 0 (λ_=>true) true m f.type ((cs.drop f.offset).take (P.cellsOf f.type))=some y:=by
    intro f hf'
    obtain ⟨i,hi,rfl⟩:=List.getElem_of_mem hf'
    have hi':i<fs.size:=by simpa using hi
    have:=hf i (fs.toList[i]) (by simp [hi'])
    rw [List.getElem?_eq_getElem (by omega)] at this
    exact ⟨_,this⟩
   obtain ⟨vs,hv⟩:=key fs.toList 0 _ h1 hall
   refine ⟨vs,?_⟩
   rwa [List.drop_zero,List.take_of_length_le (by omega)] at hv
  ·rename_i m e ht
   obtain ⟨l',h1,h2⟩:=Option.bind_eq_some_iff.1 h
   split at h2
   case isFalse=>simp at h2
   rename_i hsz
   simp at h2;subst h2
   obtain ⟨xs,q,_,_,hlen,hxl,hf⟩:=DataW.trod_array ht hx
   have key:∀(k:Nat),k<=m->∃vs,Y6 W (ctsA l' k) ((cs.drop ((m-k)*l'.length)).take (k*l'.length)) vs:=by
    intro k
    induction k with
    |zero=>intro _;exact ⟨[],by simpa [ctsA] using cellsR_nil W⟩
    |
     succ k ih=>
     intro hk
     obtain ⟨vs2,c2⟩:=ih (by omega)
     have h3:=hf (m-(k+1)) (by omega)
     rw [List.getElem?_eq_getElem (by omega)] at h3
     obtain ⟨vs1,c1⟩:=Qey n e l' h1 q _ _ h3
     refine ⟨vs1++vs2,?_⟩
     have hc:=Qot c1 c2
     rw [hsz.1] at hc
     have e1:(m-k)*l'.length=(m-(k+1))*l'.length+l'.length:=by
      rw [<-Nat.succ_mul];congr 1;omega
     have e2:(k+1)*l'.length=l'.length+k*l'.length:=by rw [Nat.succ_mul,Nat.add_comm]
     rw [e1,<-List.drop_drop] at hc
     rw [e2,List.take_add]
     exact hc
   obtain ⟨vs,hv⟩:=key m (Nat.le_refl _)
   refine ⟨vs,?_⟩
   rwa [Nat.sub_self,Nat.zero_mul,List.drop_zero,List.take_of_length_le (by omega)] at hv
  ·rename_i e ht
   obtain ⟨l',h1,h2⟩:=Option.bind_eq_some_iff.1 h
   obtain ⟨ss,h3,h4⟩:=Option.bind_eq_some_iff.1 h2
   split at h4
   case isFalse=>simp at h4
   rename_i hsz
   simp at h4;subst h4
   rcases Go.Deep.open_slice ht hx with ⟨rfl,_⟩|⟨a,len,cap,m,q,D,Pl,rfl,_,hl,hm,hmm,_,hi⟩
   ·obtain ⟨v,k1,k2⟩:=Qtb (W:=W) hsz.2
    exact ⟨[v],Qdd ⟨k1,k2,rfl⟩⟩
   ·simp only [if_true] at hmm
    subst hmm
    rw [hsz.1] at hi
    obtain ⟨v,k1,k2⟩:=Qw7 (t:=0) (e:=0) (n:=0) (m:=0) h3 hsz.2 hl hm λi hi'=>by
     obtain ⟨cs',c1,c2⟩:=hi i (by omega)
     obtain ⟨vs,c3⟩:=Qey n e l' h1 q _ _ c2
     exact ⟨cs',vs,c1,c3⟩
    exact ⟨[v],Qdd ⟨k1,k2,rfl⟩⟩
  ·simp at h
inductive AT where
 |one (c:CT)
 |agg (l:List CT)
def okA:AT->V->Prop
 |.one c,v=>okC c v
 |.agg l,v=>∃vs,v=.agg vs/\okCL l vs
def okAL:List AT->List V->Prop
 |[],vs=>vs=[]
 |c::cs,vs=>∃v l,vs=v::l/\okA c v/\okAL cs l
def atOf (P:Program) (n:Nat) (t:TypeId):Option AT:=
 (cts P n t).bind λl=>match P.underlying t with
  |some (.struct _)|some (.array _ _)=>some (.agg l)
  |
   _=>match l with
   |[c]=>some (.one c)
   |_=>none
def Qbf (P:Program) (n:Nat):List TypeId->Option (List AT)
 |[]=>some []
 |t::ts=>(atOf P n t).bind λx=>(Qbf P n ts).map (x :: ·)
theorem Qtg {n:Nat} {t:TypeId} {q:AT} (hq:atOf P n t=some q) {base:Nat} {v:Value} {d:DataW H} {ps:List MemPlace} (hval:Value.okWide P W .any base t v) (h:DataW.Trod enc P W 0 (λ_=>true) true t v d ps) :
  ∃x,okA q x/\Rep0 noO W v x:=by
 obtain ⟨l,h1,h2⟩:=Option.bind_eq_some_iff.1 hq
 obtain ⟨fuel,hf⟩:=h
 obtain ⟨vs,hv⟩:=Qey n t l h1 fuel _ _ hf
 have aggCase:(∃cs,v=.agg cs)->∃x,okA (.agg l) x/\Rep0 noO W v x:=by
  rintro ⟨cs,rfl⟩
  have hc:(Value.agg cs).cells.toList=cs.toList:=rfl
  rw [hc] at hv
  refine ⟨.agg vs,⟨vs,rfl,Qh2 hv⟩,.agg cs vs (by have:=hv.1;have:=hv.2.1;simp at *;omega) (λj hj=>?_) (λj hj=>?_)⟩ <;>
  ·have hj1:j<cs.size:=by have:=hv.1;have:=hv.2.1;simp at *;omega
   have:=hv.2.2 j (l[j]'(by have:=hv.2.1;omega)) cs[j] vs[j] (by simp) (by simp [hj1]) (by simp)
   have e:cs.getD j Go.undef=cs[j]:=by simp [Array.getD,hj1]
   rw [e]
   first|exact this.2.2|exact this.2.1
 split at h2
 ·rename_i fs ht
  simp at h2;subst h2
  obtain ⟨cs,rfl,_⟩:=okWide_struct ht hval
  exact aggCase ⟨cs,rfl⟩
 ·rename_i m e ht
  simp at h2;subst h2
  unfold Value.okWide at hval
  rw [ht] at hval
  obtain ⟨cs,rfl,_⟩:=hval
  exact aggCase ⟨cs,rfl⟩
 ·rename_i hns hna
  split at h2
  case h_2=>simp at h2
  rename_i c
  simp at h2;subst h2
  obtain ⟨a1,a2,a3⟩:=hv
  match vs,a2 with
  |
   [x],_=>
   have hcells:v.cells = #[v]:=by
    cases v with
    |
     agg cs=>
     exfalso
     unfold Value.okWide at hval
     cases n with
     |zero=>simp [cts] at h1
     |
      succ n=>
      unfold cts at h1
      split at h1<;>rename_i ht
      ·rw [ht] at hval;simp [Cell.okWide,Cell.ok,ht] at hval
      ·rw [ht] at hval;simp [Cell.okWide,Cell.ok,ht] at hval
      ·rw [ht] at hval;simp [Cell.okWide,Cell.ok,ht] at hval
      ·exact hns _ ht
      ·exact hna _ _ ht
      ·rw [ht] at hval;simp [Cell.okWide,Cell.ok,ht] at hval
      ·simp at h1
    |_=>rfl
   rw [hcells] at a3
   have:=a3 0 c v x rfl rfl rfl
   exact ⟨x,this.1,this.2.1⟩
theorem Qme {n:Nat}:∀{ts:List TypeId} {qs:List AT} {args:List Value} {ds:List (DataW H)} {ps:List MemPlace} {base:Nat},Qbf P n ts=some qs->DataW.TrodAll enc P W 0 (λ_=>true) true ts args ds ps ->
  (∀(j:Nat) t v,ts[j]? = some t->args[j]? = some v->Value.okWide P W .any base t v) ->
  ∃vs,args.length=vs.length/\okAL qs vs/\∀j (h:j<vs.length),Rep0 noO W (args.getD j Go.undef) vs[j]
 |
  [],qs,args,ds,ps,base,hq,h,_=>by
  simp [Qbf] at hq;subst hq
  obtain ⟨rfl,rfl,rfl⟩:=trodAll_nil h
  exact ⟨[],rfl,rfl,λj h=>by simp at h⟩
 |
  t::ts,qs,args,ds,ps,base,hq,h,hval=>by
  simp only [Qbf,Option.bind_eq_some_iff,Option.map_eq_some_iff] at hq
  obtain ⟨q,hq1,qs',hq2,rfl⟩:=hq
  obtain ⟨v,vs,d,ds',p,p',rfl,rfl,rfl,h1,h2⟩:=trodAll_cons h
  obtain ⟨x,k1,k2⟩:=Qtg hq1 (hval 0 t v rfl rfl) h1
  obtain ⟨xs,l1,l2,l3⟩:=Qme hq2 h2 λj t v a b=>hval (j+1) t v (by simpa using a) (by simpa using b)
  refine ⟨x::xs,by simp [l1],⟨x,xs,rfl,k1,l2⟩,λj hj=>?_⟩
  cases j with
  |zero=>exact k2
  |succ j=>simpa using l3 j (by simpa using hj)
theorem Qwl {ts:List TypeId} (hl:laidOutB P=true) (hr:ts.all (λt=>P.readableRec t&&decide (t<P.types.size))=true) {W':World} (hb:Below W.heap.size W W') {sp:Nat->Bool} :
  ∀
   {vs:List Value} {ds:List (DataW H)} {ps:List MemPlace},DataW.TrodAll enc P W 0 (λ_=>true) true ts vs ds ps->(∀x∈ps,x.block<W.heap.size)->(∀x∈ps,sp x.block=true) ->
   DataW.TrodAll enc P W' 0 sp true ts vs ds ps:=by
 induction ts with
 |
  nil=>
  intro vs ds ps h _ _
  obtain ⟨rfl,rfl,rfl⟩:=trodAll_nil h
  exact trodAll_mk0
 |
  cons t ts ih=>
  intro vs ds ps h hlt hsp
  obtain ⟨v,vs',d,ds',p,p',rfl,rfl,rfl,h1,h2⟩:=trodAll_cons h
  simp only [List.all_cons,Bool.and_eq_true,decide_eq_true_eq] at hr
  exact trodAll_cons_mk (WideElems.Trod_stays hl hr.1.1 hr.1.2 h1 (λx hx=>hb.same (hlt x (by simp [hx]))) (λx hx=>hsp x (by simp [hx])))
   (ih hr.2 h2 (λx hx=>hlt x (by simp [hx])) (λx hx=>hsp x (by simp [hx])))
theorem Qu0 {f:Func} {s:ChangeSpec} {apart fresh handsOn again:Bool} {W W':World} {args:Array Value} {v:Value} {ds gs:List (DataW H)} {before pa pv:List MemPlace}
  (hW:DataW.Whole enc P f.params.toList s.vars apart W args.toList ds gs before)
  (hres:∀(b:Nat) (sp:Nat->Bool) (hd:Bool),DataW.TrodAll enc P W' b sp hd f.resultTypes.toList (v.resultList f.resultTypes.size) (s.fn H (ds++gs)).results [])
  (hargs:∀sp:Nat->Bool,(∀p∈before,sp p.block=true)->DataW.TrodAll enc P W' 0 sp true f.params.toList args.toList (s.fn H (ds++gs)).args pa)
  (hvars:∀sp:Nat->Bool,(∀p∈before,sp p.block=true)->DataW.TrodVars enc P W' sp s.vars (s.fn H (ds++gs)).vars pv)
  (hps:before=pa++pv) (hb:Below W.heap.size W W')
  (hok:∀(j:Nat) (t:TypeId) (r:Value),f.resultTypes[j]? = some t->(v.resultList f.resultTypes.size)[j]? = some r->Value.okWide P W' .any 0 t r) :
  s.post enc P f apart fresh handsOn again W args v W':=by
 have hlt:∀p∈before,p.block<W.heap.size:=λp hp=>hW.lt p hp
 have hold:∀p∈before,(λb=>decide (b<W.heap.size)) p.block=true:=λp hp=>by simpa using hlt p hp
 refine ⟨ds,gs,before,[],pa,pv,hW,hres _ _ _,hargs _ hold,hvars _ hold,World.keptBut_mono (λp hp=>⟨hp,?_⟩) (hb.frame (·∈before)),λ_=>?_⟩
 ·rw [hps,List.mem_append] at hp
  exact Or.inr hp
 ·obtain ⟨_,_,_,_,_,hz,hn⟩:=hW
  refine ⟨hok,_,_,([]++pa)++pv,⟨[]++pa,pv,trodAll_append (hargs _ (λ_ _=>rfl)) (hres _ _ _),hvars _ (λ_ _=>rfl),rfl,?_,?_⟩,?_⟩
  ·intro b off hp
   have hin:MemPlace.cell b off∈before:=by rw [hps];simpa using hp
   rw [hb.frozen (hlt _ hin)]
   exact hz b off hin
  ·intro ha
   have:=hn ha
   rw [hps] at this
   simpa using this
  ·intro p hp _
   rw [hps]
   simpa using hp
theorem Qrb {g:Nat} {f:Func} {c:Code} (hf:FunOK P g f c) {s:ChangeSpec} {n:Nat} {qs:List AT} {tb:TypeId} (hl:laidOutB P=true) (hr:f.params.toList.all (λt=>P.readableRec t&&decide (t<P.types.size))=true)
  (hq:Qbf P n f.params.toList=some qs) (hres:f.resultTypes = #[tb]) (htb:P.underlying tb=some .bool) (hv:s.vars=[])
  (hs:∀ds:List (DataW H),ds.length=f.params.toList.length->s.fn H ds={results:=[.lit (.bool true)],args:=ds})
  (plain:∀vs,okAL qs vs->∃p r,SoundC P g vs p/\p.m=some r/\p.enc r=.bool true)
  (W:World) (base:Nat) (args:Array Value) (ds gs:List (DataW H)) (before:List MemPlace)
  (hval:∀(j:Nat) t v,f.params[j]? = some t->args[j]? = some v->Value.okWide P W .any base t v)
  (hW:DataW.Whole enc P f.params.toList s.vars false W args.toList ds gs before) :
  Calls P g args W λe W'=>∃v,e=.returned v/\s.post enc P f false true false false W args v W':=by
 have hW':=hW
 have hlt:∀p∈before,p.block<W.heap.size:=λp hp=>hW.lt p hp
 obtain ⟨p,q,hA,hV,rfl,hfz,hnd⟩:=hW
 have hA:DataW.TrodAll enc P W 0 (λ_=>true) true f.params.toList args.toList ds p:=hA
 rw [hv] at hV
 obtain ⟨rfl,rfl⟩:=trodVars_none hV
 obtain ⟨vs,h1,h2,h3⟩:=Qme hq hA λj t v a b=>hval j t v (by simpa using a) (by simpa using b)
 obtain ⟨pk,r,hsound,hm,he⟩:=plain vs h2
 have hcall:=hsound noO W args r hm (by simpa using h1) (λj hj=>by
  have h4:=h3 j hj
  have:args.getD j Go.undef=args.toList.getD j Go.undef:=by
   have hj':j<args.size:=by rw [<-Array.length_toList,h1];exact hj
   simp [Array.getD,List.getD,hj']
  rwa [this]) (λb h=>h.elim)
 unfold CallR at hcall
 rw [hf.enters] at hcall
 have hlen:∀{ts:List TypeId} {vs:List Value} {ds:List (DataW H)} {ps:List MemPlace},DataW.TrodAll enc P W 0 (λ_=>true) true ts vs ds ps->ds.length=ts.length:=by
  intro ts
  induction ts with
  |nil=>intro vs ds ps h;obtain ⟨_,rfl,_⟩:=trodAll_nil h;rfl
  |cons t ts ih=>intro vs ds ps h;obtain ⟨_,_,_,_,_,_,_,rfl,_,_,h2⟩:=trodAll_cons h;simp [ih h2]
 refine hcall.mono λe W' h=>?_
 cases e with
 |
  returned cv=>
  obtain ⟨hg,hrep⟩:=h
  rw [he] at hrep
  obtain rfl:cv=.bool true:=by
   cases hrep
   ·rfl
   ·rename_i hf _;cases hf
  have hb:Below W.heap.size W W':=⟨hg.os,hg.tape,hg.output,hg.size,λk hk=>hg.block k hk (by simp)⟩
  have hfn:=hs ds (hlen hA)
  refine ⟨_,rfl,Qu0 (pa:=p) (pv:=[]) hW' ?_ ?_ ?_ rfl hb ?_⟩
  ·intro b sp hd
   rw [List.append_nil,hfn,hres]
   exact trodAll_cons_mk (shut_bool htb _) trodAll_mk0
  ·intro sp hsp
   rw [List.append_nil,hfn]
   exact Qwl hl hr hb hA (λx hx=>hlt x (by simp [hx])) (λx hx=>hsp x (by simp [hx]))
  ·intro sp hsp
   rw [List.append_nil,hfn,hv]
   rfl
  ·exact ok_one hres rfl (okWide_bool_mk htb _)
 |_=>exact h.elim
end
end
end Go.Proofs.YtgjncgiekniniaaGreatDoor.A
end
section
namespace Go.Proofs.YtgjncgiekniniaaGreatDoor.A
open Go
theorem own:ownKnob Tryz.prog.godebug=none:=by kernel_rfl
theorem laidOut:laidOutB Tryz.prog=true:=by kernel_rfl
theorem rowed:mapsRowed Tryz.prog=true:=by kernel_rfl
theorem Qr1:(Tryz.prog.stops == [])=true:=by kernel_rfl
theorem Qsp:(Tryz.prog.stopKnobs == [])=true:=by kernel_rfl
theorem Qsm:Tryz.prog.stopsHeard=true:=by kernel_rfl
theorem Quc:Tryz.prog.mayEnter=true:=by kernel_rfl
theorem Qrf:false=Tryz.prog.looks []:=by kernel_rfl
theorem main:Tryz.pinned.checked.prog.mainIs=some (true,("d4ffbc68b08c28ac251f33799dbb1d7e972ab3df77886f5ed4ce34a153cf9881":String).toList):=by kernel_rfl
noncomputable def relay (l:J0):Obj->Obj
 |.cells _ t fz=>.cells (l.map λn=>Value.int .u8 n).toArray t fz
 |o=>o
noncomputable def accept:J0:=[128,191,160,191,128,159,144,191,128,143,0,0,0,0,0,0,0,0,0,0,0,0,0,0,0,0,0,0,0,0,0,0]
noncomputable def Qhm (os:Os):World:=
 let w:=World.holding Tryz.prog os ⟨#[],#[],[]⟩
 {w with heap:=(w.heap.modify 3 (relay (Go.Pinned.utf8FirstZ.map Int.ofNat))).modify 4 (relay accept)}
def Runs {σ R:Type} (F:(σ->Option R)->σ->Option R) (x:σ) (r:R):Prop:=
 (∃n,Q8 F n x=some r)/\∀n,Q8 F n x=none\/Q8 F n x=some r
theorem Runs.done {σ R:Type} {F:(σ->Option R)->σ->Option R} {x:σ} {r:R} (h:∀rec,F rec x=some r):Runs F x r:=by
 refine ⟨⟨1,h _⟩,λn=>?_⟩
 cases n with
 |zero=>exact .inl rfl
 |succ n=>exact .inr (h _)
theorem Runs.step {σ R:Type} {F:(σ->Option R)->σ->Option R} {x y:σ} {r:R} (h:∀rec,F rec x=rec y) (hy:Runs F y r):Runs F x r:=by
 obtain ⟨⟨m,hm⟩,ha⟩:=hy
 refine ⟨⟨m+1,by rw [<-hm];exact h _⟩,λn=>?_⟩
 cases n with
 |zero=>exact .inl rfl
 |succ n=>have:=ha n;rw [<-h (Q8 F n)] at this;exact this
theorem Runs.lfp {σ R:Type} {F:(σ->Option R)->σ->Option R} {x:σ} {r:R} (h:Runs F x r):A.lfp F x=some r:=by
 obtain ⟨⟨m,hm⟩,ha⟩:=h
 unfold A.lfp
 have hex:∃n,(Q8 F n x).isSome:=⟨m,by rw [hm];rfl⟩
 rw [dif_pos hex]
 rcases ha (Classical.choose hex) with h0|h0
 ·have:=Classical.choose_spec hex
  rw [h0] at this;simp at this
 ·exact h0
theorem Qc {n:Int} (h1:-9223372036854775808<=n) (h2:n<9223372036854775808):wr .i64 n=n:=by
 simp only [wr,IntKind.wrap,IntKind.signed,IntKind.bits]
 simp;omega
theorem Qm {n:Int} (h1:0<=n) (h2:n<18446744073709551616):wr .u64 n=n:=by
 simp only [wr,IntKind.wrap,IntKind.signed,IntKind.bits]
 simp;omega
theorem Wo (n:Int):wr .u64 n=n%18446744073709551616:=by
 simp [wr,IntKind.wrap,IntKind.signed,IntKind.bits]
theorem Qi7 {n:Int} (h1:0<=n) (h2:n<256):wr .u8 n=n:=by
 simp only [wr,IntKind.wrap,IntKind.signed,IntKind.bits]
 simp;omega
theorem Qqp {n:Int} (h:(Lit.int .u64 n).wf=true):0<=n/\n<18446744073709551616:=by
 simp [Lit.wf,IntKind.min,IntKind.max,IntKind.signed,IntKind.bits] at h;omega
theorem Qqe {n:Int} (h:(Lit.int .u32 n).wf=true):0<=n/\n<4294967296:=by
 simp [Lit.wf,IntKind.min,IntKind.max,IntKind.signed,IntKind.bits] at h;omega
theorem Qq0 {n:Int} (h:(Lit.int .u16 n).wf=true):0<=n/\n<65536:=by
 simp [Lit.wf,IntKind.min,IntKind.max,IntKind.signed,IntKind.bits] at h;omega
theorem Qcc {n:Int} (h:(Lit.int .u8 n).wf=true):0<=n/\n<256:=by
 simp [Lit.wf,IntKind.min,IntKind.max,IntKind.signed,IntKind.bits] at h;omega
theorem W1 {a b:Int} (h:0<=a):Int.tdiv a b=a/b:=Int.tdiv_eq_ediv_of_nonneg h
theorem Yv {a b:Int} (h:0<=a):Int.tmod a b=a%b:=Int.tmod_eq_emod_of_nonneg h
def toB (B n:Nat):J0:=if h:2<=B/\0<n then ((n%B:Nat):Int)::toB B (n/B) else []
termination_by n
decreasing_by exact Nat.div_lt_self h.2 h.1
def valB (B:Nat):J0->Int
 |[]=>0
 |x::l=>x+B*valB B l
theorem toB_zero (B:Nat):toB B 0=[]:=by unfold toB;rw [dif_neg];omega
theorem Wp {B n:Nat} (hB:2<=B) (hn:0<n):toB B n=((n%B:Nat):Int)::toB B (n/B):=by
 rw [toB];rw [dif_pos ⟨hB,hn⟩]
def inB (B:Nat) (l:J0):Prop:=∀x∈l,0<=x/\x<B
theorem We {B:Nat} {x:Int} {l:J0}:inB B (x::l)↔(0<=x/\x<B)/\inB B l:=by simp [inB]
theorem inB_nil (B:Nat):inB B []:=by simp [inB]
theorem Qh1 {B:Nat} {l l':J0}:inB B (l++l')↔inB B l/\inB B l':=by
 simp only [inB,List.mem_append]
 exact ⟨λh=>⟨λx hx=>h x (.inl hx),λx hx=>h x (.inr hx)⟩,λh x hx=>hx.elim (h.1 x) (h.2 x)⟩
theorem Qu {B:Nat} (hB:2<=B) (n:Nat):inB B (toB B n):=by
 induction n using Nat.strongRecOn with
 |
  _ n ih=>
  rcases Nat.eq_zero_or_pos n with rfl|hn
  ·rw [toB_zero];exact inB_nil B
  ·rw [Wp hB hn,We]
   refine ⟨⟨by omega,?_⟩,ih _ (Nat.div_lt_self hn hB)⟩
   exact_mod_cast Nat.mod_lt n (by omega)
theorem Q0 {B:Nat} (hB:2<=B) (n:Nat):valB B (toB B n)=n:=by
 induction n using Nat.strongRecOn with
 |
  _ n ih=>
  rcases Nat.eq_zero_or_pos n with rfl|hn
  ·rw [toB_zero];rfl
  ·rw [Wp hB hn,valB,ih _ (Nat.div_lt_self hn hB)]
   exact_mod_cast Nat.mod_add_div n B
theorem Q7 {B:Nat}:∀{l:J0},inB B l->0<=valB B l
 |[],_=>Int.le_refl 0
 |
  x::l,h=>by
  rw [We] at h
  have:=Q7 h.2
  have:=Int.mul_nonneg (Int.natCast_nonneg B) this
  unfold valB;omega
theorem Wt {B:Nat} (hB:2<=B):∀{l:J0},inB B l->valB B l<(B^l.length:Nat)
 |[],_=>by simp [valB]
 |
  x::l,h=>by
  rw [We] at h
  have h1:=Wt hB h.2
  have h2:(B:Int)*(valB B l+1)<=B*(B^l.length:Nat):=Int.mul_le_mul_of_nonneg_left (by omega) (by omega)
  have h3:(B:Int)*(valB B l+1)=B*valB B l+B:=by rw [Int.mul_add,Int.mul_one]
  have h4:((B^(x::l).length:Nat):Int)=B*(B^l.length:Nat):=by
   rw [List.length_cons,Nat.pow_succ,Nat.mul_comm];exact_mod_cast rfl
  rw [h4];unfold valB;omega
theorem Qdr (B:Nat):∀(l l':J0),valB B (l++l')=valB B l+(B^l.length:Nat)*valB B l'
 |[],l'=>by simp [valB]
 |
  x::l,l'=>by
  rw [List.cons_append,valB,valB,Qdr B l l',List.length_cons,Nat.pow_succ,Nat.mul_comm (B^l.length) B,Int.natCast_mul,Int.mul_add,Int.mul_assoc,Int.add_assoc]
theorem Qgz {B:Nat} (hB:2<=B):∀{l:J0},inB B l->(∀h:l≠[],l.getLast h≠0)->l=toB B (valB B l).toNat
 |[],_,_=>by simp [valB,toB_zero]
 |
  x::l,h,hl=>by
  rw [We] at h
  have hn:=Q7 h.2
  have ih:=Qgz hB h.2 λhne=>by have:=hl (by simp);rwa [List.getLast_cons hne] at this
  have hpos:0<(valB B (x::l)).toNat:=by
   have hm:=Int.mul_nonneg (Int.natCast_nonneg B) hn
   unfold valB
   by_cases hx:x=0
   ·have hne:l≠[]:=λe=>by subst e;exact hl (by simp) (by simpa using hx)
    have:0<valB B l:=by
     rcases Int.lt_or_eq_of_le hn with h0|h0
     ·exact h0
     ·rw [<-h0] at ih;simp [toB_zero] at ih;exact absurd ih hne
    have:=Int.mul_pos (show (0:Int)<B by omega) this
    omega
   ·omega
  have e1:(valB B (x::l)).toNat=x.toNat+B*(valB B l).toNat:=by
   have hv:valB B (x::l)=x+B*valB B l:=rfl
   rw [hv]
   have hm:=Int.mul_nonneg (Int.natCast_nonneg B) hn
   have:((B*(valB B l).toNat:Nat):Int)=B*valB B l:=by rw [Int.natCast_mul,Int.toNat_of_nonneg hn]
   omega
  have hx:x.toNat<B:=by omega
  rw [Wp hB hpos,e1,Nat.add_mul_mod_self_left,Nat.mod_eq_of_lt hx,Nat.add_mul_div_left _ _ (by omega),Nat.div_eq_of_lt hx,Nat.zero_add,<-ih,Int.toNat_of_nonneg h.1.1]
theorem Qiw {B:Nat} (hB:2<=B) (n:Nat):∀h:toB B n≠[],(toB B n).getLast h≠0:=by
 induction n using Nat.strongRecOn with
 |
  _ n ih=>
  intro h
  rcases Nat.eq_zero_or_pos n with rfl|hn
  ·exact absurd (toB_zero B) h
  ·have e:=Wp hB hn
   simp only [e]
   by_cases hq:toB B (n/B)=[]
   ·simp only [hq,List.getLast_singleton]
    have h0:n/B=0:=by
     rcases Nat.eq_zero_or_pos (n/B) with h0|h0
     ·exact h0
     ·rw [Wp hB h0] at hq;simp at hq
    have:n<B:=by
     rcases Nat.lt_or_ge n B with h1|h1
     ·exact h1
     ·have:=Nat.div_pos h1 (by omega);omega
    rw [Nat.mod_eq_of_lt this];omega
   ·rw [List.getLast_cons hq]
    exact ih _ (Nat.div_lt_self hn hB) hq
theorem toB_nil {B n:Nat} (hB:2<=B):toB B n=[]↔n=0:=by
 constructor
 ·intro h
  rcases Nat.eq_zero_or_pos n with h0|h0
  ·exact h0
  ·rw [Wp hB h0] at h;simp at h
 ·rintro rfl;exact toB_zero B
theorem Qxn {B:Nat} (hB:2<=B) (i:Nat):∀n,(toB B n).getD i 0=((n/B^i%B:Nat):Int):=by
 induction i with
 |
  zero=>
  intro n
  rcases Nat.eq_zero_or_pos n with rfl|hn
  ·simp [toB_zero]
  ·rw [Wp hB hn];simp
 |
  succ i ih=>
  intro n
  rcases Nat.eq_zero_or_pos n with rfl|hn
  ·simp [toB_zero]
  ·rw [Wp hB hn,List.getD_cons_succ,ih,Nat.div_div_eq_div_mul,Nat.pow_succ,Nat.mul_comm B]
theorem Qah {B n:Nat} (hB:2<=B):n<B^(toB B n).length:=by
 have:=Wt hB (Qu hB n)
 rw [Q0 hB] at this
 exact_mod_cast this
theorem W3 {B:Nat} (hB:2<=B):∀{k n:Nat},n<B^k->(toB B n).length<=k
 |0,n,h=>by
         have:n=0:=by simpa using h
         subst this;simp [toB_zero]
 |
  k+1,n,h=>by
  rcases Nat.eq_zero_or_pos n with rfl|hn
  ·simp [toB_zero]
  ·rw [Wp hB hn,List.length_cons]
   have:n/B<B^k:=Nat.div_lt_of_lt_mul (by rw [Nat.pow_succ,Nat.mul_comm] at h;exact h)
   have:=W3 hB this
   omega
theorem Qqd {B n:Nat} (hB:2<=B) (hn:0<n):B^((toB B n).length-1)<=n:=by
 rcases Nat.lt_or_ge n (B^((toB B n).length-1)) with h|h
 ·have h1:=W3 hB h
  have h2:toB B n≠[]:=λe=>by rw [toB_nil hB] at e;omega
  have:=List.length_pos_iff.2 h2
  omega
 ·exact h
theorem bif_t {α:Type} {p:Prop} [Decidable p] {a b:α} (h:p):(bif decide p then a else b)=a:=by simp [h]
theorem Qa {α:Type} {p:Prop} [Decidable p] {a b:α} (h:¬p):(bif decide p then a else b)=b:=by simp [h]
abbrev Qac {α:Type} (l:List α):Prop:=l.length<=1000000000
abbrev dg (n:Nat):J0:=toB 10000 n
theorem b4:2<=10000:=by decide
theorem Yd {B:Nat} {l:J0} {n:Nat} (h:n<l.length):valB B (l.take (n+1))=valB B (l.take n)+(B^n:Nat)*l[n]:=by
 rw [List.take_succ_eq_append_getElem h,Qdr,List.length_take,Nat.min_eq_left (by omega)]
 simp [valB]
theorem Q5 {l:J0} {n:Nat} (h:n<l.length):l.getD n 0=l[n]:=by simp [List.getD,h]
theorem Qm0 {B:Nat} (hB:2<=B) {l:J0} (hl:inB B l) (hs:Qac l):z14.F l=some (toB B (valB B l).toNat):=by
 have key:∀n:Nat,n<=l.length->∃m:Nat,m<=n/\Runs (λrec x=>z14.l0b6P l rec some x) (n:Int) (m:Int)/\valB B (l.take m)=valB B (l.take n)/\(m=0\/l.getD (m-1) 0≠0):=by
  intro n
  induction n with
  |zero=>exact λ_=>⟨0,Nat.le_refl 0,.done λrec=>by simp [z14.l0b6P],rfl,.inl rfl⟩
  |
   succ n ih=>
   intro hn
   have hs':l.length<=1000000000:=hs
   have e:wr .i64 (((n+1:Nat):Int)-1)=(n:Int):=by rw [Qc]<;>omega
   have e0:((n+1:Nat):Int)>0:=by omega
   have e1:(0:Int)<=(n:Int)/\(n:Int)<(l.length:Int):=by omega
   by_cases hz:l.getD n 0=0
   ·obtain ⟨m,h1,h2,h3,h4⟩:=ih (by omega)
    refine ⟨m,by omega,.step (λrec=>?_) h2,?_,h4⟩
    ·unfold z14.l0b6P
     rw [bif_t e0,e,if_pos e1,Zi,bif_t hz]
    ·rw [h3,Yd (show n<l.length by omega),<-Q5,hz];simp
   ·refine ⟨n+1,Nat.le_refl _,.done λrec=>?_,rfl,.inr (by simpa using hz)⟩
    unfold z14.l0b6P
    rw [bif_t e0,e,if_pos e1,Zi,Qa hz]
 obtain ⟨m,h1,h2,h3,h4⟩:=key l.length (Nat.le_refl _)
 unfold z14.F z14.l0b6
 rw [h2.lfp]
 simp only [Zb]
 rw [if_pos (by omega),Zi]
 rw [List.take_length] at h3
 rw [<-h3]
 congr 1
 apply Qgz hB (λx hx=>hl x (List.mem_of_mem_take hx))
 intro hne
 rcases h4 with rfl|h4
 ·simp at hne
 ·rw [List.getLast_eq_getElem]
  have hm:0<m:=by
   rcases Nat.eq_zero_or_pos m with h0|h0
   ·subst h0;simp at hne
   ·exact h0
  rw [Q5 (by omega)] at h4
  simp only [List.length_take,List.getElem_take]
  have:min m l.length-1=m-1:=by omega
  simp only [this]
  exact h4
theorem Qbt {l:J0} (hl:inB 10000 l) (hs:Qac l):z14.F l=some (dg (valB 10000 l).toNat):=Qm0 b4 hl hs
theorem Qes {l:J0} {i:Nat}:z13.F l (i:Int)=some (l.getD i 0):=by
 unfold z13.F
 by_cases h:(i:Int)>=(l.length:Int)
 ·rw [bif_t h]
  have:l.getD i 0=0:=by simp [List.getD,List.getElem?_eq_none (show l.length<=i by omega)]
  rw [this]
 ·rw [Qa h,if_pos (by omega),Zi]
theorem Qe5 {n:Nat} (hn:n<9223372036854775808):z8.F (n:Int)=some (dg n):=by
 have key:∀(n:Nat),n<9223372036854775808->∀s:J0,Qac s->(s.length+(dg n).length<=1000000000)->Runs (λrec x=>z8.l0P rec some x) ((n:Int),s) ((0:Int),s++dg n):=by
  intro n
  induction n using Nat.strongRecOn with
  |
   _ n ih=>
   intro hn s hs hl
   rcases Nat.eq_zero_or_pos n with rfl|h0
   ·refine .done λrec=>?_
    simp [z8.l0P,toB_zero]
   ·have e:dg n=((n%10000:Nat):Int)::dg (n/10000):=Wp b4 h0
    have hd:n/10000<n:=Nat.div_lt_self h0 (by decide)
    rw [e] at hl ⊢
    have h2:=ih (n/10000) hd (by omega) (s++[((n%10000:Nat):Int)]) (by simp at *;omega) (by simp at *;omega)
    rw [List.append_assoc,List.singleton_append] at h2
    refine .step (λrec=>?_) h2
    unfold z8.l0P
    simp only
    have e1:Int.tmod (n:Int) 10000=((n%10000:Nat):Int):=by rw [Yv (by omega)];rfl
    have e2:wr .i64 (Int.tdiv (n:Int) 10000)=((n/10000:Nat):Int):=by rw [W1 (by omega),Qc (by omega) (by omega)];rfl
    rw [bif_t (by omega),if_pos (by simp at *;omega),e1,e2]
 unfold z8.F z8.l0
 have hl:(dg n).length<=5:=W3 b4 (by omega)
 rw [(key n hn [] (by simp) (by simp;omega)).lfp]
 simp
def ch (d:Int):UInt8:=UInt8.ofNat (48+d.toNat)
def txt (n:Nat):J1:=if n=0 then [48] else (toB 10 n).reverse.map ch
theorem b10:2<=10:=by decide
theorem Qdy {d:Int} (h0:0<=d) (h:d<10):(ch d).toNat=48+d.toNat:=by
 unfold ch;rw [UInt8.toNat_ofNat'];omega
def dig4 (d:Int):J0:=[d%10,d/10%10,d/100%10,d/1000%10]
theorem Qrm {d:Int} (h0:0<=d):inB 10 (dig4 d):=by
 intro x hx;simp [dig4] at hx;rcases hx with rfl|rfl|rfl|rfl<;>omega
theorem Qwm {d:Int} (h0:0<=d) (h:d<10000):valB 10 (dig4 d)=d:=by simp [dig4,valB];omega
theorem Qoj:∀{l:J0},inB 10000 l->inB 10 (l.flatMap dig4)
 |[],_=>inB_nil 10
 |x::l,h=>by rw [We] at h;rw [List.flatMap_cons,Qh1];exact ⟨Qrm h.1.1,Qoj h.2⟩
theorem Qlg:∀{l:J0},inB 10000 l->valB 10 (l.flatMap dig4)=valB 10000 l
 |[],_=>rfl
 |
  x::l,h=>by
  rw [We] at h
  rw [List.flatMap_cons,Qdr,Qwm h.1.1 h.1.2,Qlg h.2]
  simp [dig4,valB]
theorem Qgk:∀(l:J0),(l.flatMap dig4).length=4*l.length
 |[]=>rfl
 |x::l=>by rw [List.flatMap_cons,List.length_append,Qgk l];simp [dig4];omega
theorem Quf (s:J1) (hs:Qac s) (d:Int) (h0:0<=d) (hd:d<10000):∃d',z5.l2 (s,d,(0:Int))=some (((dig4 d).reverse.map ch)++s,d',4):=by
 have hs':s.length<=1000000000:=hs
 have one:∀(s:J1) (d:Int) (k:Nat),s.length<=1000000004->0<=d->d<10000->k<4->∀rec,z5.l2P rec some (s,d,(k:Int))=rec (ch (d%10)::s,d/10,((k+1:Nat):Int)):=by
  intro s d k hs h0 hd hk rec
  unfold z5.l2P
  simp only
  rw [bif_t (by omega),if_pos (by simp;omega),Yv h0,W1 h0,Qc (n:=48+d%10) (by omega) (by omega),Qi7 (by omega) (by omega),Qc (n:=d/10) (by omega) (by omega),Qc (by omega) (by omega)]
  have:(48+d%10).toNat=48+(d%10).toNat:=by omega
  simp [ch,this]
 refine ⟨d/10/10/10/10,?_⟩
 unfold z5.l2
 refine Runs.lfp (.step (one s d 0 (by omega) h0 hd (by decide)) (.step (one _ (d/10) 1 (by simp;omega) (by omega) (by omega) (by decide)) (.step (one _ (d/10/10) 2 (by simp;omega) (by omega) (by omega) (by decide)) (.step (one _ (d/10/10/10) 3 (by simp;omega) (by omega) (by omega) (by decide)) (.done λrec=>?_)))))
 unfold z5.l2P
 simp only
 rw [Qa (by omega)]
 have e1:d/10/10=d/100:=by omega
 have e2:d/10/10/10=d/1000:=by omega
 simp [dig4,e1,show d/100/10=d/1000 by omega]
theorem Qx3 {l:J0} (hl:inB 10000 l) (hs:4*l.length<=1000000000):z5.l0 l ([],(0:Int))=some ((l.flatMap dig4).reverse.map ch,(l.length:Int)):=by
 have key:∀(k:Nat),k<=l.length->Runs (λrec x=>z5.l0P l rec some x) (((l.take (l.length-k)).flatMap dig4).reverse.map ch,((l.length-k:Nat):Int)) ((l.flatMap dig4).reverse.map ch,(l.length:Int)):=by
  intro k
  induction k with
  |
   zero=>
   intro _
   refine .done λrec=>?_
   unfold z5.l0P
   simp
  |
   succ k ih=>
   intro hk
   have hi:l.length-(k+1)<l.length:=by omega
   have hm:=hl l[l.length-(k+1)] (List.getElem_mem hi)
   obtain ⟨d',h2⟩:=Quf (((l.take (l.length-(k+1))).flatMap dig4).reverse.map ch) (by
    show List.length _<=_;rw [List.length_map,List.length_reverse,Qgk,List.length_take];omega) _ hm.1 hm.2
   refine .step (λrec=>?_) (ih (by omega))
   unfold z5.l0P
   simp only
   rw [bif_t (by omega),if_pos (by omega),Zi,Q5 hi,h2]
   simp only [Zb]
   rw [Qc (by omega) (by omega)]
   have e:l.take (l.length-k)=l.take (l.length-(k+1))++[l[l.length-(k+1)]]:=by
    rw [<-List.take_succ_eq_append_getElem hi];congr 1;omega
   have e2:((l.length-(k+1):Nat):Int)+1=((l.length-k:Nat):Int):=by omega
   rw [e,e2,List.flatMap_append]
   simp only [List.flatMap_cons,List.flatMap_nil,List.append_nil,List.reverse_append,List.map_append]
 have:=key l.length (Nat.le_refl _)
 simp only [Nat.sub_self,List.take_zero,List.flatMap_nil,List.reverse_nil,List.map_nil] at this
 exact this.lfp
theorem Qmc {d:Int} (h0:0<=d) (h:d<10):((ch d).toNat:Int)=48↔d=0:=by rw [Qdy h0 h];omega
theorem Qkj {n:Nat} (hs:4*(dg n).length<=1000000000):z5.F (dg n)=some (txt n):=by
 unfold z5.F txt
 by_cases hn:n=0
 ·subst hn;simp [dg,toB_zero]
 ·have hne:dg n≠[]:=λe=>hn ((toB_nil b4).1 e)
  have hlen:=List.length_pos_iff.2 hne
  rw [Qa (by omega),if_neg hn,Qx3 (Qu b4 n) hs]
  simp only [Zb]
  generalize hfl:(dg n).flatMap dig4=fl
  have hin:inB 10 fl:=by rw [<-hfl];exact Qoj (Qu b4 n)
  have hv:valB 10 fl=n:=by rw [<-hfl,Qlg (Qu b4 n),Q0 b4]
  have hl:fl.length<=1000000000:=by rw [<-hfl,Qgk];exact hs
  have key:∀k:Nat,k<=fl.length->valB 10 (fl.take k)=n->∃m:Nat,m<=k/\Runs (λrec x=>z5.l4P (fl.reverse.map ch) rec some x) ((fl.length-k:Nat):Int) ((fl.length-m:Nat):Int)/\valB 10 (fl.take m)=n/\(m=0\/fl.getD (m-1) 0≠0):=by
   intro k
   induction k with
   |zero=>intro _ h;simp [valB] at h;omega
   |
    succ k ih=>
    intro hk h
    have hi:fl.length-(k+1)<(fl.reverse.map ch).length:=by simp;omega
    have hk':k<fl.length:=by omega
    have hm:=hin fl[k] (List.getElem_mem hk')
    have eg:(fl.reverse.map ch).getD (fl.length-(k+1)) 0=ch fl[k]:=by
     have e0:fl.length-1-(fl.length-(k+1))=k:=by omega
     simp only [List.getD,List.getElem?_eq_getElem hi,Option.getD_some,List.getElem_map,List.getElem_reverse,e0]
    by_cases hz:fl[k]=0
    ·obtain ⟨m,h1,h2,h3,h4⟩:=ih (by omega) (by rw [Yd hk',hz] at h;simpa using h)
     refine ⟨m,by omega,.step (λrec=>?_) h2,h3,h4⟩
     unfold z5.l4P
     rw [if_pos (by simp;omega),Zi,eg,bif_t ((Qmc hm.1 hm.2).2 hz),Qc (by omega) (by omega)]
     congr 1;omega
    ·refine ⟨k+1,Nat.le_refl _,.done λrec=>?_,h,.inr (by rw [Nat.add_sub_cancel,Q5 hk'];exact hz)⟩
     unfold z5.l4P
     rw [if_pos (by simp;omega),Zi,eg,Qa (λe=>hz ((Qmc hm.1 hm.2).1 e))]
  obtain ⟨m,h1,h2,h3,h4⟩:=key fl.length (Nat.le_refl _) (by rw [List.take_length];exact hv)
  rw [Nat.sub_self] at h2
  unfold z5.l4
  rw [show (0:Int)=((0:Nat):Int) from rfl,h2.lfp]
  simp only [Zb]
  rw [if_pos (by rw [List.length_map,List.length_reverse];omega),Zi]
  have hm:m≠0:=by rintro rfl;simp [valB] at h3;omega
  have e:fl.take m=toB 10 n:=by
   have:=Qgz b10 (l:=fl.take m) (λx hx=>hin x (List.mem_of_mem_take hx)) λhne=>by
    rcases h4 with h4|h4
    ·exact absurd h4 hm
    ·rw [List.getLast_eq_getElem]
     rw [Q5 (by omega)] at h4
     simp only [List.length_take,List.getElem_take]
     have:min m fl.length-1=m-1:=by omega
     simp only [this];exact h4
   rwa [h3,Zi] at this
  rw [<-e,<-List.map_drop,List.reverse_take]
theorem Yc {B:Nat}:∀{l:J0} {j:Nat} {x:Int},j<l.length->valB B (l.set j x)=valB B l+(x-l.getD j 0)*(B^j:Nat)
 |y::l,0,x,_=>by simp [valB];omega
 |
  y::l,j+1,x,h=>by
  have:=Yc (B:=B) (l:=l) (j:=j) (x:=x) (by simpa using h)
  rw [List.set_cons_succ,valB,valB,this,List.getD_cons_succ,Nat.pow_succ,Nat.mul_comm (B^j) B,Int.natCast_mul,Int.mul_add,Int.add_assoc]
  congr 2
  rw [Int.mul_left_comm]
theorem Ww {B:Nat} {l:J0} {j:Nat} {x:Int} (h:inB B l) (hx:0<=x/\x<B):inB B (l.set j x):=λy hy=>by
 rcases List.mem_or_eq_of_mem_set hy with h1|rfl
 ·exact h y h1
 ·exact hx
theorem Q4 {B:Nat}:∀(l:J0) (k:Nat),valB B (l.drop k)=l.getD k 0+B*valB B (l.drop (k+1))
 |[],k=>by simp [valB]
 |x::l,0=>by simp [valB]
 |x::l,k+1=>by rw [List.drop_succ_cons,List.drop_succ_cons,List.getD_cons_succ];exact Q4 l k
theorem Qw {B:Nat} (hB:0<B) {l:J0} (h:inB B l) (k:Nat):0<=l.getD k 0/\l.getD k 0<B:=by
 by_cases hk:k<l.length
 ·rw [Q5 hk];exact h _ (List.getElem_mem hk)
 ·simp [List.getD,List.getElem?_eq_none (show l.length<=k by omega)];omega
theorem Yo {B:Nat} {l:J0} (h:inB B l) (k:Nat):inB B (l.drop k):=λx hx=>h x (List.mem_of_mem_drop hx)
theorem Wb {B:Nat} {l:J0} (h:inB B l) (k:Nat):inB B (l.take k):=λx hx=>h x (List.mem_of_mem_take hx)
theorem Qxv {a b s:J0} {i k:Nat} {c:Int} (ha:inB 10000 a) (hb:inB 10000 b) (hs:inB 10000 s) (hi:i<a.length) (hk:i+k<s.length) (hsl:s.length<=4000000000) (hc:0<=c/\c<10000) (hgo:k<b.length\/0<c)
  (rec:Int×Int×J0->Option (Int×Int×J0)) :
  z15.l2aaP a b (i:Int) rec some (c,(k:Int),s) =
   rec ((s.getD (i+k) 0+a.getD i 0*b.getD k 0+c)/10000,((k+1:Nat):Int),s.set (i+k) ((s.getD (i+k) 0+a.getD i 0*b.getD k 0+c)%10000)):=by
 have h1:=Qw (by decide) ha i
 have h2:=Qw (by decide) hb k
 have h3:=Qw (by decide) hs (i+k)
 have h4:0<=a.getD i 0*b.getD k 0:=Int.mul_nonneg h1.1 h2.1
 have h5:a.getD i 0*b.getD k 0<=9999*9999:=Int.mul_le_mul (by omega) (by omega) h2.1 (by decide)
 have e1:wr .i64 ((i:Int)+k)=((i+k:Nat):Int):=by rw [Qc (by omega) (by omega)];omega
 have e2:wr .i64 (a.getD i 0*b.getD k 0)=a.getD i 0*b.getD k 0:=Qc (by omega) (by omega)
 have e3:wr .i64 (s.getD (i+k) 0+a.getD i 0*b.getD k 0)=s.getD (i+k) 0+a.getD i 0*b.getD k 0:=Qc (by omega) (by omega)
 have e4:wr .i64 (s.getD (i+k) 0+a.getD i 0*b.getD k 0+c)=s.getD (i+k) 0+a.getD i 0*b.getD k 0+c:=Qc (by omega) (by omega)
 have e5:wr .i64 ((k:Int)+1)=((k+1:Nat):Int):=by rw [Qc (by omega) (by omega)];omega
 unfold z15.l2aaP
 simp only [Qes,Zb,e1,Zi,e2,e3,e4,e5]
 rw [W1 (by omega),Yv (by omega),Qc (n:=(_:Int)/10000) (by omega) (by omega)]
 have c1:(0:Int)<=((i+k:Nat):Int)/\((i+k:Nat):Int)<(s.length:Int):=by omega
 have c2:(0:Int)<=(i:Int)/\(i:Int)<(a.length:Int):=by omega
 simp only [if_pos c1,if_pos hk,if_pos c2]
 by_cases hkb:(k:Int)<(b.length:Int)
 ·rw [bif_t hkb]
 ·rw [Qa hkb,bif_t (show c>0 by omega)]
theorem Qla {a b:J0} {i:Nat} {T:Int} (ha:inB 10000 a) (hb:inB 10000 b) (hi:i<a.length) (hT:T<(10000^(i+1+b.length):Nat)) :
  ∀
   (f k:Nat) (c:Int) (s:J0),inB 10000 s->i+1+b.length<s.length->s.length<=4000000000->0<=c/\c<10000->b.length+2<=k+f ->
   valB 10000 s+(c+a.getD i 0*valB 10000 (b.drop k))*(10000^(i+k):Nat)=T ->
   ∃k' s',Runs (λrec x=>z15.l2aaP a b (i:Int) rec some x) (c,(k:Int),s) ((0:Int),k',s')/\inB 10000 s'/\s'.length=s.length/\valB 10000 s'=T
 |
  f,k,c,s,hs,hl,hl',hc,hf,hv=>by
  have hbd:=Q7 (Yo hb k)
  have h1:=Qw (B:=10000) (by decide) ha i
  have hsv:=Q7 hs
  have hab:=Int.mul_nonneg h1.1 hbd
  by_cases hgo:k<b.length\/0<c
  ·have hk:k<=b.length:=by
    rcases hgo with h|h
    ·omega
    ·rcases Nat.lt_or_ge b.length k with hlt|hge
     ·exfalso
      have h2:(10000^(i+1+b.length):Nat)<=10000^(i+k):=Nat.pow_le_pow_right (by decide) (by omega)
      have h3:(1:Int)*(10000^(i+k):Nat)<=(c+a.getD i 0*valB 10000 (b.drop k))*(10000^(i+k):Nat):=Int.mul_le_mul_of_nonneg_right (by omega) (Int.natCast_nonneg _)
      have h4:((10000^(i+1+b.length):Nat):Int)<=(10000^(i+k):Nat):=by exact_mod_cast h2
      omega
     ·exact hge
   match f,hf with
   |0,hf=>omega
   |
    f+1,hf=>
    have h2:=Qw (B:=10000) (by decide) hb k
    have h3:=Qw (B:=10000) (by decide) hs (i+k)
    have h4:0<=a.getD i 0*b.getD k 0:=Int.mul_nonneg h1.1 h2.1
    have h5:a.getD i 0*b.getD k 0<=9999*9999:=Int.mul_le_mul (by omega) (by omega) h2.1 (by decide)
    obtain ⟨k',s',r1,r2,r3,r4⟩:=Qla ha hb hi hT f (k+1) ((s.getD (i+k) 0+a.getD i 0*b.getD k 0+c)/10000) (s.set (i+k) ((s.getD (i+k) 0+a.getD i 0*b.getD k 0+c)%10000))
     (Ww hs (by omega)) (by rw [List.length_set];exact hl) (by rw [List.length_set];exact hl') (by omega) (by omega) (by
      rw [Yc (by omega),<-hv,Q4 b k]
      generalize hx:s.getD (i+k) 0+a.getD i 0*b.getD k 0+c=x
      have e1:(10000^(i+(k+1)):Nat)=10000*10000^(i+k):=by rw [<-Nat.add_assoc,Nat.pow_succ,Nat.mul_comm]
      rw [e1,Int.natCast_mul]
      have e2:x=10000*(x/10000)+x%10000:=(Int.mul_ediv_add_emod x 10000).symm
      generalize x/10000=q at *
      generalize x%10000=m at *
      subst e2
      generalize ((10000^(i+k):Nat):Int)=p
      generalize valB 10000 (b.drop (k+1))=w
      generalize a.getD i 0=u at *
      generalize b.getD k 0=v at *
      generalize s.getD (i+k) 0=z at *
      have hc':c=10000*q+m-z-u*v:=by omega
      subst hc'
      grind)
    refine ⟨k',s',.step (λrec=>Qxv ha hb hs hi (by omega) hl' hc hgo rec) r1,r2,by rw [r3,List.length_set],r4⟩
  ·have hc0:c=0:=by omega
   have hkb:b.length<=k:=by omega
   subst hc0
   refine ⟨k,s,.done λrec=>?_,hs,rfl,?_⟩
   ·unfold z15.l2aaP
    simp only
    rw [Qa (by omega),Qa (by omega)]
   ·rw [List.drop_eq_nil_of_le hkb] at hv
    simpa [valB] using hv
theorem Qly {a b:J0} (ha:inB 10000 a) (hb:inB 10000 b) (hal:a.length+b.length<=3000000000) :
  ∀
   (f i:Nat) (s:J0),i+f=a.length->inB 10000 s->s.length=a.length+b.length+1->valB 10000 s=valB 10000 (a.take i)*valB 10000 b ->
   ∃s',Runs (λrec x=>z15.l0P a b rec some x) ((i:Int),s) ((a.length:Int),s')/\inB 10000 s'/\s'.length=s.length/\valB 10000 s'=valB 10000 a*valB 10000 b
 |
  0,i,s,hf,hs,hl,hv=>by
  have:i=a.length:=by omega
  subst this
  refine ⟨s,.done λrec=>?_,hs,rfl,by rwa [List.take_length] at hv⟩
  unfold z15.l0P
  simp
 |
  f+1,i,s,hf,hs,hl,hv=>by
  have hi:i<a.length:=by omega
  have hT:valB 10000 (a.take (i+1))*valB 10000 b<(10000^(i+1+b.length):Nat):=by
   have h1:=Wt b4 (Wb ha (i+1))
   have h2:=Wt b4 hb
   have h3:=Q7 (Wb ha (i+1))
   have h4:=Q7 hb
   rw [List.length_take,Nat.min_eq_left (by omega)] at h1
   rw [Nat.pow_add,Int.natCast_mul]
   rcases Int.lt_or_eq_of_le h4 with h0|h0
   ·exact Int.mul_lt_mul h1 (Int.le_of_lt h2) h0 (by omega)
   ·rw [<-h0,Int.mul_zero];exact Int.mul_pos (by omega) (by omega)
  obtain ⟨k',s',r1,r2,r3,r4⟩:=Qla ha hb hi hT (b.length+2) 0 0 s hs (by omega) (by omega) (by omega) (by omega) (by
   rw [hv,Yd hi,List.drop_zero,Int.zero_add,Nat.add_zero,Q5 hi];grind)
  obtain ⟨s2,q1,q2,q3,q4⟩:=Qly ha hb hal f (i+1) s' (by omega) r2 (by omega) r4
  refine ⟨s2,.step (λrec=>?_) q1,q2,by omega,q4⟩
  have e:z15.l2aa a b (i:Int) ((0:Int),(0:Int),s)=some ((0:Int),k',s'):=r1.lfp
  unfold z15.l0P
  simp only
  rw [bif_t (by omega),e]
  simp only [Zb]
  rw [Qc (by omega) (by omega)]
  rfl
theorem Qb1 (B:Nat):∀n:Nat,valB B (List.replicate n (0:Int))=0
 |0=>rfl
 |n+1=>by rw [List.replicate_succ,valB,Qb1 B n];simp
theorem Jx {B:Nat} (hB:0<B) (n:Nat):inB B (List.replicate n (0:Int)):=λx hx=>by
 rw [List.mem_replicate] at hx;rw [hx.2];omega
theorem Qte {a b:J0} (ha:inB 10000 a) (hb:inB 10000 b) (hal:a.length+b.length<=900000000):z15.F a b=some (dg (valB 10000 a*valB 10000 b).toNat):=by
 unfold z15.F z15.l0
 have e:wr .i64 (wr .i64 ((a.length:Int)+(b.length:Int))+1)=((a.length+b.length+1:Nat):Int):=by
  rw [Qc (n:=(a.length:Int)+b.length) (by omega) (by omega),Qc (by omega) (by omega)];omega
 rw [e,if_pos (by omega),Zi]
 obtain ⟨s',r1,r2,r3,r4⟩:=Qly ha hb (by omega) a.length 0 (List.replicate (a.length+b.length+1) 0) (by omega) (Jx (by decide) _) (by simp) (by rw [Qb1];simp [valB])
 rw [show ((0:Int),List.replicate (a.length+b.length+1) (0:Int))=(((0:Nat):Int),List.replicate (a.length+b.length+1) (0:Int)) from rfl,r1.lfp]
 simp only [Zb]
 rw [Qbt r2 (by show List.length _<=_;rw [r3];simp;omega),r4]
 rfl
theorem Qbc {m n:Nat} (hl:(dg m).length+(dg n).length<=900000000):z15.F (dg m) (dg n)=some (dg (m*n)):=by
 rw [Qte (Qu b4 m) (Qu b4 n) hl,Q0 b4,Q0 b4]
 congr 2
theorem Qct (B:Nat) (l:J0) (x:Int):valB B (l++[x])=valB B l+(B^l.length:Nat)*x:=by
 rw [Qdr];simp [valB]
theorem Qdg {B:Nat} {l:J0} {x:Int} (h:inB B l) (hx:0<=x/\x<B):inB B (l++[x]):=Qh1.2 ⟨h,We.2 ⟨hx,inB_nil B⟩⟩
theorem Qxr {a b s:J0} {i:Nat} {c:Int} (ha:inB 10000 a) (hb:inB 10000 b) (hsl:s.length<=4000000000) (hil:i<=4000000000) (hc:0<=c/\c<10000) (hgo:i<a.length\/i<b.length\/0<c)
  (rec:Int×Int×J0->Option (Int×Int×J0)) :
  z105.l0b6P a b rec some (c,(i:Int),s)=rec ((a.getD i 0+b.getD i 0+c)/10000,((i+1:Nat):Int),s++[(a.getD i 0+b.getD i 0+c)%10000]):=by
 have h1:=Qw (B:=10000) (by decide) ha i
 have h2:=Qw (B:=10000) (by decide) hb i
 have e1:wr .i64 (a.getD i 0+b.getD i 0)=a.getD i 0+b.getD i 0:=Qc (by omega) (by omega)
 have e2:wr .i64 (a.getD i 0+b.getD i 0+c)=a.getD i 0+b.getD i 0+c:=Qc (by omega) (by omega)
 have e3:wr .i64 ((i:Int)+1)=((i+1:Nat):Int):=by rw [Qc (by omega) (by omega)];omega
 unfold z105.l0b6P
 simp only [Qes,Zb,e1,e2,e3]
 rw [W1 (by omega),Yv (by omega),Qc (n:=(_:Int)/10000) (by omega) (by omega)]
 have c1:∀x:Int,(s.length+[x].length)*8<=140737488355328:=λx=>by simp;omega
 simp only [if_pos (c1 _)]
 by_cases h3:(i:Int)<(a.length:Int)
 ·rw [bif_t h3]
 ·rw [Qa h3]
  by_cases h4:(i:Int)<(b.length:Int)
  ·rw [bif_t h4]
  ·rw [Qa h4,bif_t (show c>0 by omega)]
theorem Qpq {a b:J0} (ha:inB 10000 a) (hb:inB 10000 b) (hal:a.length+b.length<=900000000) :
  ∀
   (f i:Nat) (c:Int) (s:J0),a.length+b.length+1<=i+f->i<=a.length+b.length+1->s.length=i->inB 10000 s->0<=c/\c<=1->(i=a.length+b.length+1->c=0) ->
   valB 10000 s+(c+valB 10000 (a.drop i)+valB 10000 (b.drop i))*(10000^i:Nat)=valB 10000 a+valB 10000 b ->
   ∃i' s',Runs (λrec x=>z105.l0b6P a b rec some x) (c,(i:Int),s) ((0:Int),i',s')/\inB 10000 s'/\s'.length<=a.length+b.length+1/\valB 10000 s'=valB 10000 a+valB 10000 b
 |
  f,i,c,s,hf,hi,hl,hs,hc,he,hv=>by
  by_cases hgo:i<a.length\/i<b.length\/0<c
  ·match f,hf with
   |
    0,hf=>
    have:i=a.length+b.length+1:=by omega
    have:=he this
    omega
   |
    f+1,hf=>
    have hi':i<a.length+b.length+1:=by
     rcases Nat.lt_or_ge i (a.length+b.length+1) with h|h
     ·exact h
     ·have:=he (by omega);omega
    have h1:=Qw (B:=10000) (by decide) ha i
    have h2:=Qw (B:=10000) (by decide) hb i
    obtain ⟨i',s',r1,r2,r3,r4⟩:=Qpq ha hb hal f (i+1) ((a.getD i 0+b.getD i 0+c)/10000) (s++[(a.getD i 0+b.getD i 0+c)%10000]) (by omega) (by omega) (by simp [hl]) (Qdg hs (by omega)) (by omega)
     (λe=>by
      have h3:a.getD i 0=0\/b.getD i 0=0:=by
       by_cases ha':i<a.length
       ·right;simp [List.getD,List.getElem?_eq_none (show b.length<=i by omega)]
       ·left;simp [List.getD,List.getElem?_eq_none (show a.length<=i by omega)]
      have h5:a.getD i 0=0:=by
       by_cases ha':i<a.length
       ·have:b.length=0:=by omega
        exfalso
        have h6:i=a.length+b.length:=by omega
        omega
       ·simp [List.getD,List.getElem?_eq_none (show a.length<=i by omega)]
      have h6:b.getD i 0=0:=by simp [List.getD,List.getElem?_eq_none (show b.length<=i by omega)]
      omega)
     (by
      rw [Qct,<-hv,Q4 a i,Q4 b i,hl,Nat.pow_succ,Nat.mul_comm (10000^i) 10000,Int.natCast_mul]
      generalize hx:a.getD i 0+b.getD i 0+c=x
      have e2:x=10000*(x/10000)+x%10000:=(Int.mul_ediv_add_emod x 10000).symm
      generalize x/10000=q at *
      generalize x%10000=m at *
      subst e2
      generalize ((10000^i:Nat):Int)=p
      generalize valB 10000 (a.drop (i+1))=w
      generalize valB 10000 (b.drop (i+1))=w'
      generalize a.getD i 0=u at *
      generalize b.getD i 0=v at *
      have hc':c=10000*q+m-u-v:=by omega
      subst hc'
      grind)
    exact ⟨i',s',.step (λrec=>Qxr ha hb (by omega) (by omega) (by omega) hgo rec) r1,r2,r3,r4⟩
  ·have hc0:c=0:=by omega
   subst hc0
   refine ⟨i,s,.done λrec=>?_,hs,by omega,?_⟩
   ·unfold z105.l0b6P
    simp only
    rw [Qa (by omega),Qa (by omega),Qa (by omega)]
   ·rw [List.drop_eq_nil_of_le (by omega),List.drop_eq_nil_of_le (by omega)] at hv
    simpa [valB] using hv
theorem Qs1 {a b:J0} (ha:inB 10000 a) (hb:inB 10000 b) (hal:a.length+b.length<=900000000):z105.F a b=some (dg (valB 10000 a+valB 10000 b).toNat):=by
 obtain ⟨i',s',r1,r2,r3,r4⟩:=Qpq ha hb hal (a.length+b.length+1) 0 0 [] (by omega) (by omega) rfl (inB_nil _) (by omega) (by omega) (by simp [valB])
 have e:z105.l0b6 a b ((0:Int),(0:Int),[])=some ((0:Int),i',s'):=r1.lfp
 unfold z105.F
 rw [e]
 simp only [Zb]
 rw [Qbt r2 (by show List.length _<=_;omega),r4]
 rfl
theorem Qni {m n:Nat} (hl:(dg m).length+(dg n).length<=900000000):z105.F (dg m) (dg n)=some (dg (m+n)):=by
 rw [Qs1 (Qu b4 m) (Qu b4 n) hl,Q0 b4,Q0 b4]
 congr 2
def cmpI (m n:Int):Int:=if m<n then -1 else if m=n then 0 else 1
theorem Qq9 {B:Nat} (hB:2<=B) {l:J0} (h:inB B l) {k:Nat} (hk:k<=l.length):valB B (l.take k)<(B^k:Nat):=by
 have:=Wt hB (Wb h k)
 rwa [List.length_take,Nat.min_eq_left hk] at this
theorem Qew {B:Nat} (hB:2<=B) {a b:J0} (ha:inB B a) (hb:inB B b) {k:Nat} (hka:k<a.length) (hkb:k<b.length) :
  (a[k]<b[k]->valB B (a.take (k+1))<valB B (b.take (k+1)))/\(a[k]=b[k]->(valB B (a.take (k+1))-valB B (b.take (k+1))=valB B (a.take k)-valB B (b.take k))):=by
 rw [Yd hka,Yd hkb]
 have h1:=Qq9 hB ha (k:=k) (by omega)
 have h2:=Q7 (Wb hb k)
 refine ⟨λh=>?_,λh=>by rw [h];omega⟩
 have h3:((B^k:Nat):Int)*(a[k]+1)<=(B^k:Nat)*b[k]:=Int.mul_le_mul_of_nonneg_left (by omega) (by omega)
 rw [Int.mul_add,Int.mul_one] at h3
 omega
theorem Qjt {a b:J0} (ha:inB 10000 a) (hb:inB 10000 b) (hl:a.length=b.length) (hal:a.length<=900000000):∀k:Nat,k<=a.length ->
  ∃o:Int⊕Int,Runs (λrec x=>z106.l0P a b rec some x) ((k:Int)-1) o/\(match o with | .inl _=>(0:Int) | .inr q=>q)=cmpI (valB 10000 (a.take k)) (valB 10000 (b.take k))
 |0,_=>⟨.inl (-1),.done λrec=>by unfold z106.l0P;rw [Qa (by omega)];rfl,by simp [cmpI,valB]⟩
 |
  k+1,hk=>by
  have hka:k<a.length:=by omega
  have hkb:k<b.length:=by omega
  have e0:((k+1:Nat):Int)-1=(k:Int):=by omega
  obtain ⟨p1,p2⟩:=Qew b4 ha hb hka hkb
  obtain ⟨p3,_⟩:=Qew b4 hb ha hkb hka
  have c1:(0:Int)<=(k:Int)/\(k:Int)<(a.length:Int):=by omega
  have c2:(0:Int)<=(k:Int)/\(k:Int)<(b.length:Int):=by omega
  rw [e0]
  rcases Int.lt_trichotomy a[k] b[k] with h|h|h
  ·refine ⟨.inr (-1),.done λrec=>?_,?_⟩
   ·unfold z106.l0P
    rw [bif_t (by omega),if_pos c1,if_pos c2,Zi,Q5 hka,Q5 hkb,bif_t h]
   ·have:=p1 h
    unfold cmpI;rw [if_pos this]
  ·obtain ⟨o,r1,r2⟩:=Qjt ha hb hl hal k (by omega)
   refine ⟨o,.step (λrec=>?_) r1,?_⟩
   ·unfold z106.l0P
    rw [bif_t (by omega),Zi,Q5 hka,Q5 hkb]
    simp only [if_pos c1,if_pos c2]
    rw [Qa (by omega),Qa (by omega),Qc (by omega) (by omega)]
   ·rw [r2]
    have:=p2 h
    unfold cmpI
    split<;>split<;>(try split)<;>(try split)<;>first|rfl|omega
  ·refine ⟨.inr 1,.done λrec=>?_,?_⟩
   ·unfold z106.l0P
    rw [bif_t (by omega),Zi,Q5 hka,Q5 hkb]
    simp only [if_pos c1,if_pos c2]
    rw [Qa (by omega),bif_t h]
   ·have:=p3 h
    unfold cmpI;rw [if_neg (by omega),if_neg (by omega)]
theorem Qao {B m n:Nat} (hB:2<=B) (h:(toB B m).length<(toB B n).length):m<n:=by
 have h1:=Qah (n:=m) hB
 have hn:0<n:=by
  rcases Nat.eq_zero_or_pos n with rfl|h0
  ·rw [toB_zero] at h;simp at h
  ·exact h0
 have h2:=Qqd hB hn
 have h3:B^(toB B m).length<=B^((toB B n).length-1):=Nat.pow_le_pow_right (by omega) (by omega)
 omega
theorem Qg9 {m n:Nat} (hl:(dg m).length<=900000000):z106.F (dg m) (dg n)=some (cmpI m n):=by
 unfold z106.F
 by_cases he:(dg m).length=(dg n).length
 ·have e1:((dg m).length:Int)=((dg n).length:Int):=by omega
  rw [Zt e1]
  simp only [Zn,Zc]
  obtain ⟨o,r1,r2⟩:=Qjt (Qu b4 m) (Qu b4 n) he hl (dg m).length (Nat.le_refl _)
  rw [Qc (by omega) (by omega)]
  unfold z106.l0
  rw [r1.lfp]
  simp only [Zb]
  rw [List.take_length,he,List.take_length,Q0 b4,Q0 b4] at r2
  rw [<-r2]
  cases o<;>rfl
 ·have e1:¬((dg m).length:Int)=((dg n).length:Int):=by omega
  rw [Zf e1]
  simp only [Zo,Zd]
  rcases Nat.lt_or_gt_of_ne he with h|h
  ·have:=Qao b4 h
   rw [bif_t (by omega)];unfold cmpI;rw [if_pos (by omega)]
  ·have:=Qao b4 h
   rw [Qa (by omega)];unfold cmpI;rw [if_neg (by omega),if_neg (by omega)]
theorem Qg7 {a b:J0} (ha:inB 10000 a) (hb:inB 10000 b) (hal:a.length<=900000000) :
  ∀
   (f i:Nat) (c:Int) (s:J0),i+f=a.length->s.length=i->inB 10000 s->0<=c/\c<=1 ->
   valB 10000 s-c*(10000^i:Nat)=valB 10000 (a.take i)-valB 10000 (b.take i) ->
   ∃c' s',Runs (λrec x=>z107.l0P a b rec some x) (c,(i:Int),s) (c',(a.length:Int),s')/\inB 10000 s'/\s'.length=a.length/\(0<=c'/\c'<=1)/\valB 10000 s'-c'*(10000^a.length:Nat)=valB 10000 a-valB 10000 (b.take a.length)
 |
  0,i,c,s,hf,hl,hs,hc,hv=>by
  have:i=a.length:=by omega
  subst this
  refine ⟨c,s,.done λrec=>?_,hs,hl,hc,by rwa [List.take_length] at hv⟩
  unfold z107.l0P
  simp only
  rw [Qa (by omega)]
 |
  f+1,i,c,s,hf,hl,hs,hc,hv=>by
  have hi:i<a.length:=by omega
  have h1:=Qw (B:=10000) (by decide) ha i
  have h2:=Qw (B:=10000) (by decide) hb i
  have eb:valB 10000 (b.take (i+1))=valB 10000 (b.take i)+(10000^i:Nat)*b.getD i 0:=by
   by_cases hb':i<b.length
   ·rw [Yd hb',Q5 hb']
   ·rw [List.take_of_length_le (by omega),List.take_of_length_le (by omega)]
    simp [List.getD,List.getElem?_eq_none (show b.length<=i by omega)]
  have e1:wr .i64 (a.getD i 0-b.getD i 0)=a.getD i 0-b.getD i 0:=Qc (by omega) (by omega)
  have e2:wr .i64 (a.getD i 0-b.getD i 0-c)=a.getD i 0-b.getD i 0-c:=Qc (by omega) (by omega)
  have e3:wr .i64 ((i:Int)+1)=((i+1:Nat):Int):=by rw [Qc (by omega) (by omega)];omega
  have e4:wr .i64 (a.getD i 0-b.getD i 0-c+10000)=a.getD i 0-b.getD i 0-c+10000:=Qc (by omega) (by omega)
  have c1:∀x:Int,(s.length+[x].length)*8<=140737488355328:=λx=>by simp;omega
  have c2:(0:Int)<=(i:Int)/\(i:Int)<(a.length:Int):=by omega
  by_cases hd:a.getD i 0-b.getD i 0-c<0
  ·obtain ⟨c',s',r1,r2,r3,r4,r5⟩:=Qg7 ha hb hal f (i+1) 1 (s++[a.getD i 0-b.getD i 0-c+10000]) (by omega) (by simp [hl]) (Qdg hs (by omega)) (by omega) (by
    rw [Qct,Yd hi,eb,hl,Nat.pow_succ,Nat.mul_comm (10000^i) 10000,Int.natCast_mul,<-Q5 hi]
    generalize ((10000^i:Nat):Int)=p at *
    grind)
   refine ⟨c',s',.step (λrec=>?_) r1,r2,r3,r4,r5⟩
   unfold z107.l0P
   simp only [Qes,Zb,Zi,e1,e2,e3,e4]
   rw [bif_t (by omega),if_pos c2,bif_t hd,if_pos (c1 _)]
  ·obtain ⟨c',s',r1,r2,r3,r4,r5⟩:=Qg7 ha hb hal f (i+1) 0 (s++[a.getD i 0-b.getD i 0-c]) (by omega) (by simp [hl]) (Qdg hs (by omega)) (by omega) (by
    rw [Qct,Yd hi,eb,hl,Nat.pow_succ,Nat.mul_comm (10000^i) 10000,Int.natCast_mul,<-Q5 hi]
    generalize ((10000^i:Nat):Int)=p at *
    grind)
   refine ⟨c',s',.step (λrec=>?_) r1,r2,r3,r4,r5⟩
   unfold z107.l0P
   simp only [Qes,Zb,Zi,e1,e2,e3,e4]
   rw [bif_t (by omega),if_pos c2,Qa hd,if_pos (c1 _)]
theorem Qh6 {m n:Nat} (hmn:n<=m) (hl:(dg m).length<=900000000):z107.F (dg m) (dg n)=some (dg (m-n)):=by
 obtain ⟨c',s',r1,r2,r3,r4,r5⟩:=Qg7 (a:=dg m) (b:=dg n) (Qu b4 m) (Qu b4 n) hl (dg m).length 0 0 [] (by omega) rfl (inB_nil _) (by omega) (by simp [valB])
 have hlen:(dg n).length<=(dg m).length:=by
  rcases Nat.lt_or_ge (dg m).length (dg n).length with h|h
  ·have:=Qao b4 h;omega
  ·exact h
 rw [List.take_of_length_le hlen,Q0 b4,Q0 b4] at r5
 have h1:=Wt b4 r2
 rw [r3] at h1
 have hc:c'=0:=by
  rcases (show c'=0\/c'=1 by omega) with h|h
  ·exact h
  ·subst h;omega
 subst hc
 have e:z107.l0 (dg m) (dg n) ((0:Int),(0:Int),[])=some ((0:Int),((dg m).length:Int),s'):=r1.lfp
 unfold z107.F
 rw [e]
 simp only [Zb]
 rw [Qbt r2 (by show List.length _<=_;omega)]
 simp only [Zb]
 congr 2;omega
end Go.Proofs.YtgjncgiekniniaaGreatDoor.A
end
