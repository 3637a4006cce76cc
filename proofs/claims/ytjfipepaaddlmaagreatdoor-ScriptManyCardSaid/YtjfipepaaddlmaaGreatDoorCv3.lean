/- Part 3 of the proof of ScriptMany.card. -/
import Derived.Test.YtjfipepaaddlmaaGreatDoorCv2
import Derived.Test.YtjfipepaaddlmaaGreatDoorRows
import Derived.WalkKit
import Derived.ProofKit
import Derived.OpenShut
import Derived.Carry
import Derived.ChangeSame
import Derived.Deep.Slices
import Derived.Test.YtjfipepaaddlmaaGreatDoorCards
import Derived.Test.YtjfipepaaddlmaaGreatDoorTie
import Derived.KernelRfl
import Derived.JoinedCond
set_option linter.unusedVariables false
set_option linter.unusedSimpArgs false
section
set_option maxRecDepth 100000
namespace Go.Proofs.YtjfipepaaddlmaaGreatDoor.A
open Go
noncomputable section
def z9.C:Ctx where
 T:=tab
theorem z9.link (a0:Int):z9.C.evTop 195 (ifun Tryz.f195) [(.int .i64 a0)] z8.dec=z9.F a0:=by kernel_rfl
def z11.C:Ctx where
 T:=tab
theorem z11.link (a0:Int):z11.C.evTop 196 (ifun Tryz.f196) [(.int .u64 a0)] z8.dec=z11.F a0:=by kernel_rfl
def z12.C:Ctx where
 T:=tab
 call:=Qh [(196,z11.pack)]
theorem z12.link (a0 a1:Int):z12.C.evTop 154 (ifun Tryz.f154) [(.int .u64 a0),(.int .u64 a1)] z13.dec=z12.F a0 a1:=by kernel_rfl
def z16.C:Ctx where
 T:=tab
 prim:=λg=>match g with|157=>some (cloneP (.ints true .u64 []) 183 8)|_=>none
def z16.dec:V->Option (J0)
 |(.ints _ .u64 x0)=>some x0
 |_=>none
theorem z16.link (a0:J0):z16.C.evTop 109 (ifun Tryz.f109) [(.agg [(.ints false .u64 a0)])] z16.dec=z16.F a0:=by kernel_rfl
def z18.C:Ctx where
 T:=tab
 call:=Qh [(232,z17.pack)]
theorem z18.link (a0:Int):z18.C.evTop 198 (ifun Tryz.f198) [(.int .u64 a0)] z13.dec=z18.F a0:=by kernel_rfl
def z22.C:Ctx where
 T:=tab
theorem z22.link (a0:Int):z22.C.evTop 233 (ifun Tryz.f233) [(.int .i64 a0)] z8.dec=z22.F a0:=by kernel_rfl
def z31.C:Ctx where
 T:=tab
theorem z31.link (a0 a1:J1):z31.C.evTop 91 (ifun Tryz.f91) [(.str a0),(.str a1)] z8.dec=z31.F a0 a1:=by kernel_rfl
def z32.C:Ctx where
 T:=tab
 call:=Qh [(91,z31.pack)]
theorem z32.link (a0 a1:J1):z32.C.evTop 204 (ifun Tryz.f204) [(.str a0),(.str a1)] z33.dec=z32.F a0 a1:=by kernel_rfl
def z37.l2sh:Env×Store:=((.str ([]:J1)) :: .undef::(.ptr 0 0)::(.int .i64 0)::(.ptr 1 0) :: .undef::(.int .i64 0)::(.int .u64 0)::un 39 ((.ptr 2 0)::un 21 []),[(.cells 37 [(.ints false .u64 [])]),(.cells 37 [(.ints false .u64 [])]),(.siter ([]:J1) 0)])
def z37.l2out0 (a:J1) (b c d:Int) (e g:J0) (h:J1) (j:Nat) (o:Int×Nat):X×Env×Store:=((.exit 2),Qa z37.l2sh [.s a,.i b,.i c,.i o.1,.li e,.li g,.s h,.n o.2])
def z37.l2pack:List Leaf->Option LPack
 |[.s a,.i b,.i c,.i d,.li e,.li g,.s h,.n j]=>some (.one _ (z37.l2 h (d,j)) (z37.l2out0 a b c d e g h j))
 |_=>none
def z37.l2ash:Env×Store:=((.str ([]:J1)) :: .undef::(.ptr 0 0)::(.int .i64 0)::(.ptr 1 0) :: .undef::(.int .i64 0)::(.int .u64 0)::un 33 ((.int .i64 0)::(.bool false)::un 4 ((.ptr 2 0)::un 21 [])),[(.cells 37 [(.ints false .u64 [])]),(.cells 37 [(.ints false .u64 [])]),(.siter ([]:J1) 0)])
def z37.l2aout0 (a:J1) (c d e g:Int) (h:Bool) (j k:J0) (m:J1) (p:Nat) (o:Int×Nat):X×Env×Store:=((.exit 2),Qa z37.l2ash [.s a,.i c,.i d,.i o.1,.i g,.b h,.li j,.li k,.s m,.n o.2])
def z37.l2apack:List Leaf->Option LPack
 |[.s a,.i c,.i d,.i e,.i g,.b h,.li j,.li k,.s m,.n o]=>some (.one _ (z37.l2a m (e,o)) (z37.l2aout0 a c d e g h j k m o))
 |_=>none
def z37.l0sh:Env×Store:=((.str ([]:J1)) :: .undef::(.ptr 0 0)::(.int .i64 0)::(.ptr 1 0)::(.bool false)::un 63 [],[(.cells 37 [(.ints false .u64 [])]),(.cells 37 [(.ints false .u64 [])])])
def z37.l0out0 (a:J1) (c:Int) (d:Bool) (e g:J0) (o:J1×Bool×J0):X×Env×Store:=((.exit 0),Qa z37.l0sh [.s o.1,.i c,.b o.2.1,.li e,.li o.2.2])
def z37.l0pack:List Leaf->Option LPack
 |[.s a,.i c,.b d,.li e,.li g]=>some (.one _ (z37.l0 (a,d,g)) (z37.l0out0 a c d e g))
 |_=>none
def z37.C:Ctx where
 T:=tab
 draws:=λf i=>match f,i with|162,17=>([(58,[(4,0)],0),(59,[],0),(60,[(58,2)],2),(61,[(57,1),(59,3)],7),(62,[(7,0)],0),(63,[(61,5)],16),(64,[(62,6)],63),(65,[(60,4),(63,7)],127),(0,[(4,0),(64,8)],255)],36749372959343247360)|_,_=>([],0)
 call:=Qh [(205,z3.pack),(108,z15.pack),(206,z36.pack),(53,z35.pack)]
 keep:=λf i=>match f,i with|162,2=>([0,2,3,4,6,7,41,42,47],[0,1,2],[])|162,0=>([0,2,3,4,5],[0,1],[])|_,_=>([],[],[])
 keepR:=λf i=>match f,i with|162,2=>([2,3],[0,1,2],[2,3])|162,0=>([2,3],[0,1],[2,3])|_,_=>([],[],[])
 L:=λf i b st=>match f,i,b with|162,2,0=>(orP ((matchSt z37.l2sh st).bind z37.l2pack) ((matchSt z37.l2ash st).bind z37.l2apack))|162,0,0=>(matchSt z37.l0sh st).bind z37.l0pack|_,_,_=>none
theorem z37.l2_link (R:Type) (k:Env×Store->Option R) (d:X×Env×Store->Option R) (a:J1) (b c e:Int) (g h:J0) (j:J1) (m:Nat) :
  z37.C.loopP 162 2 (Qf 2 (ifun Tryz.f162).body) 3 k d (Qa z37.l2sh [.s a,.i b,.i c,.i e,.li g,.li h,.s j,.n m]) =
  z37.l2P j (λx'=>k (Qa z37.l2sh [.s a,.i b,.i c,.i x'.1,.li g,.li h,.s j,.n x'.2])) (λo=>d (z37.l2out0 a b c e g h j m o)) (e,m):=by kernel_rfl
theorem z37.l2a_link (R:Type) (k:Env×Store->Option R) (d:X×Env×Store->Option R) (a:J1) (c e g h:Int) (j:Bool) (m p:J0) (q:J1) (r:Nat) :
  z37.C.loopP 162 2 (Qf 2 (ifun Tryz.f162).body) 3 k d (Qa z37.l2ash [.s a,.i c,.i e,.i g,.i h,.b j,.li m,.li p,.s q,.n r]) =
  z37.l2aP q (λx'=>k (Qa z37.l2ash [.s a,.i c,.i e,.i x'.1,.i h,.b j,.li m,.li p,.s q,.n x'.2])) (λo=>d (z37.l2aout0 a c e g h j m p q r o)) (g,r):=by kernel_rfl
theorem z37.l0_link (R:Type) (k:Env×Store->Option R) (d:X×Env×Store->Option R) (a:J1) (c:Int) (e:Bool) (g h:J0) :
  z37.C.loopP 162 0 (Qf 0 (ifun Tryz.f162).body) 2 k d (Qa z37.l0sh [.s a,.i c,.b e,.li g,.li h]) =
  z37.l0P (λx'=>k (Qa z37.l0sh [.s x'.1,.i c,.b x'.2.1,.li g,.li x'.2.2])) (λo=>d (z37.l0out0 a c e g h o)) (a,e,h):=by kernel_rfl
theorem z37.link (a0:J1):z37.C.evTop 162 (ifun Tryz.f162) [(.str a0)] z23.dec=z37.F a0:=by kernel_rfl
def z46.C:Ctx where
 T:=tab
 call:=Qh [(252,z45.pack),(52,z30.pack)]
theorem z46.link:z46.C.evTop 242 (ifun Tryz.f242) [] z41.dec=z46.F:=by kernel_rfl
def z52.C:Ctx where
 T:=tab
 call:=Qh [(224,z51.pack)]
theorem z52.link (a0:J0) (a1:Bool) (a2:Int):z52.C.evTop 180 (ifun Tryz.f180) [(.agg [(.ints false .u64 a0),(.bool a1)]),(.int .i64 a2)] z50.dec=z52.F a0 a1 a2:=by kernel_rfl
def z56.C:Ctx where
 T:=tab
 call:=Qh [(252,z45.pack),(52,z30.pack)]
theorem z56.link (a0:Int):z56.C.evTop 245 (ifun Tryz.f245) [(.int .i64 a0)] z41.dec=z56.F a0:=by kernel_rfl
def z61.l0sh:Env×Store:=(.undef :: .undef::(.ptr 0 0)::(.ptr 1 0)::(.ptr 2 0)::un 16 [],[(.cells 37 [(.ints false .u64 [])]),(.cells 37 [(.ints false .u64 [])]),(.cells 37 [(.ints false .u64 [])])])
def z61.l0out0 (a b c:J0) (o:J0×J0):X×Env×Store:=((.exit 0),Qa z61.l0sh [.li o.1,.li o.2,.li c])
def z61.l0pack:List Leaf->Option LPack
 |[.li a,.li b,.li c]=>some (.one _ (z61.l0 (a,b)) (z61.l0out0 a b c))
 |_=>none
def z61.C:Ctx where
 T:=tab
 draws:=λf i=>match f,i with|258,3=>([(19,[(3,0)],0),(20,[(6,0)],0),(0,[(2,0),(18,1)],1),(0,[(3,0),(19,2)],7)],786432)|_,_=>([],0)
 call:=Qh [(60,z8.pack),(107,z25.pack)]
 keep:=λf i=>match f,i with|258,0=>([2,3,4],[0,1,2],[])|_,_=>([],[],[])
 keepR:=λf i=>match f,i with|258,0=>([4],[0,1,2],[4])|_,_=>([],[],[])
 L:=λf i b st=>match f,i,b with|258,0,0=>(matchSt z61.l0sh st).bind z61.l0pack|_,_,_=>none
theorem z61.l0_link (R:Type) (k:Env×Store->Option R) (d:X×Env×Store->Option R) (a b c:J0) :
  z61.C.loopP 258 0 (Qf 0 (ifun Tryz.f258).body) 3 k d (Qa z61.l0sh [.li a,.li b,.li c]) =
  z61.l0P (λx'=>k (Qa z61.l0sh [.li x'.1,.li x'.2,.li c])) (λo=>d (z61.l0out0 a b c o)) (a,b):=by kernel_rfl
theorem z61.link (a0 a1:J0):z61.C.evTop 258 (ifun Tryz.f258) [(.agg [(.ints false .u64 a0)]),(.agg [(.ints false .u64 a1)])] z14.dec=z61.F a0 a1:=by kernel_rfl
def z64.C:Ctx where
 T:=tab
 draws:=λf i=>match f,i with|221,1=>([(7,[(1,0)],0),(8,[(6,1)],1),(9,[(1,0)],0),(10,[(8,3)],4),(11,[(9,4)],12),(12,[(7,2),(10,5)],31),(6,[(11,6)],63),(13,[(5,7)],127),(14,[(5,7)],127),(4,[],0),(0,[(3,10),(12,8)],767),(5,[(13,9)],2047)],16376)|_,_=>([],0)
 call:=Qh [(245,z56.pack),(244,z63.pack)]
theorem z64.link (a0:J0) (a1:Bool) (a2:Int):z64.C.evTop 221 (ifun Tryz.f221) [(.agg [(.ints false .u64 a0),(.bool a1),(.int .i64 a2)])] z68.dec=z64.F a0 a1 a2:=by kernel_rfl
def z66.C:Ctx where
 T:=tab
 call:=Qh [(255,z65.pack),(52,z30.pack)]
theorem z66.link (a0:J0) (a1:Bool) (a2:J0):z66.C.evTop 247 (ifun Tryz.f247) [(.agg [(.ints false .u64 a0),(.bool a1),(.ints false .u64 a2)])] z41.dec=z66.F a0 a1 a2:=by kernel_rfl
def z73.l0sh:Env×Store:=(.undef :: .undef::(.int .i64 0)::(.int .i64 0) :: .undef :: .undef::(.ints false .i64 [])::(.int .i64 0)::(.int .i64 0)::un 9 [],[])
def z73.l0so1:Env×Store:=(.undef :: .undef::(.int .i64 0)::un 15 [],[])
def z73.l0out0 (a b:Int) (c:J0) (d e o:Int):X×Env×Store:=((.exit 0),Qa z73.l0sh [.i a,.i b,.li c,.i d,.i o])
def z73.l0out1 (a b:Int) (c:J0) (d e o:Int):X×Env×Store:=(.ret,Qa z73.l0so1 [.i o])
def z73.l0pack:List Leaf->Option LPack
 |[.i a,.i b,.li c,.i d,.i e]=>some (.two _ _ (z73.l0 b c d e) (z73.l0out0 a b c d e) (z73.l0out1 a b c d e))
 |_=>none
def z73.C:Ctx where
 T:=tab
 keep:=λf i=>match f,i with|160,0=>([2,3,6,7,8],[],[])|_,_=>([],[],[])
 keepR:=λf i=>match f,i with|160,0=>([2],[],[2])|_,_=>([],[],[])
 L:=λf i b st=>match f,i,b with|160,0,0=>(matchSt z73.l0sh st).bind z73.l0pack|_,_,_=>none
theorem z73.l0_link (R:Type) (k:Env×Store->Option R) (d:X×Env×Store->Option R) (a b:Int) (c:J0) (e g:Int) :
  z73.C.loopP 160 0 (Qf 0 (ifun Tryz.f160).body) 0 k d (Qa z73.l0sh [.i a,.i b,.li c,.i e,.i g]) =
  z73.l0P b c e (λx'=>k (Qa z73.l0sh [.i a,.i b,.li c,.i e,.i x'])) (λo=>match o with | .inl o=>d (z73.l0out0 a b c e g o) | .inr o=>d (z73.l0out1 a b c e g o)) g:=by kernel_rfl
theorem z73.link (a0:J0):z73.C.evTop 160 (ifun Tryz.f160) [(.ints false .i64 a0)] z13.dec=z73.F a0:=by kernel_rfl
def z74.C:Ctx where
 T:=tab
 draws:=λf i=>match f,i with|115,1=>([(6,[(2,0)],0),(7,[(5,1)],1),(8,[(3,0)],0),(9,[(7,3)],4),(10,[(6,2),(8,4)],15),(11,[(2,0)],0),(12,[(10,6)],32),(13,[(3,0)],0),(14,[(12,8)],128),(15,[(11,7),(13,9)],511),(16,[(2,0)],0),(17,[(15,11)],1024),(18,[(3,0)],0),(19,[(17,13)],4096),(20,[(16,12),(18,14)],16383),(21,[(9,5),(14,10),(19,15)],32767),(22,[(20,16)],65535),(5,[(21,17)],131071)],4194288)|_,_=>([],0)
 call:=Qh [(153,z10.pack),(160,z73.pack)]
theorem z74.link (a0 a1 a2 a3 a4 a5:Int):z74.C.evTop 115 (ifun Tryz.f115) [(.agg [(.int .i64 a0),(.int .i64 a1),(.int .i64 a2)]),(.agg [(.int .i64 a3),(.int .i64 a4),(.int .i64 a5)])] z13.dec=z74.F a0 a1 a2 a3 a4 a5:=by kernel_rfl
def z79.C:Ctx where
 T:=tab
 call:=Qh [(216,z77.pack),(217,z78.pack)]
theorem z79.link (a0 a1:Int):z79.C.evTop 175 (ifun Tryz.f175) [(.int .i64 a0),(.int .i64 a1)] z13.dec=z79.F a0 a1:=by kernel_rfl
def z86.l0sh:Env×Store:=((.str ([]:J1)) :: .undef::(.int .i64 0)::(.str ([]:J1))::un 21 [],[])
def z86.l0so0:Env×Store:=(.undef :: .undef::(.int .i64 0)::un 22 [],[])
def z86.l0out0 (a:J1) (b:Int) (c:J1) (o:Int):X×Env×Store:=(.ret,Qa z86.l0so0 [.i o])
def z86.l0pack:List Leaf->Option LPack
 |[.s a,.i b,.s c]=>some (.one _ (z86.l0 a c) (z86.l0out0 a b c))
 |_=>none
def z86.C:Ctx where
 T:=tab
 call:=Qh [(163,z4.pack),(43,z84.pack),(164,z85.pack)]
 keep:=λf i=>match f,i with|119,0=>([0,2,3],[],[])|_,_=>([],[],[])
 keepR:=λf i=>match f,i with|119,0=>([2],[],[2])|_,_=>([],[],[])
 L:=λf i b st=>match f,i,b with|119,0,0=>(matchSt z86.l0sh st).bind z86.l0pack|_,_,_=>none
theorem z86.l0_link (R:Type) (k:Env×Store->Option R) (d:X×Env×Store->Option R) (a:J1) (b:Int) (c:J1) :
  z86.C.loopP 119 0 (Qf 0 (ifun Tryz.f119).body) 0 k d (Qa z86.l0sh [.s a,.i b,.s c]) =
  z86.l0P a (λx'=>k (Qa z86.l0sh [.s a,.i b,.s x'])) (λo=>d (z86.l0out0 a b c o)) c:=by kernel_rfl
theorem z86.link (a0:J1):z86.C.evTop 119 (ifun Tryz.f119) [(.str a0)] z13.dec=z86.F a0:=by kernel_rfl
def z88.C:Ctx where
 T:=tab
theorem z88.link (a0:Int):z88.C.evTop 168 (ifun Tryz.f168) [(.int .i32 a0)] z8.dec=z88.F a0:=by kernel_rfl
def z95.l0sh:Env×Store:=((.str ([]:J1))::(.func 167 []) :: .undef :: .undef::(.str ([]:J1))::un 3 ((.ptr 1 0)::un 12 []),[(.cells 142 [(.int .i64 0),(.str ([]:J1)),(.int .i64 0)]),(.siter ([]:J1) 0)])
def z95.l0so0:Env×Store:=(un 4 ((.str ([]:J1))::un 16 []),[(.cells 142 [(.int .i64 0),(.str ([]:J1)),(.int .i64 0)]),(.siter ([]:J1) 0)])
def z95.l0out0 (a b:J1) (c:Int) (d:J1) (e:Int) (g:J1) (h:Nat) (o:J1×Nat):X×Env×Store:=(.ret,Qa z95.l0so0 [.s o.1,.i c,.s d,.i e,.s g,.n o.2])
def z95.l0out1 (a b:J1) (c:Int) (d:J1) (e:Int) (g:J1) (h o:Nat):X×Env×Store:=((.exit 0),Qa z95.l0sh [.s a,.s b,.i c,.s d,.i e,.s g,.n o])
def z95.l0pack:List Leaf->Option LPack
 |[.s a,.s b,.i c,.s d,.i e,.s g,.n h]=>some (.two _ _ (z95.l0 a g h) (z95.l0out0 a b c d e g h) (z95.l0out1 a b c d e g h))
 |_=>none
def z95.l0ash:Env×Store:=((.str ([]:J1))::(.func 169 []) :: .undef :: .undef::(.str ([]:J1))::un 3 ((.ptr 1 0)::un 12 []),[(.cells 142 [(.int .i64 0),(.str ([]:J1)),(.int .i64 0)]),(.siter ([]:J1) 0)])
def z95.l0aso0:Env×Store:=(un 4 ((.str ([]:J1))::un 16 []),[(.cells 142 [(.int .i64 0),(.str ([]:J1)),(.int .i64 0)]),(.siter ([]:J1) 0)])
def z95.l0aout0 (a b:J1) (c:Int) (d:J1) (e:Int) (g:J1) (h:Nat) (o:J1×Nat):X×Env×Store:=(.ret,Qa z95.l0aso0 [.s o.1,.i c,.s d,.i e,.s g,.n o.2])
def z95.l0aout1 (a b:J1) (c:Int) (d:J1) (e:Int) (g:J1) (h o:Nat):X×Env×Store:=((.exit 0),Qa z95.l0ash [.s a,.s b,.i c,.s d,.i e,.s g,.n o])
def z95.l0apack:List Leaf->Option LPack
 |[.s a,.s b,.i c,.s d,.i e,.s g,.n h]=>some (.two _ _ (z95.l0a a g h) (z95.l0aout0 a b c d e g h) (z95.l0aout1 a b c d e g h))
 |_=>none
def z95.C:Ctx where
 T:=tab
 call:=Qh [(165,z87.pack),(167,z89.pack),(168,z88.pack),(169,z90.pack),(170,z91.pack),(171,z50.pack),(172,z94.pack)]
 inl:=λg=>match g with|166=>some (ifun Tryz.f166)|_=>none
 keep:=λf i=>match f,i with|166,0=>([0,1,4,8],List.range 64,[])|_,_=>([],[],[])
 keepR:=λf i=>match f,i with|166,0=>([4],List.range 64,[])|_,_=>([],[],[])
 L:=λf i b st=>match f,i,b with|166,0,1=>(orP ((matchSt z95.l0sh st).bind z95.l0pack) ((matchSt z95.l0ash st).bind z95.l0apack))|_,_,_=>none
def z95.dec:V->Option (Int×J1×Int×Int)
 |(.tup [(.agg [(.int .i64 x0),(.str x1),(.int .i64 x2)]),(.int .i64 x3)])=>some (x0,x1,x2,x3)
 |_=>none
theorem z95.l0_link (R:Type) (k:Env×Store->Option R) (d:X×Env×Store->Option R) (a b:J1) (c:Int) (e:J1) (g:Int) (h:J1) (j:Nat) :
  z95.C.loopPI (z95.C.inlK 0) 166 0 1 (Qf 0 (ifun Tryz.f166).body) 2 k d (Qa z95.l0sh [.s a,.s b,.i c,.s e,.i g,.s h,.n j]) =
  z95.l0P a h (λx'=>k (Qa z95.l0sh [.s a,.s b,.i c,.s e,.i g,.s h,.n x'])) (λo=>match o with | .inl o=>d (z95.l0out0 a b c e g h j o) | .inr o=>d (z95.l0out1 a b c e g h j o)) j:=by kernel_rfl
theorem z95.l0a_link (R:Type) (k:Env×Store->Option R) (d:X×Env×Store->Option R) (a b:J1) (c:Int) (e:J1) (g:Int) (h:J1) (j:Nat) :
  z95.C.loopPI (z95.C.inlK 0) 166 0 1 (Qf 0 (ifun Tryz.f166).body) 2 k d (Qa z95.l0ash [.s a,.s b,.i c,.s e,.i g,.s h,.n j]) =
  z95.l0aP a h (λx'=>k (Qa z95.l0ash [.s a,.s b,.i c,.s e,.i g,.s h,.n x'])) (λo=>match o with | .inl o=>d (z95.l0aout0 a b c e g h j o) | .inr o=>d (z95.l0aout1 a b c e g h j o)) j:=by kernel_rfl
theorem z95.link (a0:J1):z95.C.evTop 120 (ifun Tryz.f120) [(.str a0)] z95.dec=z95.F a0:=by kernel_rfl
def z97.l0sh:Env×Store:=(.undef :: .undef::(.sref 0 0)::(.int .i64 0)::(.int .i64 0)::un 3 ((.ptr 1 0)::(.sref 2 0)::(.ptr 3 0)::un 63 []),[(.arr 0 true 70 (.recs false 5 [])),(.cells 139 [(.recs false 3 []),(.int .i64 0),(.int .i64 0)]),(.arr 0 true 70 (.recs false 5 [])),(.cells 41 [(.int .i64 0),(.int .i64 0),(.int .i64 0)])])
def z97.l0so1:Env×Store:=(.undef :: .undef::(.recs false 5 [])::(.int .i64 0)::(.int .i64 0)::un 69 [],[(.arr 0 true 70 (.recs false 5 [])),(.cells 139 [(.recs false 3 []),(.int .i64 0),(.int .i64 0)]),(.arr 0 true 70 (.recs false 5 [])),(.cells 41 [(.int .i64 0),(.int .i64 0),(.int .i64 0)])])
def z97.l0out0 (a b:Int) (c d:J2) (e g:Int) (h:J2) (j k m:Int) (o:J2×Int×Int×J2×Int×Int×Int):X×Env×Store:=((.exit 0),Qa z97.l0sh [.i a,.i b,.lr c,.lr o.1,.i o.2.1,.i o.2.2.1,.lr o.2.2.2.1,.i o.2.2.2.2.1,.i o.2.2.2.2.2.1,.i o.2.2.2.2.2.2])
def z97.l0out1 (a b:Int) (c d:J2) (e g:Int) (h:J2) (j k m:Int) (o:J2×Int×Int×J2×Int×Int×J2×Int×Int×Int):X×Env×Store:=(.ret,Qa z97.l0so1 [.lr o.1,.i o.2.1,.i o.2.2.1,.lr c,.lr o.2.2.2.1,.i o.2.2.2.2.1,.i o.2.2.2.2.2.1,.lr o.2.2.2.2.2.2.1,.i o.2.2.2.2.2.2.2.1,.i o.2.2.2.2.2.2.2.2.1,.i o.2.2.2.2.2.2.2.2.2])
def z97.l0pack:List Leaf->Option LPack
 |[.i a,.i b,.lr c,.lr d,.i e,.i g,.lr h,.i j,.i k,.i m]=>some (.two _ _ (z97.l0 (d,e,g,h,j,k,m)) (z97.l0out0 a b c d e g h j k m) (z97.l0out1 a b c d e g h j k m))
 |_=>none
def z97.C:Ctx where
 T:=tab
 draws:=λf i=>match f,i with|24,9=>([(48,[(8,0)],0),(49,[(47,1)],1),(50,[(48,2)],3),(51,[(49,3)],7),(52,[(50,4)],15),(53,[(51,5)],31),(54,[(52,6)],63),(3,[],0),(4,[(53,7)],255),(5,[],511)],17873661021126684)|24,12=>([(63,[(8,0)],0),(64,[(62,1)],1),(65,[(63,2)],3),(66,[(64,3)],7),(67,[(12,0)],0),(3,[],0),(4,[(65,4)],47),(5,[(66,5)],127)],142962266571249025052)|24,13=>([(68,[(9,7)],0),(69,[(11,0)],0),(70,[(68,2)],2),(71,[(67,1),(69,3)],7),(72,[(11,0)],0),(73,[(71,5)],16),(10,[(70,4)],15),(0,[(10,0),(72,6)],127)],9297159013149614014976)|_,_=>([],0)
 call:=Qh [(70,z96.pack)]
 prim:=λg=>match g with|71=>some (blkP [139] z83.pk)|_=>none
 keep:=λf i=>match f,i with|24,0=>([2,3,4,8,9,10],[0,1,2,3],[])|_,_=>([],[],[])
 keepR:=λf i=>match f,i with|24,0=>([2,3,4],[0,1,2,3],[2,3,4])|_,_=>([],[],[])
 L:=λf i b st=>match f,i,b with|24,0,0=>(matchSt z97.l0sh st).bind z97.l0pack|_,_,_=>none
def z97.dec:V->Option (J2×Int×Int)
 |(.tup [(.recs _ 5 x0),(.int .i64 x1),(.int .i64 x2)])=>some (x0,x1,x2)
 |_=>none
theorem z97.l0_link (R:Type) (k:Env×Store->Option R) (d:X×Env×Store->Option R) (a b:Int) (c e:J2) (g h:Int) (j:J2) (m n p:Int) :
  z97.C.loopP 24 0 (Qf 0 (ifun Tryz.f24).body) 4 k d (Qa z97.l0sh [.i a,.i b,.lr c,.lr e,.i g,.i h,.lr j,.i m,.i n,.i p]) =
  z97.l0P (λx'=>k (Qa z97.l0sh [.i a,.i b,.lr c,.lr x'.1,.i x'.2.1,.i x'.2.2.1,.lr x'.2.2.2.1,.i x'.2.2.2.2.1,.i x'.2.2.2.2.2.1,.i x'.2.2.2.2.2.2])) (λo=>match o with | .inl o=>d (z97.l0out0 a b c e g h j m n p o) | .inr o=>d (z97.l0out1 a b c e g h j m n p o)) (e,g,h,j,m,n,p):=by kernel_rfl
theorem z97.link (a0:J1):z97.C.evTop 24 (ifun Tryz.f24) [(.str a0)] z97.dec=z97.F a0:=by kernel_rfl
def z98.C:Ctx where
 T:=tab
 call:=Qh [(133,z80.pack),(115,z74.pack),(134,z70.pack)]
theorem z98.link (a0 a1 a2 a3:Int) (a4:J1) (a5 a6 a7:Int):z98.C.evTop 77 (ifun Tryz.f77) [(.agg [(.int .i64 a0),(.int .i64 a1),(.int .i64 a2),(.int .i64 a3),(.str a4)]),(.agg [(.int .i64 a5),(.int .i64 a6),(.int .i64 a7)])] z13.dec=z98.F a0 a1 a2 a3 a4 a5 a6 a7:=by kernel_rfl
def z99.l0sh:Env×Store:=(.undef :: .undef::(.int .i64 0)::(.int .i64 0)::(.ptr 0 0)::un 6 ((.recs false 5 [])::(.int .i64 0)::(.int .i64 0)::un 14 []),[(.cells 41 [(.int .i64 0),(.int .i64 0),(.int .i64 0)])])
def z99.l0so1:Env×Store:=(.undef :: .undef::(.int .i64 0)::(.int .i64 0)::un 24 [],[(.cells 41 [(.int .i64 0),(.int .i64 0),(.int .i64 0)])])
def z99.l0out0 (a b:Int) (c:J2) (d e g h j:Int) (o:Int×Int×Int×Int):X×Env×Store:=((.exit 0),Qa z99.l0sh [.i a,.i b,.lr c,.i d,.i o.1,.i o.2.1,.i o.2.2.1,.i o.2.2.2])
def z99.l0out1 (a b:Int) (c:J2) (d e g h j:Int) (o:Int×Int×Int×Int×Int):X×Env×Store:=(.ret,Qa z99.l0so1 [.i o.1,.i o.2.1,.i o.2.2.1,.i o.2.2.2.1,.i o.2.2.2.2])
def z99.l0pack:List Leaf->Option LPack
 |[.i a,.i b,.lr c,.i d,.i e,.i g,.i h,.i j]=>some (.two _ _ (z99.l0 c d (e,g,h,j)) (z99.l0out0 a b c d e g h j) (z99.l0out1 a b c d e g h j))
 |_=>none
def z99.C:Ctx where
 T:=tab
 call:=Qh [(77,z98.pack)]
 keep:=λf i=>match f,i with|30,0=>([2,3,4,11,12,13],[0],[])|_,_=>([],[],[])
 keepR:=λf i=>match f,i with|30,0=>([2,3],[0],[2,3])|_,_=>([],[],[])
 L:=λf i b st=>match f,i,b with|30,0,0=>(matchSt z99.l0sh st).bind z99.l0pack|_,_,_=>none
def z99.dec:V->Option (Int×Int)
 |(.tup [(.int .i64 x0),(.int .i64 x1)])=>some (x0,x1)
 |_=>none
theorem z99.l0_link (R:Type) (k:Env×Store->Option R) (d:X×Env×Store->Option R) (a b:Int) (c:J2) (e g h j m:Int) :
  z99.C.loopP 30 0 (Qf 0 (ifun Tryz.f30).body) 1 k d (Qa z99.l0sh [.i a,.i b,.lr c,.i e,.i g,.i h,.i j,.i m]) =
  z99.l0P c e (λx'=>k (Qa z99.l0sh [.i a,.i b,.lr c,.i e,.i x'.1,.i x'.2.1,.i x'.2.2.1,.i x'.2.2.2])) (λo=>match o with | .inl o=>d (z99.l0out0 a b c e g h j m o) | .inr o=>d (z99.l0out1 a b c e g h j m o)) (g,h,j,m):=by kernel_rfl
theorem z99.link (a0:J2):z99.C.evTop 30 (ifun Tryz.f30) [(.recs false 5 a0)] z99.dec=z99.F a0:=by kernel_rfl
def z100.l0sh:Env×Store:=((.sview 1 0 0 0)::(.int .i64 0) :: .undef :: .undef::(.int .i64 0)::un 16 [],[(.cells 41 [(.int .i64 0),(.int .i64 0),(.int .i64 0)]),(.arr 0 false 5 (.ints true .u8 []))])
def z100.l0out0 (a b:Nat) (c d e g h:Int) (j:J0) (o:Int×Int×J0):X×Env×Store:=((.exit 0),Qa z100.l0sh [.n a,.n b,.i o.1,.i o.2.1,.i e,.i g,.i h,.li o.2.2])
def z100.l0pack:List Leaf->Option LPack
 |[.n a,.n b,.i c,.i d,.i e,.i g,.i h,.li j]=>some (.one _ (z100.l0 a b (c,d,j)) (z100.l0out0 a b c d e g h j))
 |_=>none
def z100.C:Ctx where
 T:=tab
 draws:=λf i=>match f,i with|136,5=>([(14,[(5,0)],0),(15,[(13,1)],1),(16,[(1,0)],0),(17,[(15,3)],4),(18,[(14,2),(16,4)],15)],253952)|136,6=>([(19,[(5,0)],0),(20,[(18,1)],1),(21,[(1,0)],0),(22,[(20,3)],4),(23,[(19,2),(21,4)],15)],8126464)|136,7=>([(24,[(5,0)],0),(25,[(23,1)],1),(26,[(1,0)],0),(27,[(25,3)],4),(28,[(24,2),(26,4)],15)],260046848)|_,_=>([],0)
 call:=Qh [(133,z80.pack)]
 inl:=λg=>match g with|179=>some (ifun Tryz.f179)|_=>none
 own:=λd=>match d with|11=>true|_=>false
 keep:=λf i=>match f,i with|179,0=>([0,1,4],List.range 64,[])|_,_=>([],[],[])
 keepR:=λf i=>match f,i with|179,0=>([],List.range 64,[])|_,_=>([],[],[])
 L:=λf i b st=>match f,i,b with|179,0,2=>(matchSt z100.l0sh st).bind z100.l0pack|_,_,_=>none
def z100.dec:V->Option (J1×Int)
 |(.tup [(.str x0),(.int .i64 x1)])=>some (x0,x1)
 |_=>none
theorem z100.l0_link (R:Type) (k:Env×Store->Option R) (d:X×Env×Store->Option R) (a b:Nat) (c e g h j:Int) (m:J0) :
  z100.C.loopPI (z100.C.inlK 0) 179 0 2 (Qf 0 (ifun Tryz.f179).body) 2 k d (Qa z100.l0sh [.n a,.n b,.i c,.i e,.i g,.i h,.i j,.li m]) =
  z100.l0P a b (λx'=>k (Qa z100.l0sh [.n a,.n b,.i x'.1,.i x'.2.1,.i g,.i h,.i j,.li x'.2.2])) (λo=>d (z100.l0out0 a b c e g h j m o)) (c,e,m):=by kernel_rfl
theorem z100.link (a0 a1 a2:Int):z100.C.evTop 136 (ifun Tryz.f136) [(.agg [(.int .i64 a0),(.int .i64 a1),(.int .i64 a2)])] z100.dec=z100.F a0 a1 a2:=by kernel_rfl
def z104.l0sh:Env×Store:=(.undef :: .undef::(.str ([]:J1))::(.int .i64 0) :: .undef :: .undef::(.ptr 0 0)::un 10 ((.recs false 5 [])::(.int .i64 0)::(.int .i64 0)::un 8 []),[(.cells 159 [(.ptr 0 0),(.sref 2 0)]),.dead,(.arr 0 true 5 (.ints false .u8 []))])
def z104.l0out0 (a:J1) (b:Int) (c:J2) (d e:Int) (g:J0) (o:Int×J0):X×Env×Store:=((.exit 0),Qa z104.l0sh [.s a,.i b,.lr c,.i d,.i o.1,.li o.2])
def z104.l0pack:List Leaf->Option LPack
 |[.s a,.i b,.lr c,.i d,.i e,.li g]=>some (.one _ (z104.l0 c d (e,g)) (z104.l0out0 a b c d e g))
 |_=>none
def z104.C:Ctx where
 T:=tab
 draws:=λf i=>match f,i with|80,1=>([(4,[(0,0)],0),(5,[(3,1)],1),(6,[(4,2)],3),(7,[(5,3)],7),(8,[(6,4)],15),(9,[(0,0)],0),(10,[(8,6)],32),(11,[(9,7)],96),(12,[(10,8)],224),(13,[(11,9)],480),(14,[(7,5),(12,10)],1023),(3,[(13,11)],2047)],16380)|_,_=>([],0)
 call:=Qh [(30,z99.pack),(79,z103.pack)]
 inl:=λg=>match g with|80=>some (ifun Tryz.f80)|78=>some (ifun Tryz.f78)|_=>none
 rank:=λg=>match g with|78=>1|_=>0
 prim:=λg=>match g with|135=>some (copyP 159)|_=>none
 keep:=λf i=>match f,i with|31,0=>([2,3,6,17,18,19],[0,2],[])|_,_=>([],[],[])
 keepR:=λf i=>match f,i with|31,0=>([2,3],[0,2],[2,3])|_,_=>([],[],[])
 unroll:=λf i=>match f,i with|31,0=>1|_,_=>0
 L:=λf i b st=>match f,i,b with|31,0,0=>(matchSt z104.l0sh st).bind z104.l0pack|_,_,_=>none
theorem z104.l0_link (R:Type) (k:Env×Store->Option R) (d:X×Env×Store->Option R) (a:J1) (b:Int) (c:J2) (e g:Int) (h:J0) :
  z104.C.loopP 31 0 (Qf 0 (ifun Tryz.f31).body) 3 k d (Qa z104.l0sh [.s a,.i b,.lr c,.i e,.i g,.li h]) =
  z104.l0P c e (λx'=>k (Qa z104.l0sh [.s a,.i b,.lr c,.i e,.i x'.1,.li x'.2])) (λo=>d (z104.l0out0 a b c e g h o)) (g,h):=by kernel_rfl
theorem z104.link (a0:J2):z104.C.evTop 31 (ifun Tryz.f31) [(.recs false 5 a0)] z100.dec=z104.F a0:=by kernel_rfl
def z108.C:Ctx where
 T:=tab
 call:=Qh [(56,z107.pack)]
theorem z108.link (a0:J0) (a1:Bool):z108.C.evTop 14 (ifun Tryz.f14) [(.agg [(.ints false .i64 a0),(.bool a1)])] z28.dec=z108.F a0 a1:=by kernel_rfl
def z109.C:Ctx where
 T:=tab
theorem z109.link (a0:Int):z109.C.evTop 149 (ifun Tryz.f149) [(.int .i64 a0)] z8.dec=z109.F a0:=by kernel_rfl
def z110.C:Ctx where
 T:=tab
 call:=Qh [(149,z109.pack)]
theorem z110.link (a0 a1:Int):z110.C.evTop 96 (ifun Tryz.f96) [(.int .i64 a0),(.int .i64 a1)] z13.dec=z110.F a0 a1:=by kernel_rfl
def z111.C:Ctx where
 T:=tab
 draws:=λf i=>match f,i with|47,6=>([(32,[(1,0)],0),(33,[(31,1)],1),(34,[(32,2)],3),(35,[(33,3)],7),(36,[(1,0)],0),(37,[(35,5)],16),(38,[(36,6)],48),(0,[(2,0),(34,4)],15),(4,[(37,7)],255)],272730423304)|_,_=>([],0)
 call:=Qh [(96,z110.pack)]
def z111.dec:V->Option (Int×Int×Int×Bool)
 |(.tup [(.agg [(.int .i64 x0),(.int .i64 x1),(.int .i64 x2)]),(.bool x3)])=>some (x0,x1,x2,x3)
 |_=>none
theorem z111.link (a0 a1 a2:Int):z111.C.evTop 47 (ifun Tryz.f47) [(.agg [(.int .i64 a0),(.int .i64 a1),(.int .i64 a2)])] z111.dec=z111.F a0 a1 a2:=by kernel_rfl
def z115.l2sh:Env×Store:=(.undef :: .undef::(.ptr 0 0) :: .undef::(.sref 2 0)::(.sref 3 0)::(.ptr 4 0)::(.int .i64 0)::(.int .i64 0)::un 13 ((.int .i64 0)::(.bool false)::un 81 []),[(.cells 73 [(.int .i64 0),(.int .i64 0),(.int .i64 0),(.ints false .u8 []),(.ints false .u8 []),(.ints false .u32 [])]),.dead,(.arr 0 true 70 (.recs false 5 [])),(.arr 0 true 70 (.recs false 5 [])),(.cells 41 [(.int .i64 0),(.int .i64 0),(.int .i64 0)])])
def z115.l2out0 (a c d:Int) (e:Bool) (g h j:Int) (k m n:J0) (p q:J2) (r s t:Int) (o:Int×Int×Int×Int):X×Env×Store:=((.exit 2),Qa z115.l2sh [.i a,.i o.1,.i d,.b e,.i g,.i h,.i j,.li k,.li m,.li n,.lr p,.lr q,.i o.2.1,.i o.2.2.1,.i o.2.2.2])
def z115.l2pack:List Leaf->Option LPack
 |[.i a,.i c,.i d,.b e,.i g,.i h,.i j,.li k,.li m,.li n,.lr o,.lr p,.i q,.i r,.i s]=>some (.one _ (z115.l2 a k (c,q,r,s)) (z115.l2out0 a c d e g h j k m n o p q r s))
 |_=>none
def z115.l0sh:Env×Store:=(.undef :: .undef::(.ptr 0 0) :: .undef::(.sref 2 0)::(.sref 3 0)::(.ptr 4 0)::(.int .i64 0)::un 97 [],[(.cells 73 [(.int .i64 0),(.int .i64 0),(.int .i64 0),(.ints false .u8 []),(.ints false .u8 []),(.ints false .u32 [])]),.dead,(.arr 0 true 70 (.recs false 5 [])),(.arr 0 true 70 (.recs false 5 [])),(.cells 41 [(.int .i64 0),(.int .i64 0),(.int .i64 0)])])
def z115.l0out0 (a b c d:Int) (e g h:J0) (j k:J2) (m n p:Int) (o:Int×J2×Int×Int×Int):X×Env×Store:=((.exit 0),Qa z115.l0sh [.i o.1,.i b,.i c,.i d,.li e,.li g,.li h,.lr j,.lr o.2.1,.i o.2.2.1,.i o.2.2.2.1,.i o.2.2.2.2])
def z115.l0pack:List Leaf->Option LPack
 |[.i a,.i b,.i c,.i d,.li e,.li g,.li h,.lr j,.lr k,.i m,.i n,.i o]=>some (.one _ (z115.l0 e g h (a,k,m,n,o)) (z115.l0out0 a b c d e g h j k m n o))
 |_=>none
def z115.C:Ctx where
 T:=tab
 call:=Qh [(47,z111.pack),(48,z114.pack),(14,z108.pack)]
 keep:=λf i=>match f,i with|28,2=>([2,4,5,6,7,8,22,23,94,95,96,97],[0,2,3,4],[])|28,0=>([2,4,5,6,7],[0,2,3,4],[])|_,_=>([],[],[])
 keepR:=λf i=>match f,i with|28,2=>([4],[0,2,3,4],[4])|28,0=>([4],[0,2,3,4],[4])|_,_=>([],[],[])
 L:=λf i b st=>match f,i,b with|28,2,0=>(matchSt z115.l2sh st).bind z115.l2pack|28,0,0=>(matchSt z115.l0sh st).bind z115.l0pack|_,_,_=>none
theorem z115.l2_link (R:Type) (k:Env×Store->Option R) (d:X×Env×Store->Option R) (a c e:Int) (g:Bool) (h j m:Int) (n p q:J0) (r s:J2) (t u v:Int) :
  z115.C.loopP 28 2 (Qf 2 (ifun Tryz.f28).body) 5 k d (Qa z115.l2sh [.i a,.i c,.i e,.b g,.i h,.i j,.i m,.li n,.li p,.li q,.lr r,.lr s,.i t,.i u,.i v]) =
  z115.l2P a n (λx'=>k (Qa z115.l2sh [.i a,.i x'.1,.i e,.b g,.i h,.i j,.i m,.li n,.li p,.li q,.lr r,.lr s,.i x'.2.1,.i x'.2.2.1,.i x'.2.2.2])) (λo=>d (z115.l2out0 a c e g h j m n p q r s t u v o)) (c,t,u,v):=by kernel_rfl
theorem z115.l0_link (R:Type) (k:Env×Store->Option R) (d:X×Env×Store->Option R) (a b c e:Int) (g h j:J0) (m n:J2) (p q r:Int) :
  z115.C.loopP 28 0 (Qf 0 (ifun Tryz.f28).body) 5 k d (Qa z115.l0sh [.i a,.i b,.i c,.i e,.li g,.li h,.li j,.lr m,.lr n,.i p,.i q,.i r]) =
  z115.l0P g h j (λx'=>k (Qa z115.l0sh [.i x'.1,.i b,.i c,.i e,.li g,.li h,.li j,.lr m,.lr x'.2.1,.i x'.2.2.1,.i x'.2.2.2.1,.i x'.2.2.2.2])) (λo=>d (z115.l0out0 a b c e g h j m n p q r o)) (a,n,p,q,r):=by kernel_rfl
theorem z115.link (a0 a1 a2:Int) (a3 a4 a5:J0) (a6 a7 a8:Int):z115.C.evTop 28 (ifun Tryz.f28) [(.agg [(.int .i64 a0),(.int .i64 a1),(.int .i64 a2),(.ints false .u8 a3),(.ints false .u8 a4),(.ints false .u32 a5)]),(.agg [(.int .i64 a6),(.int .i64 a7),(.int .i64 a8)])] z140.dec=z115.F a0 a1 a2 a3 a4 a5 a6 a7 a8:=by kernel_rfl
def z116.C:Ctx where
 T:=tab
 call:=Qh [(96,z110.pack)]
theorem z116.link (a0 a1 a2 a3:Int):z116.C.evTop 46 (ifun Tryz.f46) [(.agg [(.int .i64 a0),(.int .i64 a1),(.int .i64 a2)]),(.int .i64 a3)] z117.dec=z116.F a0 a1 a2 a3:=by kernel_rfl
def z118.l0sh:Env×Store:=((.int .i64 0)::(.int .i64 0) :: .undef :: .undef::(.str ([]:J1))::(.str ([]:J1))::(.int .i64 0)::un 16 [],[])
def z118.l0out0 (a b:Int) (c d:J1) (e:Int) (o:Int×J1×Int):X×Env×Store:=((.exit 0),Qa z118.l0sh [.i o.1,.i b,.s c,.s o.2.1,.i o.2.2])
def z118.l0pack:List Leaf->Option LPack
 |[.i a,.i b,.s c,.s d,.i e]=>some (.one _ (z118.l0 b (a,d,e)) (z118.l0out0 a b c d e))
 |_=>none
def z118.C:Ctx where
 T:=tab
 keep:=λf i=>match f,i with|139,0=>([0,1,4,5,6],[],[])|_,_=>([],[],[])
 keepR:=λf i=>match f,i with|139,0=>([4],[],[4])|_,_=>([],[],[])
 L:=λf i b st=>match f,i,b with|139,0,0=>(matchSt z118.l0sh st).bind z118.l0pack|_,_,_=>none
theorem z118.l0_link (R:Type) (k:Env×Store->Option R) (d:X×Env×Store->Option R) (a b:Int) (c e:J1) (g:Int) :
  z118.C.loopP 139 0 (Qf 0 (ifun Tryz.f139).body) 0 k d (Qa z118.l0sh [.i a,.i b,.s c,.s e,.i g]) =
  z118.l0P b (λx'=>k (Qa z118.l0sh [.i x'.1,.i b,.s c,.s x'.2.1,.i x'.2.2])) (λo=>d (z118.l0out0 a b c e g o)) (a,e,g):=by kernel_rfl
theorem z118.link (a0 a1:Int):z118.C.evTop 139 (ifun Tryz.f139) [(.int .i64 a0),(.int .i64 a1)] z28.dec=z118.F a0 a1:=by kernel_rfl
def z134.C:Ctx where
 T:=tab
 call:=Qh [(59,z132.pack),(187,z133.pack)]
theorem z134.link (a0:J0) (a1:Bool) (a2:J0) (a3:Bool):z134.C.evTop 142 (ifun Tryz.f142) [(.agg [(.ints false .i64 a0),(.bool a1)]),(.agg [(.ints false .i64 a2),(.bool a3)])] z13.dec=z134.F a0 a1 a2 a3:=by kernel_rfl
def z136.l0sh:Env×Store:=(.undef::(.ptr 0 0)::(.str ([]:J1))::(.str ([]:J1))::un 36 [],[(.cells 218 [(.ints false .i64 []),(.bool false),(.int .i64 0)])])
def z136.l0out0 (a c:J1) (d:J0) (e:Bool) (g:Int) (o:J1):X×Env×Store:=((.exit 0),Qa z136.l0sh [.s a,.s o,.li d,.b e,.i g])
def z136.l0pack:List Leaf->Option LPack
 |[.s a,.s c,.li d,.b e,.i g]=>some (.one _ (z136.l0 g c) (z136.l0out0 a c d e g))
 |_=>none
def z136.C:Ctx where
 T:=tab
 draws:=λf i=>match f,i with|143,5=>([(19,[(3,17)],0),(20,[(3,17)],0),(21,[(19,2)],2),(22,[(1,0)],0),(23,[(21,4)],8),(24,[(20,3),(22,5)],30),(25,[(18,1),(23,6)],63),(26,[(24,7)],127),(27,[(3,17)],0),(28,[(3,17)],0),(29,[(27,10)],512),(30,[(1,0)],0),(31,[(29,12)],2048),(32,[(28,11),(30,13)],7680),(33,[(26,9),(31,14)],16128),(34,[(25,8),(32,15)],32767),(4,[(33,16)],65535)],17179607048)|_,_=>([],0)
 call:=Qh [(56,z107.pack)]
 keep:=λf i=>match f,i with|143,0=>([1,2,3],[0],[])|_,_=>([],[],[])
 keepR:=λf i=>match f,i with|143,0=>([2],[0],[2])|_,_=>([],[],[])
 L:=λf i b st=>match f,i,b with|143,0,0=>(matchSt z136.l0sh st).bind z136.l0pack|_,_,_=>none
theorem z136.l0_link (R:Type) (k:Env×Store->Option R) (d:X×Env×Store->Option R) (a c:J1) (e:J0) (g:Bool) (h:Int) :
  z136.C.loopP 143 0 (Qf 0 (ifun Tryz.f143).body) 1 k d (Qa z136.l0sh [.s a,.s c,.li e,.b g,.i h]) =
  z136.l0P h (λx'=>k (Qa z136.l0sh [.s a,.s x',.li e,.b g,.i h])) (λo=>d (z136.l0out0 a c e g h o)) c:=by kernel_rfl
theorem z136.link (a0:J0) (a1:Bool) (a2:Int):z136.C.evTop 143 (ifun Tryz.f143) [(.agg [(.ints false .i64 a0),(.bool a1),(.int .i64 a2)])] z28.dec=z136.F a0 a1 a2:=by kernel_rfl
def z144.C:Ctx where
 T:=tab
 draws:=λf i=>match f,i with|8,1=>([(19,[(2,0)],0),(20,[(2,0)],0),(21,[(19,2)],2),(22,[(18,1),(20,3)],7),(6,[(21,4)],15)],3932192)|8,10=>([(52,[(5,0)],0),(53,[(5,0)],0),(54,[(52,2)],2),(55,[(5,0)],0),(56,[(54,4)],8),(57,[(51,1),(53,3),(55,5)],31),(58,[(9,0)],0),(59,[(57,7)],64),(60,[(10,0)],0),(61,[(58,8),(59,9)],448),(62,[(56,6),(60,10)],1023),(12,[(61,11)],2047)],4609434218613704704)|_,_=>([],0)
 call:=Qh [(29,z117.pack),(28,z115.pack),(31,z104.pack),(34,z140.pack),(30,z99.pack),(33,z138.pack),(35,z143.pack),(36,z5.pack),(24,z97.pack),(26,z105.pack),(27,z106.pack)]
 keeps:=λd=>match d with|61=>true|_=>false
theorem z144.link (a0 a1 a2:Int) (a3 a4 a5:J0) (a6:Int):z144.C.evTop 8 (ifun Tryz.f8) [(.agg [(.int .i64 a0),(.int .i64 a1),(.int .i64 a2),(.ints false .u8 a3),(.ints false .u8 a4),(.ints false .u32 a5)]),(.int .u8 a6)] z8.dec=z144.F a0 a1 a2 a3 a4 a5 a6:=by kernel_rfl
end
noncomputable section
abbrev Sn (k:List V->Option Pack) (n:FuncId):Prop:=∀vs p,k vs=some p->SoundC Tryz.prog n vs p
theorem Qd:tab.check Tryz.prog=true:=by kernel_rfl
def tabC:Ctx where
 T:=tab
theorem Qe:Tryz.prog.follows .mixedOrders=true:=by kernel_rfl
theorem z7.inlF:InlF Tryz.prog z7.C where
 prim g h hp:=by simp [z7.C] at hp
 fn g fn h:=by simp [z7.C] at h
 loops g fn h:=by simp [z7.C] at h
theorem z7.sound:SoundP Tryz.prog 121 (blkP [139] z7.pk):=by
 refine Qg2 Qd Qe rfl Qt z7.inlF ⟨Tryz.func121,rfl,by kernel_rfl⟩ rfl λcss rest p h=>?_
 unfold z7.pk at h;split at h<;>cases h
 exact ⟨_,_,z7.dec,rfl,rfl,z7.link _ _ _,λv css' r h=>by unfold z7.dec at h;split at h<;>cases h;exact ⟨rfl,rfl,rfl⟩⟩
theorem z8.hdec:Q5 z8.dec z8.enc:=by
 intro v r h
 unfold z8.dec at h;split at h<;>cases h
 exact ⟨rfl,rfl⟩
theorem z8.sound:Sn z8.pack 60:=by
 intro vs p h;unfold z8.pack at h;split at h<;>cases h
 exact Qj Qd Qe rfl rfl rfl rfl Qt ⟨Tryz.func60,rfl,by kernel_rfl⟩ rfl (z8.link _) z8.hdec
theorem z9.sound:Sn z9.pack 195:=by
 intro vs p h;unfold z9.pack at h;split at h<;>cases h
 exact Qj Qd Qe rfl rfl rfl rfl Qt ⟨Tryz.func195,rfl,by kernel_rfl⟩ rfl (z9.link _) z8.hdec
theorem z10.hdec:Q5 z13.dec z10.enc:=by
 intro v r h
 unfold z13.dec at h;split at h<;>cases h
 exact ⟨rfl,rfl⟩
theorem z10.sound:Sn z10.pack 153:=by
 intro vs p h;unfold z10.pack at h;split at h<;>cases h
 exact Qj Qd Qe rfl rfl rfl rfl (Qb z9.sound Qi) ⟨Tryz.func153,rfl,by kernel_rfl⟩ rfl (z10.link _ _) z10.hdec
theorem z11.sound:Sn z11.pack 196:=by
 intro vs p h;unfold z11.pack at h;split at h<;>cases h
 exact Qj Qd Qe rfl rfl rfl rfl Qt ⟨Tryz.func196,rfl,by kernel_rfl⟩ rfl (z11.link _) z8.hdec
theorem z12.sound:Sn z12.pack 154:=by
 intro vs p h;unfold z12.pack at h;split at h<;>cases h
 exact Qj Qd Qe rfl rfl rfl rfl (Qb z11.sound Qi) ⟨Tryz.func154,rfl,by kernel_rfl⟩ rfl (z12.link _ _) z10.hdec
theorem z13.l0_sound (hI:InlOK Tryz.prog z13.C λR=>z13.C.inlK 6):Ql z13.C 6 105 0 0 (Qf 0 (ifun Tryz.f105).body) z13.l0sh z13.l0pack:=by
 refine Qm λls p h=>?_
 unfold z13.l0pack at h;split at h<;>cases h
 rename_i a b c e
 exact Wx hI (sh:=z13.l0sh) (so:=z13.l0sh) (so':=z13.l0so1) (F:=λR rec done x=>z13.l0P c e rec done x) (enc:=λ(x':Int)=>Qa z13.l0sh [.i a,.i x',.li c,.li e]) (.exit 0) [1] [1] [0] b (by kernel_rfl) (by kernel_rfl) (λx=>by kernel_rfl) (λo=>by kernel_rfl) (λo=>by kernel_rfl) λR k d x'=>z13.l0_link R k d a (x') c e
theorem Qrm:Qn (ifun Tryz.f105).body=true:=by kernel_rfl
theorem z13.loopsT (hI:InlOK Tryz.prog z13.C λR=>z13.C.inlK 6):LoopsOK z13.C (λR=>z13.C.inlK 6) 105 0 (ifun Tryz.f105).body:=by
 intro id b hm st p hp
 obtain rfl:=Qo Qrm hm
 unfold z13.C at hp
 simp only at hp
 try split at hp
 all_goals first
  |(simp at hp;done)
  |(exfalso;omega)
  |exact z13.l0_sound hI st p hp
theorem z13.sound:Sn z13.pack 105:=by
 intro vs p h;unfold z13.pack at h;split at h<;>cases h
 exact Qw Qd Qe rfl rfl rfl (Qb z10.sound (Qb z12.sound Qi)) ⟨Tryz.func105,rfl,by kernel_rfl⟩ z13.loopsT rfl (z13.link _ _) z10.hdec
theorem z14.l0_sound (hI:InlOK Tryz.prog z14.C λR=>z14.C.inlK 6):Ql z14.C 6 104 0 0 (Qf 0 (ifun Tryz.f104).body) z14.l0sh z14.l0pack:=by
 refine Qm λls p h=>?_
 unfold z14.l0pack at h;split at h<;>cases h
 rename_i a b c
 exact Qp hI (sh:=z14.l0sh) (so:=z14.l0sh) (F:=λR rec done x=>z14.l0P a rec done x) (enc:=λ(x':Int)=>Qa z14.l0sh [.li a,.i x',.li c]) [1] [1] b (by kernel_rfl) (by kernel_rfl) (λx=>by kernel_rfl) (λo=>by kernel_rfl) λR k d x'=>z14.l0_link R k d a (x') c
theorem Qs9:Qn (ifun Tryz.f104).body=true:=by kernel_rfl
theorem z14.loopsT (hI:InlOK Tryz.prog z14.C λR=>z14.C.inlK 6):LoopsOK z14.C (λR=>z14.C.inlK 6) 104 0 (ifun Tryz.f104).body:=by
 intro id b hm st p hp
 obtain rfl:=Qo Qs9 hm
 unfold z14.C at hp
 simp only at hp
 try split at hp
 all_goals first
  |(simp at hp;done)
  |(exfalso;omega)
  |exact z14.l0_sound hI st p hp
theorem z14.hdec:Q5 z14.dec z14.enc:=by
 intro v r h
 unfold z14.dec at h;split at h<;>cases h
 exact ⟨rfl,rfl⟩
theorem z14.sound:Sn z14.pack 104:=by
 intro vs p h;unfold z14.pack at h;split at h<;>cases h
 exact Qw Qd Qe rfl rfl rfl Qt ⟨Tryz.func104,rfl,by kernel_rfl⟩ z14.loopsT rfl (z14.link _) z14.hdec
theorem prim157:SoundP Tryz.prog 157 (cloneP (.ints true .u64 []) 183 8):=Qvg (C:=tabC) Qd (f:=Tryz.f157) (t:=35) ⟨Tryz.func157,rfl,by kernel_rfl⟩ rfl (by decide) (by kernel_rfl) (by kernel_rfl) (by kernel_rfl) (by decide) (by kernel_rfl) rfl rfl (by kernel_rfl)
theorem z15.inlF:InlF Tryz.prog z15.C where
 prim g h hp:=by
  unfold z15.C at hp;simp only at hp;split at hp
  ·simp only [Option.some.injEq] at hp;subst hp;exact prim157
  ·simp at hp
 fn g fn h:=by simp [z15.C] at h
 loops g fn h:=by simp [z15.C] at h
theorem z15.sound:Sn z15.pack 108:=by
 intro vs p h;unfold z15.pack at h;split at h<;>cases h
 exact Ya Qd Qe rfl (Qb z14.sound Qi) z15.inlF ⟨Tryz.func108,rfl,by kernel_rfl⟩ (λ_=>noLoops rfl _ _ _ _) rfl (z15.link _) z14.hdec
theorem fun109:FunOK Tryz.prog 109 Tryz.f109 (ifun Tryz.f109).body:=⟨Tryz.func109,rfl,by kernel_rfl⟩
theorem z16.inlF:InlF Tryz.prog z16.C where
 prim g h hp:=by
  unfold z16.C at hp;simp only at hp;split at hp
  ·simp only [Option.some.injEq] at hp;subst hp;exact prim157
  ·simp at hp
 fn g fn h:=by simp [z16.C] at h
 loops g fn h:=by simp [z16.C] at h
theorem z16.sound:Sn z16.pack 109:=by
 intro vs p h;unfold z16.pack at h;split at h<;>cases h
 exact Ya Qd Qe rfl Qt z16.inlF fun109 (λ_=>noLoops rfl _ _ _ _) rfl (z16.link _) (by intro v r h;unfold z16.dec at h;split at h<;>cases h;exact ⟨rfl,rfl⟩)
theorem z17.sound:Sn z17.pack 232:=by
 intro vs p h;unfold z17.pack at h;split at h<;>cases h
 exact Qj Qd Qe rfl rfl rfl rfl Qt ⟨Tryz.func232,rfl,by kernel_rfl⟩ rfl (z17.link _) z10.hdec
theorem z18.sound:Sn z18.pack 198:=by
 intro vs p h;unfold z18.pack at h;split at h<;>cases h
 exact Qj Qd Qe rfl rfl rfl rfl (Qb z17.sound Qi) ⟨Tryz.func198,rfl,by kernel_rfl⟩ rfl (z18.link _) z10.hdec
theorem z19.l0_sound (hI:InlOK Tryz.prog z19.C λR=>z19.C.inlK 6):Ql z19.C 6 197 0 0 (Qf 0 (ifun Tryz.f197).body) z19.l0sh z19.l0pack:=by
 refine Qm λls p h=>?_
 unfold z19.l0pack at h;split at h<;>cases h
 rename_i a b c e g j m n q r s
 exact Qp hI (sh:=z19.l0sh) (so:=z19.l0sh) (F:=λR rec done x=>z19.l0P g j n rec done x) (enc:=λ(x':(Int×Int))=>Qa z19.l0sh [.i a,.i b,.i c,.i e,.i g,.i j,.i m,.i n,.i q,.i x'.1,.i x'.2]) [9,10] [9,10] (r,s) (by kernel_rfl) (by kernel_rfl) (λx=>by kernel_rfl) (λo=>by kernel_rfl) λR k d x'=>z19.l0_link R k d a b c e g j m n q (x'.1) (x'.2)
theorem z19.l2_sound (hI:InlOK Tryz.prog z19.C λR=>z19.C.inlK 6):Ql z19.C 6 197 2 0 (Qf 2 (ifun Tryz.f197).body) z19.l2sh z19.l2pack:=by
 refine Qm λls p h=>?_
 unfold z19.l2pack at h;split at h<;>cases h
 rename_i a b c e g j m n q r s
 exact Qp hI (sh:=z19.l2sh) (so:=z19.l2sh) (F:=λR rec done x=>z19.l2P g j m rec done x) (enc:=λ(x':(Int×Int))=>Qa z19.l2sh [.i a,.i b,.i c,.i e,.i g,.i j,.i m,.i n,.i x'.1,.i r,.i x'.2]) [8,10] [8,10] (q,s) (by kernel_rfl) (by kernel_rfl) (λx=>by kernel_rfl) (λo=>by kernel_rfl) λR k d x'=>z19.l2_link R k d a b c e g j m n (x'.1) r (x'.2)
theorem Qqn:Qn (ifun Tryz.f197).body=true:=by kernel_rfl
theorem z19.loopsT (hI:InlOK Tryz.prog z19.C λR=>z19.C.inlK 6):LoopsOK z19.C (λR=>z19.C.inlK 6) 197 0 (ifun Tryz.f197).body:=by
 intro id b hm st p hp
 obtain rfl:=Qo Qqn hm
 unfold z19.C at hp
 simp only at hp
 try split at hp
 all_goals first
  |(simp at hp;done)
  |(exfalso;omega)
  |exact z19.l0_sound hI st p hp
  |exact z19.l2_sound hI st p hp
theorem z19.hdec:Q5 z19.dec z19.enc:=by
 intro v r h
 unfold z19.dec at h;split at h<;>cases h
 exact ⟨rfl,rfl⟩
theorem z19.sound:Sn z19.pack 197:=by
 intro vs p h;unfold z19.pack at h;split at h<;>cases h
 exact Qw Qd Qe rfl rfl rfl (Qb z18.sound Qi) ⟨Tryz.func197,rfl,by kernel_rfl⟩ z19.loopsT rfl (z19.link _ _ _) z19.hdec
theorem z20.l0_sound (hI:InlOK Tryz.prog z20.C λR=>z20.C.inlK 6):Ql z20.C 6 155 0 0 (Qf 0 (ifun Tryz.f155).body) z20.l0sh z20.l0pack:=by
 refine Qm λls p h=>?_
 unfold z20.l0pack at h;split at h<;>cases h
 rename_i a b c e g j m
 exact Qp hI (sh:=z20.l0sh) (so:=z20.l0sh) (F:=λR rec done x=>z20.l0P a b rec done x) (enc:=λ(x':(Int×Int×J0))=>Qa z20.l0sh [.li a,.i b,.i c,.i x'.1,.i x'.2.1,.li j,.li x'.2.2]) [3,4,6] [3,4,6] (e,g,m) (by kernel_rfl) (by kernel_rfl) (λx=>by kernel_rfl) (λo=>by kernel_rfl) λR k d x'=>z20.l0_link R k d a b c (x'.1) (x'.2.1) j (x'.2.2)
theorem Qro:Qn (ifun Tryz.f155).body=true:=by kernel_rfl
theorem z20.loopsT (hI:InlOK Tryz.prog z20.C λR=>z20.C.inlK 6):LoopsOK z20.C (λR=>z20.C.inlK 6) 155 0 (ifun Tryz.f155).body:=by
 intro id b hm st p hp
 obtain rfl:=Qo Qro hm
 unfold z20.C at hp
 simp only at hp
 try split at hp
 all_goals first
  |(simp at hp;done)
  |(exfalso;omega)
  |exact z20.l0_sound hI st p hp
theorem z20.sound:Sn z20.pack 155:=by
 intro vs p h;unfold z20.pack at h;split at h<;>cases h
 exact Qw Qd Qe rfl rfl rfl (Qb z19.sound Qi) ⟨Tryz.func155,rfl,by kernel_rfl⟩ z20.loopsT rfl (z20.link _ _) (by intro v r h;unfold z20.dec at h;split at h<;>cases h;exact ⟨rfl,rfl⟩)
theorem z21.sound:Sn z21.pack 145:=by
 intro vs p h;unfold z21.pack at h;split at h<;>cases h
 exact Qj Qd Qe rfl rfl rfl rfl Qt ⟨Tryz.func145,rfl,by kernel_rfl⟩ rfl (z21.link _ _) z19.hdec
theorem z22.sound:Sn z22.pack 233:=by
 intro vs p h;unfold z22.pack at h;split at h<;>cases h
 exact Qj Qd Qe rfl rfl rfl rfl Qt ⟨Tryz.func233,rfl,by kernel_rfl⟩ rfl (z22.link _) z8.hdec
theorem z23.l0_sound (hI:InlOK Tryz.prog z23.C λR=>z23.C.inlK 6):Ql z23.C 6 203 0 0 (Qf 0 (ifun Tryz.f203).body) z23.l0sh z23.l0pack:=by
 refine Qm λls p h=>?_
 unfold z23.l0pack at h;split at h<;>cases h
 rename_i a b c e g j m q
 exact Qp hI (sh:=z23.l0sh) (so:=z23.l0sh) (F:=λR rec done x=>z23.l0P b c e g rec done x) (enc:=λ(x':(Int×J0))=>Qa z23.l0sh [.i a,.n b,.n c,.i e,.i g,.i x'.1,.li m,.li x'.2]) [5,7] [5,7] (j,q) (by kernel_rfl) (by kernel_rfl) (λx=>by kernel_rfl) (λo=>by kernel_rfl) λR k d x'=>z23.l0_link R k d a b c e g (x'.1) m (x'.2)
theorem Qua:Qn (ifun Tryz.f203).body=true:=by kernel_rfl
theorem z23.loopsT (hI:InlOK Tryz.prog z23.C λR=>z23.C.inlK 6):LoopsOK z23.C (λR=>z23.C.inlK 6) 203 0 (ifun Tryz.f203).body:=by
 intro id b hm st p hp
 obtain rfl:=Qo Qua hm
 unfold z23.C at hp
 simp only at hp
 try split at hp
 all_goals first
  |(simp at hp;done)
  |(exfalso;omega)
  |exact z23.l0_sound hI st p hp
theorem z23.loops109 (hI:InlOK Tryz.prog z23.C λR=>z23.C.inlK 1) (base:Nat):LoopsOK z23.C (λR=>z23.C.inlK 1) 109 base (ifun Tryz.f109).body:=by
 intro id b hm st p hp
 exfalso
 unfold z23.C at hp
 simp only at hp
 try split at hp
 all_goals first|(simp at hp;done)|omega
theorem z23.inlF:InlF Tryz.prog z23.C where
 prim g h hp:=by
  unfold z23.C at hp;simp only at hp;split at hp
  ·simp only [Option.some.injEq] at hp;subst hp;exact prim157
  ·simp at hp
 fn g fn h:=by
  unfold z23.C at h;simp only at h;split at h
  ·simp only [Option.some.injEq] at h;subst h;exact ⟨_,_,fun109,rfl⟩
  ·simp at h
 loops g fn h:=by
  unfold z23.C at h;simp only at h;split at h
  ·simp only [Option.some.injEq] at h;subst h;exact λhI base=>z23.loops109 hI base
  ·simp at h
theorem z23.hdec:Q5 z23.dec z23.enc:=by
 intro v r h
 unfold z23.dec at h;split at h<;>cases h
 exact ⟨rfl,rfl⟩
theorem z23.sound:Sn z23.pack 203:=by
 intro vs p h;unfold z23.pack at h;split at h<;>cases h
 exact Ya Qd Qe rfl (Qb z22.sound (Qb z15.sound Qi)) z23.inlF ⟨Tryz.func203,rfl,by kernel_rfl⟩ z23.loopsT rfl (z23.link _ _) z23.hdec
theorem z24.l0_sound (hI:InlOK Tryz.prog z24.C λR=>z24.C.inlK 0):Ql z24.C 0 199 0 2 (Qf 0 (ifun Tryz.f199).body) z24.l0sh z24.l0pack:=by
 refine Qm λls p h=>?_
 unfold z24.l0pack at h;split at h<;>cases h
 rename_i a b c e g j m n
 exact Qp hI (sh:=z24.l0sh) (so:=z24.l0sh) (F:=λR rec done x=>z24.l0P a b c rec done x) (enc:=λ(x':(Int×J0))=>Qa z24.l0sh [.i a,.li b,.i c,.i x'.1,.li g,.li j,.li m,.li x'.2]) [3,7] [3,7] (e,n) (by kernel_rfl) (by kernel_rfl) (λx=>by kernel_rfl) (λo=>by kernel_rfl) λR k d x'=>z24.l0_link R k d a b c (x'.1) g j m (x'.2)
theorem z24.l0a_sound (hI:InlOK Tryz.prog z24.C λR=>z24.C.inlK 0):Ql z24.C 0 199 0 4 (Qf 0 (ifun Tryz.f199).body) z24.l0ash z24.l0apack:=by
 refine Qm λls p h=>?_
 unfold z24.l0apack at h;split at h<;>cases h
 rename_i a b c e g j m n q r
 exact Qp hI (sh:=z24.l0ash) (so:=z24.l0ash) (F:=λR rec done x=>z24.l0aP a b c rec done x) (enc:=λ(x':(Int×J0))=>Qa z24.l0ash [.i a,.li b,.i c,.i x'.1,.li g,.li j,.li m,.li n,.li q,.li x'.2]) [3,9] [3,9] (e,r) (by kernel_rfl) (by kernel_rfl) (λx=>by kernel_rfl) (λo=>by kernel_rfl) λR k d x'=>z24.l0a_link R k d a b c (x'.1) g j m n q (x'.2)
theorem z24.l0b3_sound (hI:InlOK Tryz.prog z24.C λR=>z24.C.inlK 0):Ql z24.C 0 201 0 7 (Qf 0 (ifun Tryz.f201).body) z24.l0b3sh z24.l0b3pack:=by
 refine Qm λls p h=>?_
 unfold z24.l0b3pack at h;split at h<;>cases h
 rename_i a b c e g j m q r s t u v w y z A
 exact Qp hI (sh:=z24.l0b3sh) (so:=z24.l0b3sh) (F:=λR rec done x=>z24.l0b3P a b g r s t z rec done x) (enc:=λ(x':(Int×Int×Int×J0))=>Qa z24.l0b3sh [.n a,.n b,.n c,.n e,.i g,.i j,.i x'.1,.i x'.2.1,.n r,.n s,.i t,.i x'.2.2.1,.li v,.li w,.li x'.2.2.2,.li z,.li A]) [6,7,11,14] [6,7,11,14] (m,q,u,y) (by kernel_rfl) (by kernel_rfl) (λx=>by kernel_rfl) (λo=>by kernel_rfl) λR k d x'=>z24.l0b3_link R k d a b c e g j (x'.1) (x'.2.1) r s t (x'.2.2.1) v w (x'.2.2.2) z A
theorem z24.l0b4_sound (hI:InlOK Tryz.prog z24.C λR=>z24.C.inlK 0):Ql z24.C 0 202 0 7 (Qf 0 (ifun Tryz.f202).body) z24.l0b4sh z24.l0b4pack:=by
 refine Qm λls p h=>?_
 unfold z24.l0b4pack at h;split at h<;>cases h
 rename_i a b c e g j m q r s t u v w
 exact Qp hI (sh:=z24.l0b4sh) (so:=z24.l0b4sh) (F:=λR rec done x=>z24.l0b4P a b j m q v rec done x) (enc:=λ(x':(Int×Int×J0))=>Qa z24.l0b4sh [.n a,.n b,.n c,.n e,.i x'.1,.n j,.n m,.i q,.i x'.2.1,.li s,.li t,.li x'.2.2,.li v,.li w]) [4,8,11] [4,8,11] (g,r,u) (by kernel_rfl) (by kernel_rfl) (λx=>by kernel_rfl) (λo=>by kernel_rfl) λR k d x'=>z24.l0b4_link R k d a b c e (x'.1) j m q (x'.2.1) s t (x'.2.2) v w
theorem z24.l2_sound (hI:InlOK Tryz.prog z24.C λR=>z24.C.inlK 6):Ql z24.C 6 156 2 0 (Qf 2 (ifun Tryz.f156).body) z24.l2sh z24.l2pack:=by
 refine Qm λls p h=>?_
 unfold z24.l2pack at h;split at h<;>cases h
 rename_i a b c e g j m q r s t u v
 exact Qp hI (sh:=z24.l2sh) (so:=z24.l2sh) (F:=λR rec done x=>z24.l2P a b g j u rec done x) (enc:=λ(x':(Int×Int×J0))=>Qa z24.l2sh [.n a,.n b,.i c,.i e,.n g,.n j,.i x'.1,.i x'.2.1,.li r,.li s,.li x'.2.2,.li u,.li v]) [6,7,10] [6,7,10] (m,q,t) (by kernel_rfl) (by kernel_rfl) (λx=>by kernel_rfl) (λo=>by kernel_rfl) λR k d x'=>z24.l2_link R k d a b c e g j (x'.1) (x'.2.1) r s (x'.2.2) u v
theorem z24.l0aa_sound (hI:InlOK Tryz.prog z24.C λR=>z24.C.inlK 6):Ql z24.C 6 156 0 0 (Qf 0 (ifun Tryz.f156).body) z24.l0aash z24.l0aapack:=by
 refine Qm λls p h=>?_
 unfold z24.l0aapack at h;split at h<;>cases h
 rename_i a b c e g j m q r
 exact Qp hI (sh:=z24.l0aash) (so:=z24.l0aash) (F:=λR rec done x=>z24.l0aaP a b q rec done x) (enc:=λ(x':(Int×J0×J0))=>Qa z24.l0aash [.n a,.n b,.i c,.i x'.1,.li g,.li j,.li x'.2.1,.li q,.li x'.2.2]) [3,6,8] [3,6,8] (e,m,r) (by kernel_rfl) (by kernel_rfl) (λx=>by kernel_rfl) (λo=>by kernel_rfl) λR k d x'=>z24.l0aa_link R k d a b c (x'.1) g j (x'.2.1) q (x'.2.2)
theorem Qsk:Qn (ifun Tryz.f156).body=true:=by kernel_rfl
theorem Qoz:Qn (ifun Tryz.f199).body=true:=by kernel_rfl
theorem Qva:Qn (ifun Tryz.f201).body=true:=by kernel_rfl
theorem Qo6:Qn (ifun Tryz.f202).body=true:=by kernel_rfl
theorem z24.loopsT (hI:InlOK Tryz.prog z24.C λR=>z24.C.inlK 6):LoopsOK z24.C (λR=>z24.C.inlK 6) 156 0 (ifun Tryz.f156).body:=by
 intro id b hm st p hp
 obtain rfl:=Qo Qsk hm
 unfold z24.C at hp
 simp only at hp
 try split at hp
 all_goals first
  |(simp at hp;done)
  |(exfalso;omega)
  |exact z24.l2_sound hI st p hp
  |exact z24.l0aa_sound hI st p hp
theorem z24.loops199 (hI:InlOK Tryz.prog z24.C λR=>z24.C.inlK 0) (base:Nat):LoopsOK z24.C (λR=>z24.C.inlK 0) 199 base (ifun Tryz.f199).body:=by
 intro id b hm st p hp
 obtain rfl:=Qo Qoz hm
 unfold z24.C at hp
 simp only at hp
 by_cases hb2:base=2
 ·subst hb2
  try split at hp
  all_goals first
   |(simp at hp;done)
   |(exfalso;omega)
   |exact z24.l0_sound hI st p hp
 by_cases hb4:base=4
 ·subst hb4
  try split at hp
  all_goals first
   |(simp at hp;done)
   |(exfalso;omega)
   |exact z24.l0a_sound hI st p hp
 exfalso
 try split at hp
 all_goals first|(simp at hp;done)|omega
theorem z24.loops200 (hI:InlOK Tryz.prog z24.C λR=>z24.C.inlK 0) (base:Nat):LoopsOK z24.C (λR=>z24.C.inlK 0) 200 base (ifun Tryz.f200).body:=by
 intro id b hm st p hp
 exfalso
 unfold z24.C at hp
 simp only at hp
 try split at hp
 all_goals first|(simp at hp;done)|omega
theorem z24.loops201 (hI:InlOK Tryz.prog z24.C λR=>z24.C.inlK 0) (base:Nat):LoopsOK z24.C (λR=>z24.C.inlK 0) 201 base (ifun Tryz.f201).body:=by
 intro id b hm st p hp
 obtain rfl:=Qo Qva hm
 unfold z24.C at hp
 simp only at hp
 try split at hp
 all_goals first
  |(simp at hp;done)
  |(exfalso;omega)
  |exact z24.l0b3_sound hI st p hp
theorem z24.loops202 (hI:InlOK Tryz.prog z24.C λR=>z24.C.inlK 0) (base:Nat):LoopsOK z24.C (λR=>z24.C.inlK 0) 202 base (ifun Tryz.f202).body:=by
 intro id b hm st p hp
 obtain rfl:=Qo Qo6 hm
 unfold z24.C at hp
 simp only at hp
 try split at hp
 all_goals first
  |(simp at hp;done)
  |(exfalso;omega)
  |exact z24.l0b4_sound hI st p hp
theorem z24.inlF:InlF Tryz.prog z24.C where
 prim g h hp:=by simp [z24.C] at hp
 fn g fn h:=by
  unfold z24.C at h;simp only at h;split at h
  ·simp only [Option.some.injEq] at h;subst h;exact ⟨_,_,⟨Tryz.func199,rfl,by kernel_rfl⟩,rfl⟩
  ·simp only [Option.some.injEq] at h;subst h;exact ⟨_,_,⟨Tryz.func200,rfl,by kernel_rfl⟩,rfl⟩
  ·simp only [Option.some.injEq] at h;subst h;exact ⟨_,_,⟨Tryz.func201,rfl,by kernel_rfl⟩,rfl⟩
  ·simp only [Option.some.injEq] at h;subst h;exact ⟨_,_,⟨Tryz.func202,rfl,by kernel_rfl⟩,rfl⟩
  ·simp at h
 loops g fn h:=by
  unfold z24.C at h;simp only at h;split at h
  ·simp only [Option.some.injEq] at h;subst h;exact λhI base=>z24.loops199 hI base
  ·simp only [Option.some.injEq] at h;subst h;exact λhI base=>z24.loops200 hI base
  ·simp only [Option.some.injEq] at h;subst h;exact λhI base=>z24.loops201 hI base
  ·simp only [Option.some.injEq] at h;subst h;exact λhI base=>z24.loops202 hI base
  ·simp at h
theorem z24.sound:Sn z24.pack 156:=by
 intro vs p h;unfold z24.pack at h;split at h<;>cases h
 exact Ya Qd Qe rfl (Qb z18.sound (Qb z21.sound (Qb z0.sound (Qb z1.sound (Qb z19.sound (Qb z15.sound (Qb z23.sound (Qb z16.sound Qi)))))))) z24.inlF ⟨Tryz.func156,rfl,by kernel_rfl⟩ z24.loopsT rfl (z24.link _ _) (by intro v r h;unfold z24.dec at h;split at h<;>cases h;exact ⟨rfl,rfl⟩)
theorem z25.sound:Sn z25.pack 107:=by
 intro vs p h;unfold z25.pack at h;split at h<;>cases h
 exact Qj Qd Qe rfl rfl rfl rfl (Qb z8.sound (Qb z13.sound (Qb z16.sound (Qb z20.sound (Qb z15.sound (Qb z24.sound Qi)))))) ⟨Tryz.func107,rfl,by kernel_rfl⟩ rfl (z25.link _ _) (by intro v r h;unfold z25.dec at h;split at h<;>cases h;exact ⟨rfl,rfl⟩)
theorem z26.l0_sound (hI:InlOK Tryz.prog z26.C λR=>z26.C.inlK 6):Ql z26.C 6 110 0 0 (Qf 0 (ifun Tryz.f110).body) z26.l0sh z26.l0pack:=by
 refine Qm λls p h=>?_
 unfold z26.l0pack at h;split at h<;>cases h
 rename_i a b c e g
 exact Qp hI (sh:=z26.l0sh) (so:=z26.l0sh) (F:=λR rec done x=>z26.l0P b rec done x) (enc:=λ(x':(Int×Int×J0))=>Qa z26.l0sh [.i x'.1,.i b,.s c,.i x'.2.1,.li x'.2.2]) [0,3,4] [0,3,4] (a,e,g) (by kernel_rfl) (by kernel_rfl) (λx=>by kernel_rfl) (λo=>by kernel_rfl) λR k d x'=>z26.l0_link R k d (x'.1) b c (x'.2.1) (x'.2.2)
theorem Qu5:Qn (ifun Tryz.f110).body=true:=by kernel_rfl
theorem z26.loopsT (hI:InlOK Tryz.prog z26.C λR=>z26.C.inlK 6):LoopsOK z26.C (λR=>z26.C.inlK 6) 110 0 (ifun Tryz.f110).body:=by
 intro id b hm st p hp
 obtain rfl:=Qo Qu5 hm
 unfold z26.C at hp
 simp only at hp
 try split at hp
 all_goals first
  |(simp at hp;done)
  |(exfalso;omega)
  |exact z26.l0_sound hI st p hp
theorem z26.hdec:Q5 z28.dec z26.enc:=by
 intro v r h
 unfold z28.dec at h;split at h<;>cases h
 exact ⟨rfl,rfl⟩
theorem z26.sound:Sn z26.pack 110:=by
 intro vs p h;unfold z26.pack at h;split at h<;>cases h
 exact Qw Qd Qe rfl rfl rfl Qt ⟨Tryz.func110,rfl,by kernel_rfl⟩ z26.loopsT rfl (z26.link _ _) z26.hdec
theorem z27.l2_sound (hI:InlOK Tryz.prog z27.C λR=>z27.C.inlK 6):Ql z27.C 6 55 2 0 (Qf 2 (ifun Tryz.f55).body) z27.l2sh z27.l2pack:=by
 refine Qm λls p h=>?_
 unfold z27.l2pack at h;split at h<;>cases h
 rename_i a b c e g j m n
 exact Qp hI (sh:=z27.l2sh) (so:=z27.l2sh) (F:=λR rec done x=>z27.l2P c e rec done x) (enc:=λ(x':(Int×Int))=>Qa z27.l2sh [.s a,.i x'.1,.li c,.i e,.i x'.2,.li j,.ls m,.li n]) [1,4] [1,4] (b,g) (by kernel_rfl) (by kernel_rfl) (λx=>by kernel_rfl) (λo=>by kernel_rfl) λR k d x'=>z27.l2_link R k d a (x'.1) c e (x'.2) j m n
theorem z27.l0_sound (hI:InlOK Tryz.prog z27.C λR=>z27.C.inlK 6):Ql z27.C 6 55 0 0 (Qf 0 (ifun Tryz.f55).body) z27.l0sh z27.l0pack:=by
 refine Qm λls p h=>?_
 unfold z27.l0pack at h;split at h<;>cases h
 rename_i a b c
 exact Qp hI (sh:=z27.l0sh) (so:=z27.l0sh) (F:=λR rec done x=>z27.l0P rec done x) (enc:=λ(x':(J0×(List J1)))=>Qa z27.l0sh [.s a,.li x'.1,.ls x'.2]) [1,2] [1,2] (b,c) (by kernel_rfl) (by kernel_rfl) (λx=>by kernel_rfl) (λo=>by kernel_rfl) λR k d x'=>z27.l0_link R k d a (x'.1) (x'.2)
theorem z27.l4_sound (hI:InlOK Tryz.prog z27.C λR=>z27.C.inlK 6):Ql z27.C 6 55 4 0 (Qf 4 (ifun Tryz.f55).body) z27.l4sh z27.l4pack:=by
 refine Qm λls p h=>?_
 unfold z27.l4pack at h;split at h<;>cases h
 rename_i a b c e
 exact Qp hI (sh:=z27.l4sh) (so:=z27.l4sh) (F:=λR rec done x=>z27.l4P c rec done x) (enc:=λ(x':(Int×J0))=>Qa z27.l4sh [.s a,.i x'.1,.ls c,.li x'.2]) [1,3] [1,3] (b,e) (by kernel_rfl) (by kernel_rfl) (λx=>by kernel_rfl) (λo=>by kernel_rfl) λR k d x'=>z27.l4_link R k d a (x'.1) c (x'.2)
theorem Qsd:Qn (ifun Tryz.f55).body=true:=by kernel_rfl
theorem fun80:FunOK Tryz.prog 80 Tryz.f80 (ifun Tryz.f80).body:=⟨Tryz.func80,rfl,by kernel_rfl⟩
theorem fun78:FunOK Tryz.prog 78 Tryz.f78 (ifun Tryz.f78).body:=⟨Tryz.func78,rfl,by kernel_rfl⟩
theorem z27.loopsT (hI:InlOK Tryz.prog z27.C λR=>z27.C.inlK 6):LoopsOK z27.C (λR=>z27.C.inlK 6) 55 0 (ifun Tryz.f55).body:=by
 intro id b hm st p hp
 obtain rfl:=Qo Qsd hm
 unfold z27.C at hp
 simp only at hp
 try split at hp
 all_goals first
  |(simp at hp;done)
  |(exfalso;omega)
  |exact z27.l2_sound hI st p hp
  |exact z27.l0_sound hI st p hp
  |exact z27.l4_sound hI st p hp
theorem z27.loops80 (hI:InlOK Tryz.prog z27.C λR=>z27.C.inlK 0) (base:Nat):LoopsOK z27.C (λR=>z27.C.inlK 0) 80 base (ifun Tryz.f80).body:=by
 intro id b hm st p hp
 exfalso
 unfold z27.C at hp
 simp only at hp
 try split at hp
 all_goals first|(simp at hp;done)|omega
theorem z27.loops78 (hI:InlOK Tryz.prog z27.C λR=>z27.C.inlK 1) (base:Nat):LoopsOK z27.C (λR=>z27.C.inlK 1) 78 base (ifun Tryz.f78).body:=by
 intro id b hm st p hp
 exfalso
 unfold z27.C at hp
 simp only at hp
 try split at hp
 all_goals first|(simp at hp;done)|omega
theorem prim135:SoundP Tryz.prog 135 (copyP 159):=Qte
theorem z27.inlF:InlF Tryz.prog z27.C where
 prim g h hp:=by
  unfold z27.C at hp;simp only at hp;split at hp
  ·simp only [Option.some.injEq] at hp;subst hp;exact prim135
  ·simp at hp
 fn g fn h:=by
  unfold z27.C at h;simp only at h;split at h
  ·simp only [Option.some.injEq] at h;subst h;exact ⟨_,_,fun80,rfl⟩
  ·simp only [Option.some.injEq] at h;subst h;exact ⟨_,_,fun78,rfl⟩
  ·simp at h
 loops g fn h:=by
  unfold z27.C at h;simp only at h;split at h
  ·simp only [Option.some.injEq] at h;subst h;exact λhI base=>z27.loops80 hI base
  ·simp only [Option.some.injEq] at h;subst h;exact λhI base=>z27.loops78 hI base
  ·simp at h
theorem z27.sound:Sn z27.pack 55:=by
 intro vs p h;unfold z27.pack at h;split at h<;>cases h
 exact Ya Qd Qe rfl (Qb z8.sound (Qb z15.sound (Qb z25.sound (Qb z16.sound (Qb z26.sound Qi))))) z27.inlF ⟨Tryz.func55,rfl,by kernel_rfl⟩ z27.loopsT rfl (z27.link _) z26.hdec
theorem z28.sound:Sn z28.pack 13:=by
 intro vs p h;unfold z28.pack at h;split at h<;>cases h
 exact Qj Qd Qe rfl rfl rfl rfl (Qb z27.sound Qi) ⟨Tryz.func13,rfl,by kernel_rfl⟩ rfl (z28.link _ _) z26.hdec
theorem z29.sound:Sn z29.pack 16:=by
 intro vs p h;unfold z29.pack at h;split at h<;>cases h
 exact Qj Qd Qe rfl rfl rfl rfl (Qb z8.sound Qi) ⟨Tryz.func16,rfl,by kernel_rfl⟩ rfl (z29.link _ _) z10.hdec
theorem z30.hdec:Q5 z41.dec z30.enc:=by
 intro v r h
 unfold z41.dec at h;split at h<;>cases h
 exact ⟨rfl,rfl⟩
theorem z30.sound:Sn z30.pack 52:=by
 intro vs p h;unfold z30.pack at h;split at h<;>cases h
 exact Qj Qd Qe rfl rfl rfl rfl (Qb z8.sound Qi) ⟨Tryz.func52,rfl,by kernel_rfl⟩ rfl (z30.link _ _) z30.hdec
theorem z31.sound:Sn z31.pack 91:=by
 intro vs p h;unfold z31.pack at h;split at h<;>cases h
 exact Qj Qd Qe rfl rfl rfl rfl Qt ⟨Tryz.func91,rfl,by kernel_rfl⟩ rfl (z31.link _ _) z8.hdec
theorem z32.hdec:Q5 z33.dec z32.enc:=by
 intro v r h
 unfold z33.dec at h;split at h<;>cases h
 exact ⟨rfl,rfl⟩
theorem z32.sound:Sn z32.pack 204:=by
 intro vs p h;unfold z32.pack at h;split at h<;>cases h
 exact Qj Qd Qe rfl rfl rfl rfl (Qb z31.sound Qi) ⟨Tryz.func204,rfl,by kernel_rfl⟩ rfl (z32.link _ _) z32.hdec
theorem z33.sound:Sn z33.pack 161:=by
 intro vs p h;unfold z33.pack at h;split at h<;>cases h
 exact Qj Qd Qe rfl rfl rfl rfl (Qb z32.sound Qi) ⟨Tryz.func161,rfl,by kernel_rfl⟩ rfl (z33.link _ _) z32.hdec
theorem z34.sound:Sn z34.pack 103:=by
 intro vs p h;unfold z34.pack at h;split at h<;>cases h
 exact Qj Qd Qe rfl rfl rfl rfl Qt ⟨Tryz.func103,rfl,by kernel_rfl⟩ rfl (z34.link _ _) (by intro v r h;unfold z34.dec at h;split at h<;>cases h;exact ⟨rfl,rfl⟩)
theorem z35.l0_sound (hI:InlOK Tryz.prog z35.C λR=>z35.C.inlK 6):Ql z35.C 6 53 0 0 (Qf 0 (ifun Tryz.f53).body) z35.l0sh z35.l0pack:=by
 refine Qm λls p h=>?_
 unfold z35.l0pack at h;split at h<;>cases h
 rename_i a b c e g j m
 exact Qp hI (sh:=z35.l0sh) (so:=z35.l0sh) (F:=λR rec done x=>z35.l0P b e g rec done x) (enc:=λ(x':(Int×Int×J0))=>Qa z35.l0sh [.i x'.1,.i b,.i x'.2.1,.li e,.li g,.li j,.li x'.2.2]) [0,2,6] [0,2,6] (a,c,m) (by kernel_rfl) (by kernel_rfl) (λx=>by kernel_rfl) (λo=>by kernel_rfl) λR k d x'=>z35.l0_link R k d (x'.1) b (x'.2.1) e g j (x'.2.2)
theorem Qod:Qn (ifun Tryz.f53).body=true:=by kernel_rfl
theorem z35.loopsT (hI:InlOK Tryz.prog z35.C λR=>z35.C.inlK 6):LoopsOK z35.C (λR=>z35.C.inlK 6) 53 0 (ifun Tryz.f53).body:=by
 intro id b hm st p hp
 obtain rfl:=Qo Qod hm
 unfold z35.C at hp
 simp only at hp
 try split at hp
 all_goals first
  |(simp at hp;done)
  |(exfalso;omega)
  |exact z35.l0_sound hI st p hp
theorem z35.sound:Sn z35.pack 53:=by
 intro vs p h;unfold z35.pack at h;split at h<;>cases h
 exact Qw Qd Qe rfl rfl rfl (Qb z34.sound (Qb z0.sound (Qb z14.sound Qi))) ⟨Tryz.func53,rfl,by kernel_rfl⟩ z35.loopsT rfl (z35.link _ _) z14.hdec
theorem z36.l0a_sound (hI:InlOK Tryz.prog z36.C λR=>z36.C.inlK 0):Ql z36.C 0 237 0 4 (Qf 0 (ifun Tryz.f237).body) z36.l0ash z36.l0apack:=by
 refine Qm λls p h=>?_
 unfold z36.l0apack at h;split at h<;>cases h
 rename_i a b c e g j m q r s t
 exact Qp hI (sh:=z36.l0ash) (so:=z36.l0ash) (F:=λR rec done x=>z36.l0aP a b c g j rec done x) (enc:=λ(x':(Int×Int×J0))=>Qa z36.l0ash [.i a,.n b,.n c,.i x'.1,.li g,.i j,.i x'.2.1,.li q,.li r,.li x'.2.2,.li t]) [3,6,9] [3,6,9] (e,m,s) (by kernel_rfl) (by kernel_rfl) (λx=>by kernel_rfl) (λo=>by kernel_rfl) λR k d x'=>z36.l0a_link R k d a b c (x'.1) g j (x'.2.1) q r (x'.2.2) t
theorem z36.l0_sound (hI:InlOK Tryz.prog z36.C λR=>z36.C.inlK 6):Ql z36.C 6 206 0 0 (Qf 0 (ifun Tryz.f206).body) z36.l0sh z36.l0pack:=by
 refine Qm λls p h=>?_
 unfold z36.l0pack at h;split at h<;>cases h
 rename_i a b c e g j
 exact Qp hI (sh:=z36.l0sh) (so:=z36.l0sh) (F:=λR rec done x=>z36.l0P a b e rec done x) (enc:=λ(x':(Int×J0))=>Qa z36.l0sh [.li a,.i b,.i x'.1,.li e,.li g,.li x'.2]) [2,5] [2,5] (c,j) (by kernel_rfl) (by kernel_rfl) (λx=>by kernel_rfl) (λo=>by kernel_rfl) λR k d x'=>z36.l0_link R k d a b (x'.1) e g (x'.2)
theorem Qtu:Qn (ifun Tryz.f206).body=true:=by kernel_rfl
theorem Qvx:Qn (ifun Tryz.f237).body=true:=by kernel_rfl
theorem z36.loopsT (hI:InlOK Tryz.prog z36.C λR=>z36.C.inlK 6):LoopsOK z36.C (λR=>z36.C.inlK 6) 206 0 (ifun Tryz.f206).body:=by
 intro id b hm st p hp
 obtain rfl:=Qo Qtu hm
 unfold z36.C at hp
 simp only at hp
 try split at hp
 all_goals first
  |(simp at hp;done)
  |(exfalso;omega)
  |exact z36.l0_sound hI st p hp
theorem z36.loops237 (hI:InlOK Tryz.prog z36.C λR=>z36.C.inlK 0) (base:Nat):LoopsOK z36.C (λR=>z36.C.inlK 0) 237 base (ifun Tryz.f237).body:=by
 intro id b hm st p hp
 obtain rfl:=Qo Qvx hm
 unfold z36.C at hp
 simp only at hp
 try split at hp
 all_goals first
  |(simp at hp;done)
  |(exfalso;omega)
  |exact z36.l0a_sound hI st p hp
theorem z36.inlF:InlF Tryz.prog z36.C where
 prim g h hp:=by simp [z36.C] at hp
 fn g fn h:=by
  unfold z36.C at h;simp only at h;split at h
  ·simp only [Option.some.injEq] at h;subst h;exact ⟨_,_,⟨Tryz.func237,rfl,by kernel_rfl⟩,rfl⟩
  ·simp at h
 loops g fn h:=by
  unfold z36.C at h;simp only at h;split at h
  ·simp only [Option.some.injEq] at h;subst h;exact λhI base=>z36.loops237 hI base
  ·simp at h
theorem z36.sound:Sn z36.pack 206:=by
 intro vs p h;unfold z36.pack at h;split at h<;>cases h
 exact Ya Qd Qe rfl (Qb z21.sound (Qb z0.sound (Qb z14.sound Qi))) z36.inlF ⟨Tryz.func206,rfl,by kernel_rfl⟩ z36.loopsT rfl (z36.link _ _) z14.hdec
theorem z37.l2_sound (hI:InlOK Tryz.prog z37.C λR=>z37.C.inlK 6):Ql z37.C 6 162 2 0 (Qf 2 (ifun Tryz.f162).body) z37.l2sh z37.l2pack:=by
 refine Qm λls p h=>?_
 unfold z37.l2pack at h;split at h<;>cases h
 rename_i a b c e g j m q
 exact Qp hI (sh:=z37.l2sh) (so:=z37.l2sh) (F:=λR rec done x=>z37.l2P m rec done x) (enc:=λ(x':(Int×Nat))=>Qa z37.l2sh [.s a,.i b,.i c,.i x'.1,.li g,.li j,.s m,.n x'.2]) [3,7] [3,7] (e,q) (by kernel_rfl) (by kernel_rfl) (λx=>by kernel_rfl) (λo=>by kernel_rfl) λR k d x'=>z37.l2_link R k d a b c (x'.1) g j m (x'.2)
theorem z37.l2a_sound (hI:InlOK Tryz.prog z37.C λR=>z37.C.inlK 6):Ql z37.C 6 162 2 0 (Qf 2 (ifun Tryz.f162).body) z37.l2ash z37.l2apack:=by
 refine Qm λls p h=>?_
 unfold z37.l2apack at h;split at h<;>cases h
 rename_i a c e g j m q r t u
 exact Qp hI (sh:=z37.l2ash) (so:=z37.l2ash) (F:=λR rec done x=>z37.l2aP t rec done x) (enc:=λ(x':(Int×Nat))=>Qa z37.l2ash [.s a,.i c,.i e,.i x'.1,.i j,.b m,.li q,.li r,.s t,.n x'.2]) [3,9] [3,9] (g,u) (by kernel_rfl) (by kernel_rfl) (λx=>by kernel_rfl) (λo=>by kernel_rfl) λR k d x'=>z37.l2a_link R k d a c e (x'.1) j m q r t (x'.2)
theorem z37.l0_sound (hI:InlOK Tryz.prog z37.C λR=>z37.C.inlK 6):Ql z37.C 6 162 0 0 (Qf 0 (ifun Tryz.f162).body) z37.l0sh z37.l0pack:=by
 refine Qm λls p h=>?_
 unfold z37.l0pack at h;split at h<;>cases h
 rename_i a c e g j
 exact Qp hI (sh:=z37.l0sh) (so:=z37.l0sh) (F:=λR rec done x=>z37.l0P rec done x) (enc:=λ(x':(J1×Bool×J0))=>Qa z37.l0sh [.s x'.1,.i c,.b x'.2.1,.li g,.li x'.2.2]) [0,2,4] [0,2,4] (a,e,j) (by kernel_rfl) (by kernel_rfl) (λx=>by kernel_rfl) (λo=>by kernel_rfl) λR k d x'=>z37.l0_link R k d (x'.1) c (x'.2.1) g (x'.2.2)
theorem Qpp:Qn (ifun Tryz.f162).body=true:=by kernel_rfl
theorem z37.loopsT (hI:InlOK Tryz.prog z37.C λR=>z37.C.inlK 6):LoopsOK z37.C (λR=>z37.C.inlK 6) 162 0 (ifun Tryz.f162).body:=by
 intro id b hm st p hp
 obtain rfl:=Qo Qpp hm
 unfold z37.C at hp
 simp only at hp
 try split at hp
 all_goals first
  |(simp at hp;done)
  |(exfalso;omega)
  |exact (orP_some hp).elim (λh=>z37.l2_sound hI st p h) (λh=>z37.l2a_sound hI st p h)
  |exact z37.l0_sound hI st p hp
theorem z37.sound:Sn z37.pack 162:=by
 intro vs p h;unfold z37.pack at h;split at h<;>cases h
 exact Qw Qd Qe rfl rfl rfl (Qb z3.sound (Qb z15.sound (Qb z36.sound (Qb z35.sound Qi)))) ⟨Tryz.func162,rfl,by kernel_rfl⟩ z37.loopsT rfl (z37.link _) z23.hdec
theorem z38.hdec:Q5 z38.dec z38.enc:=by
 intro v r h
 unfold z38.dec at h;split at h<;>cases h
 exact ⟨rfl,rfl⟩
theorem z38.sound:Sn z38.pack 117:=by
 intro vs p h;unfold z38.pack at h;split at h<;>cases h
 exact Qj Qd Qe rfl rfl rfl rfl (Qb z33.sound (Qb z37.sound (Qb z8.sound (Qb z30.sound Qi)))) ⟨Tryz.func117,rfl,by kernel_rfl⟩ rfl (z38.link _) z38.hdec
theorem z39.l0_sound (hI:InlOK Tryz.prog z39.C λR=>z39.C.inlK 6):Ql z39.C 6 54 0 0 (Qf 0 (ifun Tryz.f54).body) z39.l0sh z39.l0pack:=by
 refine Qm λls p h=>?_
 unfold z39.l0pack at h;split at h<;>cases h
 rename_i a c e g j m n q
 exact Qp hI (sh:=z39.l0sh) (so:=z39.l0sh) (F:=λR rec done x=>z39.l0P e j m rec done x) (enc:=λ(x':(Int×Int×J0))=>Qa z39.l0sh [.b a,.i x'.1,.i e,.i x'.2.1,.li j,.li m,.li n,.li x'.2.2]) [1,3,7] [1,3,7] (c,g,q) (by kernel_rfl) (by kernel_rfl) (λx=>by kernel_rfl) (λo=>by kernel_rfl) λR k d x'=>z39.l0_link R k d a (x'.1) e (x'.2.1) j m n (x'.2.2)
theorem Qss:Qn (ifun Tryz.f54).body=true:=by kernel_rfl
theorem z39.loopsT (hI:InlOK Tryz.prog z39.C λR=>z39.C.inlK 6):LoopsOK z39.C (λR=>z39.C.inlK 6) 54 0 (ifun Tryz.f54).body:=by
 intro id b hm st p hp
 obtain rfl:=Qo Qss hm
 unfold z39.C at hp
 simp only at hp
 try split at hp
 all_goals first
  |(simp at hp;done)
  |(exfalso;omega)
  |exact z39.l0_sound hI st p hp
theorem z39.sound:Sn z39.pack 54:=by
 intro vs p h;unfold z39.pack at h;split at h<;>cases h
 exact Qw Qd Qe rfl rfl rfl (Qb z13.sound (Qb z34.sound (Qb z1.sound (Qb z14.sound Qi)))) ⟨Tryz.func54,rfl,by kernel_rfl⟩ z39.loopsT rfl (z39.link _ _) (by intro v r h;unfold z39.dec at h;split at h<;>cases h;exact ⟨rfl,rfl⟩)
theorem z40.sound:Sn z40.pack 12:=by
 intro vs p h;unfold z40.pack at h;split at h<;>cases h
 exact Qj Qd Qe rfl rfl rfl rfl (Qb z35.sound (Qb z30.sound (Qb z39.sound Qi))) ⟨Tryz.func12,rfl,by kernel_rfl⟩ rfl (z40.link _ _ _ _) z30.hdec
theorem z41.sound:Sn z41.pack 66:=by
 intro vs p h;unfold z41.pack at h;split at h<;>cases h
 exact Qj Qd Qe rfl rfl rfl rfl (Qb z30.sound Qi) ⟨Tryz.func66,rfl,by kernel_rfl⟩ rfl (z41.link _ _) z30.hdec
theorem z42.sound:Sn z42.pack 194:=by
 intro vs p h;unfold z42.pack at h;split at h<;>cases h
 exact Qj Qd Qe rfl rfl rfl rfl (Qb z41.sound (Qb z40.sound Qi)) ⟨Tryz.func194,rfl,by kernel_rfl⟩ rfl (z42.link _ _ _ _) z30.hdec
theorem z43.sound:Sn z43.pack 241:=by
 intro vs p h;unfold z43.pack at h;split at h<;>cases h
 exact Qj Qd Qe rfl rfl rfl rfl (Qb z42.sound (Qb z29.sound Qi)) ⟨Tryz.func241,rfl,by kernel_rfl⟩ rfl (z43.link _ _ _ _) z10.hdec
theorem z44.l0_sound (hI:InlOK Tryz.prog z44.C λR=>z44.C.inlK 6):Ql z44.C 6 257 0 0 (Qf 0 (ifun Tryz.f257).body) z44.l0sh z44.l0pack:=by
 refine Qm λls p h=>?_
 unfold z44.l0pack at h;split at h<;>cases h
 rename_i a b c e
 exact Qp hI (sh:=z44.l0sh) (so:=z44.l0sh) (F:=λR rec done x=>z44.l0P rec done x) (enc:=λ(x':(Int×J0×J0))=>Qa z44.l0sh [.i x'.1,.li x'.2.1,.li c,.li x'.2.2]) [0,1,3] [0,1,3] (a,b,e) (by kernel_rfl) (by kernel_rfl) (λx=>by kernel_rfl) (λo=>by kernel_rfl) λR k d x'=>z44.l0_link R k d (x'.1) (x'.2.1) c (x'.2.2)
theorem Qv8:Qn (ifun Tryz.f257).body=true:=by kernel_rfl
theorem z44.loopsT (hI:InlOK Tryz.prog z44.C λR=>z44.C.inlK 6):LoopsOK z44.C (λR=>z44.C.inlK 6) 257 0 (ifun Tryz.f257).body:=by
 intro id b hm st p hp
 obtain rfl:=Qo Qv8 hm
 unfold z44.C at hp
 simp only at hp
 try split at hp
 all_goals first
  |(simp at hp;done)
  |(exfalso;omega)
  |exact z44.l0_sound hI st p hp
theorem z44.sound:Sn z44.pack 257:=by
 intro vs p h;unfold z44.pack at h;split at h<;>cases h
 exact Qw Qd Qe rfl rfl rfl (Qb z15.sound (Qb z36.sound Qi)) ⟨Tryz.func257,rfl,by kernel_rfl⟩ z44.loopsT rfl (z44.link _ _) z14.hdec
theorem z45.sound:Sn z45.pack 252:=by
 intro vs p h;unfold z45.pack at h;split at h<;>cases h
 exact Qj Qd Qe rfl rfl rfl rfl (Qb z15.sound (Qb z44.sound Qi)) ⟨Tryz.func252,rfl,by kernel_rfl⟩ rfl (z45.link _) z23.hdec
theorem z46.sound:Sn z46.pack 242:=by
 intro vs p h;unfold z46.pack at h;split at h<;>cases h
 exact Qj Qd Qe rfl rfl rfl rfl (Qb z45.sound (Qb z30.sound Qi)) ⟨Tryz.func242,rfl,by kernel_rfl⟩ rfl z46.link z30.hdec
theorem z47.sound:Sn z47.pack 218:=by
 intro vs p h;unfold z47.pack at h;split at h<;>cases h
 exact Qj Qd Qe rfl rfl rfl rfl (Qb z38.sound (Qb z29.sound (Qb z46.sound (Qb z43.sound Qi)))) ⟨Tryz.func218,rfl,by kernel_rfl⟩ rfl (z47.link _) z38.hdec
theorem z48.sound:Sn z48.pack 176:=by
 intro vs p h;unfold z48.pack at h;split at h<;>cases h
 exact Qj Qd Qe rfl rfl rfl rfl (Qb z47.sound (Qb z29.sound Qi)) ⟨Tryz.func176,rfl,by kernel_rfl⟩ rfl (z48.link _) z10.hdec
theorem z49.sound:Sn z49.pack 212:=by
 intro vs p h;unfold z49.pack at h;split at h<;>cases h
 exact Qj Qd Qe rfl rfl rfl rfl (Qb z3.sound Qi) ⟨Tryz.func212,rfl,by kernel_rfl⟩ rfl (z49.link _) z8.hdec
theorem fun190:FunOK Tryz.prog 190 Tryz.f190 (ifun Tryz.f190).body:=⟨Tryz.func190,rfl,by kernel_rfl⟩
theorem z50.inlF:InlF Tryz.prog z50.C where
 prim g h hp:=by simp [z50.C] at hp
 fn g fn h:=by
  unfold z50.C at h;simp only at h;split at h
  ·simp only [Option.some.injEq] at h;subst h;exact ⟨_,_,⟨Tryz.func211,rfl,by kernel_rfl⟩,rfl⟩
  ·simp only [Option.some.injEq] at h;subst h;exact ⟨_,_,⟨Tryz.func239,rfl,by kernel_rfl⟩,rfl⟩
  ·simp only [Option.some.injEq] at h;subst h;exact ⟨_,_,⟨Tryz.func148,rfl,by kernel_rfl⟩,rfl⟩
  ·simp only [Option.some.injEq] at h;subst h;exact ⟨_,_,fun190,rfl⟩
  ·simp at h
 loops g fn h:=by
  unfold z50.C at h;simp only at h;split at h
  ·simp only [Option.some.injEq] at h;subst h;exact λhI base=>noLoops rfl _ _ _ _
  ·simp only [Option.some.injEq] at h;subst h;exact λhI base=>noLoops rfl _ _ _ _
  ·simp only [Option.some.injEq] at h;subst h;exact λhI base=>noLoops rfl _ _ _ _
  ·simp only [Option.some.injEq] at h;subst h;exact λhI base=>noLoops rfl _ _ _ _
  ·simp at h
theorem z50.hdec:Q5 z50.dec z50.enc:=by
 intro v r h
 unfold z50.dec at h;split at h<;>cases h
 exact ⟨rfl,rfl⟩
theorem z50.sound:Sn z50.pack 171:=by
 intro vs p h;unfold z50.pack at h;split at h<;>cases h
 exact Ya Qd Qe rfl (Qb z33.sound (Qb z49.sound (Qb z3.sound (Qb z4.sound (Qb z37.sound (Qb z30.sound (Qb z2.sound Qi))))))) z50.inlF ⟨Tryz.func171,rfl,by kernel_rfl⟩ (λ_=>noLoops rfl _ _ _ _) rfl (z50.link _) z50.hdec
theorem z51.sound:Sn z51.pack 224:=by
 intro vs p h;unfold z51.pack at h;split at h<;>cases h
 exact Qj Qd Qe rfl rfl rfl rfl Qt ⟨Tryz.func224,rfl,by kernel_rfl⟩ rfl (z51.link _) z8.hdec
theorem z52.sound:Sn z52.pack 180:=by
 intro vs p h;unfold z52.pack at h;split at h<;>cases h
 exact Qj Qd Qe rfl rfl rfl rfl (Qb z51.sound Qi) ⟨Tryz.func180,rfl,by kernel_rfl⟩ rfl (z52.link _ _ _) z50.hdec
theorem z53.sound:Sn z53.pack 214:=by
 intro vs p h;unfold z53.pack at h;split at h<;>cases h
 exact Qj Qd Qe rfl rfl rfl rfl Qt ⟨Tryz.func214,rfl,by kernel_rfl⟩ rfl (z53.link _ _ _) z10.hdec
theorem z54.sound:Sn z54.pack 215:=by
 intro vs p h;unfold z54.pack at h;split at h<;>cases h
 exact Qj Qd Qe rfl rfl rfl rfl Qt ⟨Tryz.func215,rfl,by kernel_rfl⟩ rfl (z54.link _ _ _) z30.hdec
theorem z55.sound:Sn z55.pack 219:=by
 intro vs p h;unfold z55.pack at h;split at h<;>cases h
 exact Qj Qd Qe rfl rfl rfl rfl (Qb z15.sound (Qb z30.sound Qi)) ⟨Tryz.func219,rfl,by kernel_rfl⟩ rfl (z55.link _) z30.hdec
theorem z56.sound:Sn z56.pack 245:=by
 intro vs p h;unfold z56.pack at h;split at h<;>cases h
 exact Qj Qd Qe rfl rfl rfl rfl (Qb z45.sound (Qb z30.sound Qi)) ⟨Tryz.func245,rfl,by kernel_rfl⟩ rfl (z56.link _) z30.hdec
theorem z57.sound:Sn z57.pack 246:=by
 intro vs p h;unfold z57.pack at h;split at h<;>cases h
 exact Qj Qd Qe rfl rfl rfl rfl (Qb z36.sound (Qb z30.sound Qi)) ⟨Tryz.func246,rfl,by kernel_rfl⟩ rfl (z57.link _ _ _ _) z30.hdec
theorem z58.sound:Sn z58.pack 243:=by
 intro vs p h;unfold z58.pack at h;split at h<;>cases h
 exact Qj Qd Qe rfl rfl rfl rfl (Qb z56.sound (Qb z57.sound Qi)) ⟨Tryz.func243,rfl,by kernel_rfl⟩ rfl (z58.link _ _ _ _) z30.hdec
theorem z59.sound:Sn z59.pack 220:=by
 intro vs p h;unfold z59.pack at h;split at h<;>cases h
 exact Qj Qd Qe rfl rfl rfl rfl (Qb z58.sound (Qb z43.sound Qi)) ⟨Tryz.func220,rfl,by kernel_rfl⟩ rfl (z59.link _ _ _ _ _ _) z10.hdec
theorem z60.sound:Sn z60.pack 254:=by
 intro vs p h;unfold z60.pack at h;split at h<;>cases h
 exact Qj Qd Qe rfl rfl rfl rfl Qt ⟨Tryz.func254,rfl,by kernel_rfl⟩ rfl (z60.link _ _) z14.hdec
theorem z61.l0_sound (hI:InlOK Tryz.prog z61.C λR=>z61.C.inlK 6):Ql z61.C 6 258 0 0 (Qf 0 (ifun Tryz.f258).body) z61.l0sh z61.l0pack:=by
 refine Qm λls p h=>?_
 unfold z61.l0pack at h;split at h<;>cases h
 rename_i a b c
 exact Qp hI (sh:=z61.l0sh) (so:=z61.l0sh) (F:=λR rec done x=>z61.l0P rec done x) (enc:=λ(x':(J0×J0))=>Qa z61.l0sh [.li x'.1,.li x'.2,.li c]) [0,1] [0,1] (a,b) (by kernel_rfl) (by kernel_rfl) (λx=>by kernel_rfl) (λo=>by kernel_rfl) λR k d x'=>z61.l0_link R k d (x'.1) (x'.2) c
theorem Qqx:Qn (ifun Tryz.f258).body=true:=by kernel_rfl
theorem z61.loopsT (hI:InlOK Tryz.prog z61.C λR=>z61.C.inlK 6):LoopsOK z61.C (λR=>z61.C.inlK 6) 258 0 (ifun Tryz.f258).body:=by
 intro id b hm st p hp
 obtain rfl:=Qo Qqx hm
 unfold z61.C at hp
 simp only at hp
 try split at hp
 all_goals first
  |(simp at hp;done)
  |(exfalso;omega)
  |exact z61.l0_sound hI st p hp
theorem z61.sound:Sn z61.pack 258:=by
 intro vs p h;unfold z61.pack at h;split at h<;>cases h
 exact Qw Qd Qe rfl rfl rfl (Qb z8.sound (Qb z25.sound Qi)) ⟨Tryz.func258,rfl,by kernel_rfl⟩ z61.loopsT rfl (z61.link _ _) z14.hdec
theorem z62.hdec:Q5 z68.dec z62.enc:=by
 intro v r h
 unfold z68.dec at h;split at h<;>cases h
 exact ⟨rfl,rfl⟩
theorem z62.sound:Sn z62.pack 253:=by
 intro vs p h;unfold z62.pack at h;split at h<;>cases h
 exact Qj Qd Qe rfl rfl rfl rfl (Qb z60.sound (Qb z61.sound (Qb z25.sound (Qb z15.sound (Qb z39.sound (Qb z29.sound (Qb z30.sound Qi))))))) ⟨Tryz.func253,rfl,by kernel_rfl⟩ rfl (z62.link _ _ _) z62.hdec
theorem z63.hdec:Q5 z69.dec z63.enc:=by
 intro v r h
 unfold z69.dec at h;split at h<;>cases h
 exact ⟨rfl,rfl⟩
theorem z63.sound:Sn z63.pack 244:=by
 intro vs p h;unfold z63.pack at h;split at h<;>cases h
 exact Qj Qd Qe rfl rfl rfl rfl (Qb z29.sound (Qb z41.sound (Qb z60.sound (Qb z62.sound Qi)))) ⟨Tryz.func244,rfl,by kernel_rfl⟩ rfl (z63.link _ _ _ _) z63.hdec
theorem z64.sound:Sn z64.pack 221:=by
 intro vs p h;unfold z64.pack at h;split at h<;>cases h
 exact Qj Qd Qe rfl rfl rfl rfl (Qb z56.sound (Qb z63.sound Qi)) ⟨Tryz.func221,rfl,by kernel_rfl⟩ rfl (z64.link _ _ _) z62.hdec
theorem z65.sound:Sn z65.pack 255:=by
 intro vs p h;unfold z65.pack at h;split at h<;>cases h
 exact Qj Qd Qe rfl rfl rfl rfl (Qb z15.sound (Qb z35.sound Qi)) ⟨Tryz.func255,rfl,by kernel_rfl⟩ rfl (z65.link _ _ _) z14.hdec
theorem z66.sound:Sn z66.pack 247:=by
 intro vs p h;unfold z66.pack at h;split at h<;>cases h
 exact Qj Qd Qe rfl rfl rfl rfl (Qb z65.sound (Qb z30.sound Qi)) ⟨Tryz.func247,rfl,by kernel_rfl⟩ rfl (z66.link _ _ _) z30.hdec
theorem z67.sound:Sn z67.pack 222:=by
 intro vs p h;unfold z67.pack at h;split at h<;>cases h
 exact Qj Qd Qe rfl rfl rfl rfl (Qb z66.sound (Qb z57.sound (Qb z63.sound Qi))) ⟨Tryz.func222,rfl,by kernel_rfl⟩ rfl (z67.link _ _ _ _ _ _) z63.hdec
theorem z68.sound:Sn z68.pack 223:=by
 intro vs p h;unfold z68.pack at h;split at h<;>cases h
 exact Qj Qd Qe rfl rfl rfl rfl Qt ⟨Tryz.func223,rfl,by kernel_rfl⟩ rfl (z68.link _ _) z62.hdec
theorem z69.sound:Sn z69.pack 177:=by
 intro vs p h;unfold z69.pack at h;split at h<;>cases h
 exact Qj Qd Qe rfl rfl rfl rfl (Qb z50.sound (Qb z55.sound (Qb z52.sound (Qb z54.sound (Qb z29.sound (Qb z59.sound (Qb z53.sound (Qb z64.sound (Qb z68.sound (Qb z67.sound Qi)))))))))) ⟨Tryz.func177,rfl,by kernel_rfl⟩ rfl (z69.link _) z63.hdec
theorem z70.sound:Sn z70.pack 134:=by
 intro vs p h;unfold z70.pack at h;split at h<;>cases h
 exact Qj Qd Qe rfl rfl rfl rfl (Qb z48.sound (Qb z69.sound Qi)) ⟨Tryz.func134,rfl,by kernel_rfl⟩ rfl (z70.link _ _ _ _ _) z10.hdec
theorem z71.sound:Sn z71.pack 174:=by
 intro vs p h;unfold z71.pack at h;split at h<;>cases h
 exact Qj Qd Qe rfl rfl rfl rfl (Qb z50.sound (Qb z53.sound (Qb z54.sound Qi))) ⟨Tryz.func174,rfl,by kernel_rfl⟩ rfl (z71.link _) z38.hdec
theorem z72.inlF:InlF Tryz.prog z72.C where
 prim g h hp:=by
  unfold z72.C at hp;simp only at hp;split at hp
  ·simp only [Option.some.injEq] at hp;subst hp;exact z7.sound
  ·simp at hp
 fn g fn h:=by simp [z72.C] at h
 loops g fn h:=by simp [z72.C] at h
theorem z72.sound:SoundP Tryz.prog 125 (blkP [139,70] z72.pk):=by
 refine Qg2 Qd Qe rfl (Qb z70.sound (Qb z71.sound (Qb z28.sound Qi))) z72.inlF ⟨Tryz.func125,rfl,by kernel_rfl⟩ rfl λcss rest p h=>?_
 unfold z72.pk at h;split at h<;>cases h
 exact ⟨_,_,z72.dec,rfl,rfl,z72.link _ _ _ _ _ _ _ _,λv css' r h=>by unfold z72.dec at h;split at h<;>cases h;exact ⟨rfl,rfl,rfl⟩⟩
theorem z73.l0_sound (hI:InlOK Tryz.prog z73.C λR=>z73.C.inlK 6):Ql z73.C 6 160 0 0 (Qf 0 (ifun Tryz.f160).body) z73.l0sh z73.l0pack:=by
 refine Qm λls p h=>?_
 unfold z73.l0pack at h;split at h<;>cases h
 rename_i a b c e g
 exact Wx hI (sh:=z73.l0sh) (so:=z73.l0sh) (so':=z73.l0so1) (F:=λR rec done x=>z73.l0P b c e rec done x) (enc:=λ(x':Int)=>Qa z73.l0sh [.i a,.i b,.li c,.i e,.i x']) (.exit 0) [4] [4] [0] g (by kernel_rfl) (by kernel_rfl) (λx=>by kernel_rfl) (λo=>by kernel_rfl) (λo=>by kernel_rfl) λR k d x'=>z73.l0_link R k d a b c e (x')
theorem Qsq:Qn (ifun Tryz.f160).body=true:=by kernel_rfl
theorem z73.loopsT (hI:InlOK Tryz.prog z73.C λR=>z73.C.inlK 6):LoopsOK z73.C (λR=>z73.C.inlK 6) 160 0 (ifun Tryz.f160).body:=by
 intro id b hm st p hp
 obtain rfl:=Qo Qsq hm
 unfold z73.C at hp
 simp only at hp
 try split at hp
 all_goals first
  |(simp at hp;done)
  |(exfalso;omega)
  |exact z73.l0_sound hI st p hp
theorem z73.sound:Sn z73.pack 160:=by
 intro vs p h;unfold z73.pack at h;split at h<;>cases h
 exact Qw Qd Qe rfl rfl rfl Qt ⟨Tryz.func160,rfl,by kernel_rfl⟩ z73.loopsT rfl (z73.link _) z10.hdec
theorem z74.sound:Sn z74.pack 115:=by
 intro vs p h;unfold z74.pack at h;split at h<;>cases h
 exact Qj Qd Qe rfl rfl rfl rfl (Qb z10.sound (Qb z73.sound Qi)) ⟨Tryz.func115,rfl,by kernel_rfl⟩ rfl (z74.link _ _ _ _ _ _) z10.hdec
theorem z75.l0_sound (hI:InlOK Tryz.prog z75.C λR=>z75.C.inlK 6):Ql z75.C 6 122 0 0 (Qf 0 (ifun Tryz.f122).body) z75.l0sh z75.l0pack:=by
 refine Qm λls p h=>?_
 unfold z75.l0pack at h;split at h<;>cases h
 rename_i a b c e g
 exact Wx hI (sh:=z75.l0sh) (so:=z75.l0sh) (so':=z75.l0so1) (F:=λR rec done x=>z75.l0P a b e rec done x) (enc:=λ(x':Int)=>Qa z75.l0sh [.ls a,.s b,.i c,.i e,.i x']) (.exit 0) [4] [4] [0] g (by kernel_rfl) (by kernel_rfl) (λx=>by kernel_rfl) (λo=>by kernel_rfl) (λo=>by kernel_rfl) λR k d x'=>z75.l0_link R k d a b c e (x')
theorem Qst:Qn (ifun Tryz.f122).body=true:=by kernel_rfl
theorem z75.loopsT (hI:InlOK Tryz.prog z75.C λR=>z75.C.inlK 6):LoopsOK z75.C (λR=>z75.C.inlK 6) 122 0 (ifun Tryz.f122).body:=by
 intro id b hm st p hp
 obtain rfl:=Qo Qst hm
 unfold z75.C at hp
 simp only at hp
 try split at hp
 all_goals first
  |(simp at hp;done)
  |(exfalso;omega)
  |exact z75.l0_sound hI st p hp
theorem z75.sound:Sn z75.pack 122:=by
 intro vs p h;unfold z75.pack at h;split at h<;>cases h
 exact Qw Qd Qe rfl rfl rfl Qt ⟨Tryz.func122,rfl,by kernel_rfl⟩ z75.loopsT rfl (z75.link _ _) z10.hdec
theorem z76.sound:Sn z76.pack 123:=by
 intro vs p h;unfold z76.pack at h;split at h<;>cases h
 exact Qj Qd Qe rfl rfl rfl rfl Qt ⟨Tryz.func123,rfl,by kernel_rfl⟩ rfl z76.link (by intro v r h;unfold z76.dec at h;split at h<;>cases h;exact ⟨rfl,rfl⟩)
theorem z77.sound:Sn z77.pack 216:=by
 intro vs p h;unfold z77.pack at h;split at h<;>cases h
 exact Qj Qd Qe rfl rfl rfl rfl Qt ⟨Tryz.func216,rfl,by kernel_rfl⟩ rfl (z77.link _) z8.hdec
theorem z78.sound:Sn z78.pack 217:=by
 intro vs p h;unfold z78.pack at h;split at h<;>cases h
 exact Qj Qd Qe rfl rfl rfl rfl (Qb z77.sound Qi) ⟨Tryz.func217,rfl,by kernel_rfl⟩ rfl (z78.link _) z8.hdec
theorem z79.sound:Sn z79.pack 175:=by
 intro vs p h;unfold z79.pack at h;split at h<;>cases h
 exact Qj Qd Qe rfl rfl rfl rfl (Qb z77.sound (Qb z78.sound Qi)) ⟨Tryz.func175,rfl,by kernel_rfl⟩ rfl (z79.link _ _) z10.hdec
theorem z80.sound:Sn z80.pack 133:=by
 intro vs p h;unfold z80.pack at h;split at h<;>cases h
 exact Qj Qd Qe rfl rfl rfl rfl (Qb z79.sound Qi) ⟨Tryz.func133,rfl,by kernel_rfl⟩ rfl (z80.link _ _ _) z10.hdec
theorem z81.l0_sound (hI:InlOK Tryz.prog z81.C λR=>z81.C.inlK 6):Ql z81.C 6 173 0 0 (Qf 0 (ifun Tryz.f173).body) z81.l0sh z81.l0pack:=by
 refine Qm λls p h=>?_
 unfold z81.l0pack at h;split at h<;>cases h
 rename_i a c e g j m
 exact Wx hI (sh:=z81.l0sh) (so:=z81.l0sh) (so':=z81.l0so1) (F:=λR rec done x=>z81.l0P a j rec done x) (enc:=λ(x':(Int×Int))=>Qa z81.l0sh [.s a,.i c,.b e,.i x'.1,.i j,.i x'.2]) (.exit 0) [3,5] [3,5] [0,1] (g,m) (by kernel_rfl) (by kernel_rfl) (λx=>by kernel_rfl) (λo=>by kernel_rfl) (λo=>by kernel_rfl) λR k d x'=>z81.l0_link R k d a c e (x'.1) j (x'.2)
theorem Qpe:Qn (ifun Tryz.f173).body=true:=by kernel_rfl
theorem z81.loopsT (hI:InlOK Tryz.prog z81.C λR=>z81.C.inlK 6):LoopsOK z81.C (λR=>z81.C.inlK 6) 173 0 (ifun Tryz.f173).body:=by
 intro id b hm st p hp
 obtain rfl:=Qo Qpe hm
 unfold z81.C at hp
 simp only at hp
 try split at hp
 all_goals first
  |(simp at hp;done)
  |(exfalso;omega)
  |exact z81.l0_sound hI st p hp
theorem z81.sound:Sn z81.pack 173:=by
 intro vs p h;unfold z81.pack at h;split at h<;>cases h
 exact Qw Qd Qe rfl rfl rfl Qt ⟨Tryz.func173,rfl,by kernel_rfl⟩ z81.loopsT rfl (z81.link _) (by intro v r h;unfold z81.dec at h;split at h<;>cases h;exact ⟨rfl,rfl⟩)
theorem z82.sound:Sn z82.pack 124:=by
 intro vs p h;unfold z82.pack at h;split at h<;>cases h
 exact Qj Qd Qe rfl rfl rfl rfl (Qb z81.sound (Qb z80.sound Qi)) ⟨Tryz.func124,rfl,by kernel_rfl⟩ rfl (z82.link _) (by intro v r h;unfold z82.dec at h;split at h<;>cases h;exact ⟨rfl,rfl⟩)
theorem z83.inlF:InlF Tryz.prog z83.C where
 prim g h hp:=by
  unfold z83.C at hp;simp only at hp;split at hp
  ·simp only [Option.some.injEq] at hp;subst hp;exact z7.sound
  ·simp only [Option.some.injEq] at hp;subst hp;exact z72.sound
  ·simp at hp
 fn g fn h:=by simp [z83.C] at h
 loops g fn h:=by simp [z83.C] at h
theorem z83.sound:SoundP Tryz.prog 71 (blkP [139] z83.pk):=by
 refine Qg2 Qd Qe rfl (Qb z76.sound (Qb z75.sound (Qb z82.sound (Qb z74.sound Qi)))) z83.inlF ⟨Tryz.func71,rfl,by kernel_rfl⟩ rfl λcss rest p h=>?_
 unfold z83.pk at h;split at h<;>cases h
 exact ⟨_,_,z83.dec,rfl,rfl,z83.link _ _ _ _ _ _,λv css' r h=>by unfold z83.dec at h;split at h<;>cases h;exact ⟨rfl,rfl,rfl⟩⟩
theorem z84.sound:Sn z84.pack 43:=by
 intro vs p h;unfold z84.pack at h;split at h<;>cases h
 exact Qj Qd Qe rfl rfl rfl rfl (Qb z31.sound Qi) ⟨Tryz.func43,rfl,by kernel_rfl⟩ rfl (z84.link _ _) z8.hdec
theorem z85.inlF:InlF Tryz.prog z85.C where
 prim g h hp:=by simp [z85.C] at hp
 fn g fn h:=by
  unfold z85.C at h;simp only at h;split at h
  ·simp only [Option.some.injEq] at h;subst h;exact ⟨_,_,fun190,rfl⟩
  ·simp at h
 loops g fn h:=by
  unfold z85.C at h;simp only at h;split at h
  ·simp only [Option.some.injEq] at h;subst h;exact λhI base=>noLoops rfl _ _ _ _
  ·simp at h
theorem z85.sound:Sn z85.pack 164:=by
 intro vs p h;unfold z85.pack at h;split at h<;>cases h
 exact Ya Qd Qe rfl (Qb z2.sound Qi) z85.inlF ⟨Tryz.func164,rfl,by kernel_rfl⟩ (λ_=>noLoops rfl _ _ _ _) rfl (z85.link _ _) z10.hdec
theorem z86.l0_sound (hI:InlOK Tryz.prog z86.C λR=>z86.C.inlK 6):Ql z86.C 6 119 0 0 (Qf 0 (ifun Tryz.f119).body) z86.l0sh z86.l0pack:=by
 refine Qm λls p h=>?_
 unfold z86.l0pack at h;split at h<;>cases h
 rename_i a b c
 exact Qp hI (sh:=z86.l0sh) (so:=z86.l0so0) (F:=λR rec done x=>z86.l0P a rec done x) (enc:=λ(x':(J1))=>Qa z86.l0sh [.s a,.i b,.s x']) [2] [0] c (by kernel_rfl) (by kernel_rfl) (λx=>by kernel_rfl) (λo=>by kernel_rfl) λR k d x'=>z86.l0_link R k d a b (x')
theorem Qo3:Qn (ifun Tryz.f119).body=true:=by kernel_rfl
theorem z86.loopsT (hI:InlOK Tryz.prog z86.C λR=>z86.C.inlK 6):LoopsOK z86.C (λR=>z86.C.inlK 6) 119 0 (ifun Tryz.f119).body:=by
 intro id b hm st p hp
 obtain rfl:=Qo Qo3 hm
 unfold z86.C at hp
 simp only at hp
 try split at hp
 all_goals first
  |(simp at hp;done)
  |(exfalso;omega)
  |exact z86.l0_sound hI st p hp
theorem z86.sound:Sn z86.pack 119:=by
 intro vs p h;unfold z86.pack at h;split at h<;>cases h
 exact Qw Qd Qe rfl rfl rfl (Qb z4.sound (Qb z84.sound (Qb z85.sound Qi))) ⟨Tryz.func119,rfl,by kernel_rfl⟩ z86.loopsT rfl (z86.link _) z10.hdec
theorem z87.sound:Sn z87.pack 165:=by
 intro vs p h;unfold z87.pack at h;split at h<;>cases h
 exact Qj Qd Qe rfl rfl rfl rfl Qt ⟨Tryz.func165,rfl,by kernel_rfl⟩ rfl (z87.link _) z8.hdec
theorem z88.sound:Sn z88.pack 168:=by
 intro vs p h;unfold z88.pack at h;split at h<;>cases h
 exact Qj Qd Qe rfl rfl rfl rfl Qt ⟨Tryz.func168,rfl,by kernel_rfl⟩ rfl (z88.link _) z8.hdec
theorem z89.sound:Sn z89.pack 167:=by
 intro vs p h;unfold z89.pack at h;split at h<;>cases h
 exact Qj Qd Qe rfl rfl rfl rfl (Qb z87.sound (Qb z88.sound Qi)) ⟨Tryz.func167,rfl,by kernel_rfl⟩ rfl (z89.link _) z8.hdec
theorem z90.sound:Sn z90.pack 169:=by
 intro vs p h;unfold z90.pack at h;split at h<;>cases h
 exact Qj Qd Qe rfl rfl rfl rfl (Qb z88.sound Qi) ⟨Tryz.func169,rfl,by kernel_rfl⟩ rfl (z90.link _) z8.hdec
theorem z91.l0_sound (hI:InlOK Tryz.prog z91.C λR=>z91.C.inlK 6):Ql z91.C 6 170 0 0 (Qf 0 (ifun Tryz.f170).body) z91.l0sh z91.l0pack:=by
 refine Qm λls p h=>?_
 unfold z91.l0pack at h;split at h<;>cases h
 rename_i a c e g
 exact Wx hI (sh:=z91.l0sh) (so:=z91.l0so0) (so':=z91.l0sh) (F:=λR rec done x=>z91.l0P a e rec done x) (enc:=λ(x':Nat)=>Qa z91.l0sh [.s a,.b c,.s e,.n x']) .ret [3] [0,2] [3] g (by kernel_rfl) (by kernel_rfl) (λx=>by kernel_rfl) (λo=>by kernel_rfl) (λo=>by kernel_rfl) λR k d x'=>z91.l0_link R k d a c e (x')
theorem Qpb:Qn (ifun Tryz.f170).body=true:=by kernel_rfl
theorem z91.loopsT (hI:InlOK Tryz.prog z91.C λR=>z91.C.inlK 6):LoopsOK z91.C (λR=>z91.C.inlK 6) 170 0 (ifun Tryz.f170).body:=by
 intro id b hm st p hp
 obtain rfl:=Qo Qpb hm
 unfold z91.C at hp
 simp only at hp
 try split at hp
 all_goals first
  |(simp at hp;done)
  |(exfalso;omega)
  |exact z91.l0_sound hI st p hp
theorem z91.sound:Sn z91.pack 170:=by
 intro vs p h;unfold z91.pack at h;split at h<;>cases h
 exact Qw Qd Qe rfl rfl rfl (Qb z88.sound Qi) ⟨Tryz.func170,rfl,by kernel_rfl⟩ z91.loopsT rfl (z91.link _) z8.hdec
theorem z92.sound:Sn z92.pack 240:=by
 intro vs p h;unfold z92.pack at h;split at h<;>cases h
 exact Qj Qd Qe rfl rfl rfl rfl Qt ⟨Tryz.func240,rfl,by kernel_rfl⟩ rfl (z92.link _) z8.hdec
theorem z93.sound:Sn z93.pack 213:=by
 intro vs p h;unfold z93.pack at h;split at h<;>cases h
 exact Qj Qd Qe rfl rfl rfl rfl (Qb z85.sound (Qb z92.sound Qi)) ⟨Tryz.func213,rfl,by kernel_rfl⟩ rfl (z93.link _ _) z10.hdec
theorem z94.sound:Sn z94.pack 172:=by
 intro vs p h;unfold z94.pack at h;split at h<;>cases h
 exact Qj Qd Qe rfl rfl rfl rfl (Qb z93.sound Qi) ⟨Tryz.func172,rfl,by kernel_rfl⟩ rfl (z94.link _ _) z8.hdec
theorem z95.l0_sound (hI:InlOK Tryz.prog z95.C λR=>z95.C.inlK 0):Ql z95.C 0 166 0 1 (Qf 0 (ifun Tryz.f166).body) z95.l0sh z95.l0pack:=by
 refine Qm λls p h=>?_
 unfold z95.l0pack at h;split at h<;>cases h
 rename_i a b c e g j m
 exact Wx hI (sh:=z95.l0sh) (so:=z95.l0so0) (so':=z95.l0sh) (F:=λR rec done x=>z95.l0P a j rec done x) (enc:=λ(x':Nat)=>Qa z95.l0sh [.s a,.s b,.i c,.s e,.i g,.s j,.n x']) .ret [6] [0,5] [6] m (by kernel_rfl) (by kernel_rfl) (λx=>by kernel_rfl) (λo=>by kernel_rfl) (λo=>by kernel_rfl) λR k d x'=>z95.l0_link R k d a b c e g j (x')
theorem z95.l0a_sound (hI:InlOK Tryz.prog z95.C λR=>z95.C.inlK 0):Ql z95.C 0 166 0 1 (Qf 0 (ifun Tryz.f166).body) z95.l0ash z95.l0apack:=by
 refine Qm λls p h=>?_
 unfold z95.l0apack at h;split at h<;>cases h
 rename_i a b c e g j m
 exact Wx hI (sh:=z95.l0ash) (so:=z95.l0aso0) (so':=z95.l0ash) (F:=λR rec done x=>z95.l0aP a j rec done x) (enc:=λ(x':Nat)=>Qa z95.l0ash [.s a,.s b,.i c,.s e,.i g,.s j,.n x']) .ret [6] [0,5] [6] m (by kernel_rfl) (by kernel_rfl) (λx=>by kernel_rfl) (λo=>by kernel_rfl) (λo=>by kernel_rfl) λR k d x'=>z95.l0a_link R k d a b c e g j (x')
theorem Qr8:Qn (ifun Tryz.f166).body=true:=by kernel_rfl
theorem z95.loops166 (hI:InlOK Tryz.prog z95.C λR=>z95.C.inlK 0) (base:Nat):LoopsOK z95.C (λR=>z95.C.inlK 0) 166 base (ifun Tryz.f166).body:=by
 intro id b hm st p hp
 obtain rfl:=Qo Qr8 hm
 unfold z95.C at hp
 simp only at hp
 try split at hp
 all_goals first
  |(simp at hp;done)
  |(exfalso;omega)
  |exact (orP_some hp).elim (λh=>z95.l0_sound hI st p h) (λh=>z95.l0a_sound hI st p h)
theorem z95.inlF:InlF Tryz.prog z95.C where
 prim g h hp:=by simp [z95.C] at hp
 fn g fn h:=by
  unfold z95.C at h;simp only at h;split at h
  ·simp only [Option.some.injEq] at h;subst h;exact ⟨_,_,⟨Tryz.func166,rfl,by kernel_rfl⟩,rfl⟩
  ·simp at h
 loops g fn h:=by
  unfold z95.C at h;simp only at h;split at h
  ·simp only [Option.some.injEq] at h;subst h;exact λhI base=>z95.loops166 hI base
  ·simp at h
theorem z95.noTop:LoopsOK z95.C (λR=>z95.C.inlK 6) 120 0 (ifun Tryz.f120).body:=by
 intro id b hm st p hp
 exfalso
 unfold z95.C at hp
 simp only at hp
 try split at hp
 all_goals first|(simp at hp;done)|omega
theorem z95.sound:Sn z95.pack 120:=by
 intro vs p h;unfold z95.pack at h;split at h<;>cases h
 exact Ya Qd Qe rfl (Qb z87.sound (Qb z89.sound (Qb z88.sound (Qb z90.sound (Qb z91.sound (Qb z50.sound (Qb z94.sound Qi))))))) z95.inlF ⟨Tryz.func120,rfl,by kernel_rfl⟩ (λ_=>z95.noTop) rfl (z95.link _) (by intro v r h;unfold z95.dec at h;split at h<;>cases h;exact ⟨rfl,rfl⟩)
theorem z96.l0_sound (hI:InlOK Tryz.prog z96.C λR=>z96.C.inlK 6):Ql z96.C 6 70 0 0 (Qf 0 (ifun Tryz.f70).body) z96.l0sh z96.l0pack:=by
 refine Qm λls p h=>?_
 unfold z96.l0pack at h;split at h<;>cases h
 rename_i a b c e g j
 exact Wx hI (sh:=z96.l0sh) (so:=z96.l0sh) (so':=z96.l0so1) (F:=λR rec done x=>z96.l0P a rec done x) (enc:=λ(x':(Int×J2))=>Qa z96.l0sh [.s a,.i b,.i c,.i x'.1,.lr g,.lr x'.2]) (.exit 0) [3,5] [3,5] [0,1,2,4] (e,j) (by kernel_rfl) (by kernel_rfl) (λx=>by kernel_rfl) (λo=>by kernel_rfl) (λo=>by kernel_rfl) λR k d x'=>z96.l0_link R k d a b c (x'.1) g (x'.2)
theorem Qnx:Qn (ifun Tryz.f70).body=true:=by kernel_rfl
theorem z96.loopsT (hI:InlOK Tryz.prog z96.C λR=>z96.C.inlK 6):LoopsOK z96.C (λR=>z96.C.inlK 6) 70 0 (ifun Tryz.f70).body:=by
 intro id b hm st p hp
 obtain rfl:=Qo Qnx hm
 unfold z96.C at hp
 simp only at hp
 try split at hp
 all_goals first
  |(simp at hp;done)
  |(exfalso;omega)
  |exact z96.l0_sound hI st p hp
theorem z96.sound:Sn z96.pack 70:=by
 intro vs p h;unfold z96.pack at h;split at h<;>cases h
 exact Qw Qd Qe rfl rfl rfl (Qb z86.sound (Qb z95.sound Qi)) ⟨Tryz.func70,rfl,by kernel_rfl⟩ z96.loopsT rfl (z96.link _) (by intro v r h;unfold z96.dec at h;split at h<;>cases h;exact ⟨rfl,rfl⟩)
theorem z97.l0_sound (hI:InlOK Tryz.prog z97.C λR=>z97.C.inlK 6):Ql z97.C 6 24 0 0 (Qf 0 (ifun Tryz.f24).body) z97.l0sh z97.l0pack:=by
 refine Qm λls p h=>?_
 unfold z97.l0pack at h;split at h<;>cases h
 rename_i a b c e g j m n q r
 exact Wx hI (sh:=z97.l0sh) (so:=z97.l0sh) (so':=z97.l0so1) (F:=λR rec done x=>z97.l0P rec done x) (enc:=λ(x':(J2×Int×Int×J2×Int×Int×Int))=>Qa z97.l0sh [.i a,.i b,.lr c,.lr x'.1,.i x'.2.1,.i x'.2.2.1,.lr x'.2.2.2.1,.i x'.2.2.2.2.1,.i x'.2.2.2.2.2.1,.i x'.2.2.2.2.2.2]) (.exit 0) [3,4,5,6,7,8,9] [3,4,5,6,7,8,9] [0,1,2,4,5,6,7,8,9,10] (e,g,j,m,n,q,r) (by kernel_rfl) (by kernel_rfl) (λx=>by kernel_rfl) (λo=>by kernel_rfl) (λo=>by kernel_rfl) λR k d x'=>z97.l0_link R k d a b c (x'.1) (x'.2.1) (x'.2.2.1) (x'.2.2.2.1) (x'.2.2.2.2.1) (x'.2.2.2.2.2.1) (x'.2.2.2.2.2.2)
theorem Qo9:Qn (ifun Tryz.f24).body=true:=by kernel_rfl
theorem z97.loopsT (hI:InlOK Tryz.prog z97.C λR=>z97.C.inlK 6):LoopsOK z97.C (λR=>z97.C.inlK 6) 24 0 (ifun Tryz.f24).body:=by
 intro id b hm st p hp
 obtain rfl:=Qo Qo9 hm
 unfold z97.C at hp
 simp only at hp
 try split at hp
 all_goals first
  |(simp at hp;done)
  |(exfalso;omega)
  |exact z97.l0_sound hI st p hp
theorem z97.inlF:InlF Tryz.prog z97.C where
 prim g h hp:=by
  unfold z97.C at hp;simp only at hp;split at hp
  ·simp only [Option.some.injEq] at hp;subst hp;exact z83.sound
  ·simp at hp
 fn g fn h:=by simp [z97.C] at h
 loops g fn h:=by simp [z97.C] at h
theorem z97.sound:Sn z97.pack 24:=by
 intro vs p h;unfold z97.pack at h;split at h<;>cases h
 exact Ya Qd Qe rfl (Qb z96.sound Qi) z97.inlF ⟨Tryz.func24,rfl,by kernel_rfl⟩ z97.loopsT rfl (z97.link _) (by intro v r h;unfold z97.dec at h;split at h<;>cases h;exact ⟨rfl,rfl⟩)
theorem z98.sound:Sn z98.pack 77:=by
 intro vs p h;unfold z98.pack at h;split at h<;>cases h
 exact Qj Qd Qe rfl rfl rfl rfl (Qb z80.sound (Qb z74.sound (Qb z70.sound Qi))) ⟨Tryz.func77,rfl,by kernel_rfl⟩ rfl (z98.link _ _ _ _ _ _ _ _) z10.hdec
theorem z99.l0_sound (hI:InlOK Tryz.prog z99.C λR=>z99.C.inlK 6):Ql z99.C 6 30 0 0 (Qf 0 (ifun Tryz.f30).body) z99.l0sh z99.l0pack:=by
 refine Qm λls p h=>?_
 unfold z99.l0pack at h;split at h<;>cases h
 rename_i a b c e g j m n
 exact Wx hI (sh:=z99.l0sh) (so:=z99.l0sh) (so':=z99.l0so1) (F:=λR rec done x=>z99.l0P c e rec done x) (enc:=λ(x':(Int×Int×Int×Int))=>Qa z99.l0sh [.i a,.i b,.lr c,.i e,.i x'.1,.i x'.2.1,.i x'.2.2.1,.i x'.2.2.2]) (.exit 0) [4,5,6,7] [4,5,6,7] [0,1,2,3,4] (g,j,m,n) (by kernel_rfl) (by kernel_rfl) (λx=>by kernel_rfl) (λo=>by kernel_rfl) (λo=>by kernel_rfl) λR k d x'=>z99.l0_link R k d a b c e (x'.1) (x'.2.1) (x'.2.2.1) (x'.2.2.2)
theorem Qrl:Qn (ifun Tryz.f30).body=true:=by kernel_rfl
theorem z99.loopsT (hI:InlOK Tryz.prog z99.C λR=>z99.C.inlK 6):LoopsOK z99.C (λR=>z99.C.inlK 6) 30 0 (ifun Tryz.f30).body:=by
 intro id b hm st p hp
 obtain rfl:=Qo Qrl hm
 unfold z99.C at hp
 simp only at hp
 try split at hp
 all_goals first
  |(simp at hp;done)
  |(exfalso;omega)
  |exact z99.l0_sound hI st p hp
theorem z99.sound:Sn z99.pack 30:=by
 intro vs p h;unfold z99.pack at h;split at h<;>cases h
 exact Qw Qd Qe rfl rfl rfl (Qb z98.sound Qi) ⟨Tryz.func30,rfl,by kernel_rfl⟩ z99.loopsT rfl (z99.link _) (by intro v r h;unfold z99.dec at h;split at h<;>cases h;exact ⟨rfl,rfl⟩)
theorem z100.l0_sound (hI:InlOK Tryz.prog z100.C λR=>z100.C.inlK 0):Ql z100.C 0 179 0 2 (Qf 0 (ifun Tryz.f179).body) z100.l0sh z100.l0pack:=by
 refine Qm λls p h=>?_
 unfold z100.l0pack at h;split at h<;>cases h
 rename_i a b c e g j m q
 exact Qp hI (sh:=z100.l0sh) (so:=z100.l0sh) (F:=λR rec done x=>z100.l0P a b rec done x) (enc:=λ(x':(Int×Int×J0))=>Qa z100.l0sh [.n a,.n b,.i x'.1,.i x'.2.1,.i g,.i j,.i m,.li x'.2.2]) [2,3,7] [2,3,7] (c,e,q) (by kernel_rfl) (by kernel_rfl) (λx=>by kernel_rfl) (λo=>by kernel_rfl) λR k d x'=>z100.l0_link R k d a b (x'.1) (x'.2.1) g j m (x'.2.2)
theorem Qpc:Qn (ifun Tryz.f179).body=true:=by kernel_rfl
theorem z100.loops179 (hI:InlOK Tryz.prog z100.C λR=>z100.C.inlK 0) (base:Nat):LoopsOK z100.C (λR=>z100.C.inlK 0) 179 base (ifun Tryz.f179).body:=by
 intro id b hm st p hp
 obtain rfl:=Qo Qpc hm
 unfold z100.C at hp
 simp only at hp
 try split at hp
 all_goals first
  |(simp at hp;done)
  |(exfalso;omega)
  |exact z100.l0_sound hI st p hp
theorem z100.inlF:InlF Tryz.prog z100.C where
 prim g h hp:=by simp [z100.C] at hp
 fn g fn h:=by
  unfold z100.C at h;simp only at h;split at h
  ·simp only [Option.some.injEq] at h;subst h;exact ⟨_,_,⟨Tryz.func179,rfl,by kernel_rfl⟩,rfl⟩
  ·simp at h
 loops g fn h:=by
  unfold z100.C at h;simp only at h;split at h
  ·simp only [Option.some.injEq] at h;subst h;exact λhI base=>z100.loops179 hI base
  ·simp at h
theorem z100.hdec:Q5 z100.dec z100.enc:=by
 intro v r h
 unfold z100.dec at h;split at h<;>cases h
 exact ⟨rfl,rfl⟩
theorem z100.noTop:LoopsOK z100.C (λR=>z100.C.inlK 6) 136 0 (ifun Tryz.f136).body:=by
 intro id b hm st p hp
 exfalso
 unfold z100.C at hp
 simp only at hp
 try split at hp
 all_goals first|(simp at hp;done)|omega
theorem z100.sound:Sn z100.pack 136:=by
 intro vs p h;unfold z100.pack at h;split at h<;>cases h
 exact Ya Qd Qe rfl (Qb z80.sound Qi) z100.inlF ⟨Tryz.func136,rfl,by kernel_rfl⟩ (λ_=>z100.noTop) rfl (z100.link _ _ _) z100.hdec
theorem z101.sound:Sn z101.pack 181:=by
 intro vs p h;unfold z101.pack at h;split at h<;>cases h
 exact Qj Qd Qe rfl rfl rfl rfl (Qb z28.sound (Qb z33.sound (Qb z5.sound Qi))) ⟨Tryz.func181,rfl,by kernel_rfl⟩ rfl (z101.link _ _ _) z26.hdec
theorem z102.sound:Sn z102.pack 137:=by
 intro vs p h;unfold z102.pack at h;split at h<;>cases h
 exact Qj Qd Qe rfl rfl rfl rfl (Qb z52.sound (Qb z101.sound Qi)) ⟨Tryz.func137,rfl,by kernel_rfl⟩ rfl (z102.link _ _) z26.hdec
theorem z103.sound:Sn z103.pack 79:=by
 intro vs p h;unfold z103.pack at h;split at h<;>cases h
 exact Qj Qd Qe rfl rfl rfl rfl (Qb z100.sound (Qb z76.sound (Qb z38.sound (Qb z102.sound (Qb z6.sound Qi))))) ⟨Tryz.func79,rfl,by kernel_rfl⟩ rfl (z103.link _ _ _ _ _) z26.hdec
theorem z104.l0_sound (hI:InlOK Tryz.prog z104.C λR=>z104.C.inlK 6):Ql z104.C 6 31 0 0 (Qf 0 (ifun Tryz.f31).body) z104.l0sh z104.l0pack:=by
 refine Qm λls p h=>?_
 unfold z104.l0pack at h;split at h<;>cases h
 rename_i a b c e g j
 exact Qp hI (sh:=z104.l0sh) (so:=z104.l0sh) (F:=λR rec done x=>z104.l0P c e rec done x) (enc:=λ(x':(Int×J0))=>Qa z104.l0sh [.s a,.i b,.lr c,.i e,.i x'.1,.li x'.2]) [4,5] [4,5] (g,j) (by kernel_rfl) (by kernel_rfl) (λx=>by kernel_rfl) (λo=>by kernel_rfl) λR k d x'=>z104.l0_link R k d a b c e (x'.1) (x'.2)
theorem Qth:Qn (ifun Tryz.f31).body=true:=by kernel_rfl
theorem z104.loopsT (hI:InlOK Tryz.prog z104.C λR=>z104.C.inlK 6):LoopsOK z104.C (λR=>z104.C.inlK 6) 31 0 (ifun Tryz.f31).body:=by
 intro id b hm st p hp
 obtain rfl:=Qo Qth hm
 unfold z104.C at hp
 simp only at hp
 try split at hp
 all_goals first
  |(simp at hp;done)
  |(exfalso;omega)
  |exact z104.l0_sound hI st p hp
theorem z104.loops80 (hI:InlOK Tryz.prog z104.C λR=>z104.C.inlK 0) (base:Nat):LoopsOK z104.C (λR=>z104.C.inlK 0) 80 base (ifun Tryz.f80).body:=by
 intro id b hm st p hp
 exfalso
 unfold z104.C at hp
 simp only at hp
 try split at hp
 all_goals first|(simp at hp;done)|omega
theorem z104.loops78 (hI:InlOK Tryz.prog z104.C λR=>z104.C.inlK 1) (base:Nat):LoopsOK z104.C (λR=>z104.C.inlK 1) 78 base (ifun Tryz.f78).body:=by
 intro id b hm st p hp
 exfalso
 unfold z104.C at hp
 simp only at hp
 try split at hp
 all_goals first|(simp at hp;done)|omega
theorem z104.inlF:InlF Tryz.prog z104.C where
 prim g h hp:=by
  unfold z104.C at hp;simp only at hp;split at hp
  ·simp only [Option.some.injEq] at hp;subst hp;exact prim135
  ·simp at hp
 fn g fn h:=by
  unfold z104.C at h;simp only at h;split at h
  ·simp only [Option.some.injEq] at h;subst h;exact ⟨_,_,fun80,rfl⟩
  ·simp only [Option.some.injEq] at h;subst h;exact ⟨_,_,fun78,rfl⟩
  ·simp at h
 loops g fn h:=by
  unfold z104.C at h;simp only at h;split at h
  ·simp only [Option.some.injEq] at h;subst h;exact λhI base=>z104.loops80 hI base
  ·simp only [Option.some.injEq] at h;subst h;exact λhI base=>z104.loops78 hI base
  ·simp at h
theorem z104.sound:Sn z104.pack 31:=by
 intro vs p h;unfold z104.pack at h;split at h<;>cases h
 exact Ya Qd Qe rfl (Qb z99.sound (Qb z103.sound Qi)) z104.inlF ⟨Tryz.func31,rfl,by kernel_rfl⟩ z104.loopsT rfl (z104.link _) z100.hdec
theorem z105.sound:Sn z105.pack 26:=by
 intro vs p h;unfold z105.pack at h;split at h<;>cases h
 exact Qj Qd Qe rfl rfl rfl rfl (Qb z97.sound (Qb z104.sound Qi)) ⟨Tryz.func26,rfl,by kernel_rfl⟩ rfl z105.link z8.hdec
theorem z106.l0_sound (hI:InlOK Tryz.prog z106.C λR=>z106.C.inlK 6):Ql z106.C 6 27 0 0 (Qf 0 (ifun Tryz.f27).body) z106.l0sh z106.l0pack:=by
 refine Qm λls p h=>?_
 unfold z106.l0pack at h;split at h<;>cases h
 rename_i a c e g j
 exact Wx hI (sh:=z106.l0sh) (so:=z106.l0sh) (so':=z106.l0so1) (F:=λR rec done x=>z106.l0P a c g rec done x) (enc:=λ(x':Int)=>Qa z106.l0sh [.lr a,.lr c,.b e,.i g,.i x']) (.exit 0) [4] [4] [0] j (by kernel_rfl) (by kernel_rfl) (λx=>by kernel_rfl) (λo=>by kernel_rfl) (λo=>by kernel_rfl) λR k d x'=>z106.l0_link R k d a c e g (x')
theorem Qr5:Qn (ifun Tryz.f27).body=true:=by kernel_rfl
theorem z106.loopsT (hI:InlOK Tryz.prog z106.C λR=>z106.C.inlK 6):LoopsOK z106.C (λR=>z106.C.inlK 6) 27 0 (ifun Tryz.f27).body:=by
 intro id b hm st p hp
 obtain rfl:=Qo Qr5 hm
 unfold z106.C at hp
 simp only at hp
 try split at hp
 all_goals first
  |(simp at hp;done)
  |(exfalso;omega)
  |exact z106.l0_sound hI st p hp
theorem z106.sound:Sn z106.pack 27:=by
 intro vs p h;unfold z106.pack at h;split at h<;>cases h
 exact Qw Qd Qe rfl rfl rfl Qt ⟨Tryz.func27,rfl,by kernel_rfl⟩ z106.loopsT rfl (z106.link _ _) z8.hdec
theorem z107.l2_sound (hI:InlOK Tryz.prog z107.C λR=>z107.C.inlK 6):Ql z107.C 6 56 2 0 (Qf 2 (ifun Tryz.f56).body) z107.l2sh z107.l2pack:=by
 refine Qm λls p h=>?_
 unfold z107.l2pack at h;split at h<;>cases h
 rename_i a b c e g j
 exact Qp hI (sh:=z107.l2sh) (so:=z107.l2sh) (F:=λR rec done x=>z107.l2P rec done x) (enc:=λ(x':(J1×Int×Int))=>Qa z107.l2sh [.li a,.s b,.s x'.1,.i e,.i x'.2.1,.i x'.2.2]) [2,4,5] [2,4,5] (c,g,j) (by kernel_rfl) (by kernel_rfl) (λx=>by kernel_rfl) (λo=>by kernel_rfl) λR k d x'=>z107.l2_link R k d a b (x'.1) e (x'.2.1) (x'.2.2)
theorem z107.l0_sound (hI:InlOK Tryz.prog z107.C λR=>z107.C.inlK 6):Ql z107.C 6 56 0 0 (Qf 0 (ifun Tryz.f56).body) z107.l0sh z107.l0pack:=by
 refine Qm λls p h=>?_
 unfold z107.l0pack at h;split at h<;>cases h
 rename_i a b c e
 exact Qp hI (sh:=z107.l0sh) (so:=z107.l0sh) (F:=λR rec done x=>z107.l0P a rec done x) (enc:=λ(x':(J1×Int))=>Qa z107.l0sh [.li a,.s b,.s x'.1,.i x'.2]) [2,3] [2,3] (c,e) (by kernel_rfl) (by kernel_rfl) (λx=>by kernel_rfl) (λo=>by kernel_rfl) λR k d x'=>z107.l0_link R k d a b (x'.1) (x'.2)
theorem z107.l4_sound (hI:InlOK Tryz.prog z107.C λR=>z107.C.inlK 6):Ql z107.C 6 56 4 0 (Qf 4 (ifun Tryz.f56).body) z107.l4sh z107.l4pack:=by
 refine Qm λls p h=>?_
 unfold z107.l4pack at h;split at h<;>cases h
 rename_i a b c
 exact Qp hI (sh:=z107.l4sh) (so:=z107.l4sh) (F:=λR rec done x=>z107.l4P b rec done x) (enc:=λ(x':Int)=>Qa z107.l4sh [.s a,.s b,.i x']) [2] [2] c (by kernel_rfl) (by kernel_rfl) (λx=>by kernel_rfl) (λo=>by kernel_rfl) λR k d x'=>z107.l4_link R k d a b (x')
theorem Qu2:Qn (ifun Tryz.f56).body=true:=by kernel_rfl
theorem z107.loopsT (hI:InlOK Tryz.prog z107.C λR=>z107.C.inlK 6):LoopsOK z107.C (λR=>z107.C.inlK 6) 56 0 (ifun Tryz.f56).body:=by
 intro id b hm st p hp
 obtain rfl:=Qo Qu2 hm
 unfold z107.C at hp
 simp only at hp
 try split at hp
 all_goals first
  |(simp at hp;done)
  |(exfalso;omega)
  |exact z107.l2_sound hI st p hp
  |exact z107.l0_sound hI st p hp
  |exact z107.l4_sound hI st p hp
theorem z107.sound:Sn z107.pack 56:=by
 intro vs p h;unfold z107.pack at h;split at h<;>cases h
 exact Qw Qd Qe rfl rfl rfl Qt ⟨Tryz.func56,rfl,by kernel_rfl⟩ z107.loopsT rfl (z107.link _) z26.hdec
theorem z108.sound:Sn z108.pack 14:=by
 intro vs p h;unfold z108.pack at h;split at h<;>cases h
 exact Qj Qd Qe rfl rfl rfl rfl (Qb z107.sound Qi) ⟨Tryz.func14,rfl,by kernel_rfl⟩ rfl (z108.link _ _) z26.hdec
theorem z109.sound:Sn z109.pack 149:=by
 intro vs p h;unfold z109.pack at h;split at h<;>cases h
 exact Qj Qd Qe rfl rfl rfl rfl Qt ⟨Tryz.func149,rfl,by kernel_rfl⟩ rfl (z109.link _) z8.hdec
theorem z110.sound:Sn z110.pack 96:=by
 intro vs p h;unfold z110.pack at h;split at h<;>cases h
 exact Qj Qd Qe rfl rfl rfl rfl (Qb z109.sound Qi) ⟨Tryz.func96,rfl,by kernel_rfl⟩ rfl (z110.link _ _) z10.hdec
theorem z111.sound:Sn z111.pack 47:=by
 intro vs p h;unfold z111.pack at h;split at h<;>cases h
 exact Qj Qd Qe rfl rfl rfl rfl (Qb z110.sound Qi) ⟨Tryz.func47,rfl,by kernel_rfl⟩ rfl (z111.link _ _ _) (by intro v r h;unfold z111.dec at h;split at h<;>cases h;exact ⟨rfl,rfl⟩)
theorem z112.hdec:Q5 z114.dec z112.enc:=by
 intro v r h
 unfold z114.dec at h;split at h<;>cases h
 exact ⟨rfl,rfl⟩
theorem z112.sound:Sn z112.pack 69:=by
 intro vs p h;unfold z112.pack at h;split at h<;>cases h
 exact Qj Qd Qe rfl rfl rfl rfl Qt ⟨Tryz.func69,rfl,by kernel_rfl⟩ rfl (z112.link _ _) z112.hdec
theorem z113.l0_sound (hI:InlOK Tryz.prog z113.C λR=>z113.C.inlK 6):Ql z113.C 6 97 0 0 (Qf 0 (ifun Tryz.f97).body) z113.l0sh z113.l0pack:=by
 refine Qm λls p h=>?_
 unfold z113.l0pack at h;split at h<;>cases h
 rename_i a b c
 exact Qp hI (sh:=z113.l0sh) (so:=z113.l0sh) (F:=λR rec done x=>z113.l0P rec done x) (enc:=λ(x':(Int×J0))=>Qa z113.l0sh [.i x'.1,.li b,.li x'.2]) [0,2] [0,2] (a,c) (by kernel_rfl) (by kernel_rfl) (λx=>by kernel_rfl) (λo=>by kernel_rfl) λR k d x'=>z113.l0_link R k d (x'.1) b (x'.2)
theorem Qvo:Qn (ifun Tryz.f97).body=true:=by kernel_rfl
theorem z113.loopsT (hI:InlOK Tryz.prog z113.C λR=>z113.C.inlK 6):LoopsOK z113.C (λR=>z113.C.inlK 6) 97 0 (ifun Tryz.f97).body:=by
 intro id b hm st p hp
 obtain rfl:=Qo Qvo hm
 unfold z113.C at hp
 simp only at hp
 try split at hp
 all_goals first
  |(simp at hp;done)
  |(exfalso;omega)
  |exact z113.l0_sound hI st p hp
theorem z113.hdec:Q5 z113.dec z113.enc:=by
 intro v r h
 unfold z113.dec at h;split at h<;>cases h
 exact ⟨rfl,rfl⟩
theorem z113.sound:Sn z113.pack 97:=by
 intro vs p h;unfold z113.pack at h;split at h<;>cases h
 exact Qw Qd Qe rfl rfl rfl Qt ⟨Tryz.func97,rfl,by kernel_rfl⟩ z113.loopsT rfl (z113.link _) z113.hdec
theorem z114.sound:Sn z114.pack 48:=by
 intro vs p h;unfold z114.pack at h;split at h<;>cases h
 exact Qj Qd Qe rfl rfl rfl rfl (Qb z113.sound (Qb z112.sound Qi)) ⟨Tryz.func48,rfl,by kernel_rfl⟩ rfl (z114.link _) z112.hdec
theorem z115.l2_sound (hI:InlOK Tryz.prog z115.C λR=>z115.C.inlK 6):Ql z115.C 6 28 2 0 (Qf 2 (ifun Tryz.f28).body) z115.l2sh z115.l2pack:=by
 refine Qm λls p h=>?_
 unfold z115.l2pack at h;split at h<;>cases h
 rename_i a c e g j m n q r s t u v w y
 exact Qp hI (sh:=z115.l2sh) (so:=z115.l2sh) (F:=λR rec done x=>z115.l2P a q rec done x) (enc:=λ(x':(Int×Int×Int×Int))=>Qa z115.l2sh [.i a,.i x'.1,.i e,.b g,.i j,.i m,.i n,.li q,.li r,.li s,.lr t,.lr u,.i x'.2.1,.i x'.2.2.1,.i x'.2.2.2]) [1,12,13,14] [1,12,13,14] (c,v,w,y) (by kernel_rfl) (by kernel_rfl) (λx=>by kernel_rfl) (λo=>by kernel_rfl) λR k d x'=>z115.l2_link R k d a (x'.1) e g j m n q r s t u (x'.2.1) (x'.2.2.1) (x'.2.2.2)
theorem z115.l0_sound (hI:InlOK Tryz.prog z115.C λR=>z115.C.inlK 6):Ql z115.C 6 28 0 0 (Qf 0 (ifun Tryz.f28).body) z115.l0sh z115.l0pack:=by
 refine Qm λls p h=>?_
 unfold z115.l0pack at h;split at h<;>cases h
 rename_i a b c e g j m n q r s t
 exact Qp hI (sh:=z115.l0sh) (so:=z115.l0sh) (F:=λR rec done x=>z115.l0P g j m rec done x) (enc:=λ(x':(Int×J2×Int×Int×Int))=>Qa z115.l0sh [.i x'.1,.i b,.i c,.i e,.li g,.li j,.li m,.lr n,.lr x'.2.1,.i x'.2.2.1,.i x'.2.2.2.1,.i x'.2.2.2.2]) [0,8,9,10,11] [0,8,9,10,11] (a,q,r,s,t) (by kernel_rfl) (by kernel_rfl) (λx=>by kernel_rfl) (λo=>by kernel_rfl) λR k d x'=>z115.l0_link R k d (x'.1) b c e g j m n (x'.2.1) (x'.2.2.1) (x'.2.2.2.1) (x'.2.2.2.2)
theorem Qs3:FunOK Tryz.prog 28 Tryz.f28 (ifun Tryz.f28).body:=⟨Tryz.func28,rfl,by kernel_rfl⟩
theorem Qqt:Qn (ifun Tryz.f28).body=true:=by kernel_rfl
theorem z115.loopsT (hI:InlOK Tryz.prog z115.C λR=>z115.C.inlK 6):LoopsOK z115.C (λR=>z115.C.inlK 6) 28 0 (ifun Tryz.f28).body:=by
 intro id b hm st p hp
 obtain rfl:=Qo Qqt hm
 unfold z115.C at hp
 simp only at hp
 try split at hp
 all_goals first
  |(simp at hp;done)
  |(exfalso;omega)
  |exact z115.l2_sound hI st p hp
  |exact z115.l0_sound hI st p hp
theorem z115.hdec:Q5 z140.dec z115.enc:=by
 intro v r h
 unfold z140.dec at h;split at h<;>cases h
 exact ⟨rfl,rfl⟩
theorem z115.sound:Sn z115.pack 28:=by
 intro vs p h;unfold z115.pack at h;split at h<;>cases h
 exact Qw Qd Qe rfl rfl rfl (Qb z111.sound (Qb z114.sound (Qb z108.sound Qi))) Qs3 z115.loopsT rfl (z115.link _ _ _ _ _ _ _ _ _) z115.hdec
theorem z116.hdec:Q5 z117.dec z116.enc:=by
 intro v r h
 unfold z117.dec at h;split at h<;>cases h
 exact ⟨rfl,rfl⟩
theorem z116.sound:Sn z116.pack 46:=by
 intro vs p h;unfold z116.pack at h;split at h<;>cases h
 exact Qj Qd Qe rfl rfl rfl rfl (Qb z110.sound Qi) ⟨Tryz.func46,rfl,by kernel_rfl⟩ rfl (z116.link _ _ _ _) z116.hdec
theorem z117.sound:Sn z117.pack 29:=by
 intro vs p h;unfold z117.pack at h;split at h<;>cases h
 exact Qj Qd Qe rfl rfl rfl rfl (Qb z116.sound Qi) ⟨Tryz.func29,rfl,by kernel_rfl⟩ rfl (z117.link _ _ _ _ _ _) z116.hdec
theorem z118.l0_sound (hI:InlOK Tryz.prog z118.C λR=>z118.C.inlK 6):Ql z118.C 6 139 0 0 (Qf 0 (ifun Tryz.f139).body) z118.l0sh z118.l0pack:=by
 refine Qm λls p h=>?_
 unfold z118.l0pack at h;split at h<;>cases h
 rename_i a b c e g
 exact Qp hI (sh:=z118.l0sh) (so:=z118.l0sh) (F:=λR rec done x=>z118.l0P b rec done x) (enc:=λ(x':(Int×J1×Int))=>Qa z118.l0sh [.i x'.1,.i b,.s c,.s x'.2.1,.i x'.2.2]) [0,3,4] [0,3,4] (a,e,g) (by kernel_rfl) (by kernel_rfl) (λx=>by kernel_rfl) (λo=>by kernel_rfl) λR k d x'=>z118.l0_link R k d (x'.1) b c (x'.2.1) (x'.2.2)
theorem Qto:Qn (ifun Tryz.f139).body=true:=by kernel_rfl
theorem z118.loopsT (hI:InlOK Tryz.prog z118.C λR=>z118.C.inlK 6):LoopsOK z118.C (λR=>z118.C.inlK 6) 139 0 (ifun Tryz.f139).body:=by
 intro id b hm st p hp
 obtain rfl:=Qo Qto hm
 unfold z118.C at hp
 simp only at hp
 try split at hp
 all_goals first
  |(simp at hp;done)
  |(exfalso;omega)
  |exact z118.l0_sound hI st p hp
theorem z118.sound:Sn z118.pack 139:=by
 intro vs p h;unfold z118.pack at h;split at h<;>cases h
 exact Qw Qd Qe rfl rfl rfl Qt ⟨Tryz.func139,rfl,by kernel_rfl⟩ z118.loopsT rfl (z118.link _ _) z26.hdec
theorem z119.sound:Sn z119.pack 83:=by
 intro vs p h;unfold z119.pack at h;split at h<;>cases h
 exact Qj Qd Qe rfl rfl rfl rfl (Qb z118.sound Qi) ⟨Tryz.func83,rfl,by kernel_rfl⟩ rfl (z119.link _ _ _) z26.hdec
theorem z120.l0_sound (hI:InlOK Tryz.prog z120.C λR=>z120.C.inlK 6):Ql z120.C 6 158 0 0 (Qf 0 (ifun Tryz.f158).body) z120.l0sh z120.l0pack:=by
 refine Qm λls p h=>?_
 unfold z120.l0pack at h;split at h<;>cases h
 rename_i a b c
 exact Qp hI (sh:=z120.l0sh) (so:=z120.l0sh) (F:=λR rec done x=>z120.l0P a rec done x) (enc:=λ(x':Int)=>Qa z120.l0sh [.li a,.i x',.li c]) [1] [1] b (by kernel_rfl) (by kernel_rfl) (λx=>by kernel_rfl) (λo=>by kernel_rfl) λR k d x'=>z120.l0_link R k d a (x') c
theorem Qoh:Qn (ifun Tryz.f158).body=true:=by kernel_rfl
theorem z120.loopsT (hI:InlOK Tryz.prog z120.C λR=>z120.C.inlK 6):LoopsOK z120.C (λR=>z120.C.inlK 6) 158 0 (ifun Tryz.f158).body:=by
 intro id b hm st p hp
 obtain rfl:=Qo Qoh hm
 unfold z120.C at hp
 simp only at hp
 try split at hp
 all_goals first
  |(simp at hp;done)
  |(exfalso;omega)
  |exact z120.l0_sound hI st p hp
theorem z120.sound:Sn z120.pack 158:=by
 intro vs p h;unfold z120.pack at h;split at h<;>cases h
 exact Qw Qd Qe rfl rfl rfl Qt ⟨Tryz.func158,rfl,by kernel_rfl⟩ z120.loopsT rfl (z120.link _) z113.hdec
theorem z121.l2_sound (hI:InlOK Tryz.prog z121.C λR=>z121.C.inlK 6):Ql z121.C 6 111 2 0 (Qf 2 (ifun Tryz.f111).body) z121.l2sh z121.l2pack:=by
 refine Qm λls p h=>?_
 unfold z121.l2pack at h;split at h<;>cases h
 rename_i a b c e g j
 exact Qp hI (sh:=z121.l2sh) (so:=z121.l2sh) (F:=λR rec done x=>z121.l2P a b rec done x) (enc:=λ(x':(Int×Int))=>Qa z121.l2sh [.s a,.i b,.i x'.1,.i x'.2,.li g,.li j]) [2,3] [2,3] (c,e) (by kernel_rfl) (by kernel_rfl) (λx=>by kernel_rfl) (λo=>by kernel_rfl) λR k d x'=>z121.l2_link R k d a b (x'.1) (x'.2) g j
theorem z121.l0_sound (hI:InlOK Tryz.prog z121.C λR=>z121.C.inlK 6):Ql z121.C 6 111 0 0 (Qf 0 (ifun Tryz.f111).body) z121.l0sh z121.l0pack:=by
 refine Qm λls p h=>?_
 unfold z121.l0pack at h;split at h<;>cases h
 rename_i a b c e
 exact Qp hI (sh:=z121.l0sh) (so:=z121.l0sh) (F:=λR rec done x=>z121.l0P a rec done x) (enc:=λ(x':(Int×J0))=>Qa z121.l0sh [.s a,.i x'.1,.li c,.li x'.2]) [1,3] [1,3] (b,e) (by kernel_rfl) (by kernel_rfl) (λx=>by kernel_rfl) (λo=>by kernel_rfl) λR k d x'=>z121.l0_link R k d a (x'.1) c (x'.2)
theorem Qul:Qn (ifun Tryz.f111).body=true:=by kernel_rfl
theorem z121.loopsT (hI:InlOK Tryz.prog z121.C λR=>z121.C.inlK 6):LoopsOK z121.C (λR=>z121.C.inlK 6) 111 0 (ifun Tryz.f111).body:=by
 intro id b hm st p hp
 obtain rfl:=Qo Qul hm
 unfold z121.C at hp
 simp only at hp
 try split at hp
 all_goals first
  |(simp at hp;done)
  |(exfalso;omega)
  |exact z121.l2_sound hI st p hp
  |exact z121.l0_sound hI st p hp
theorem z121.sound:Sn z121.pack 111:=by
 intro vs p h;unfold z121.pack at h;split at h<;>cases h
 exact Qw Qd Qe rfl rfl rfl (Qb z120.sound Qi) ⟨Tryz.func111,rfl,by kernel_rfl⟩ z121.loopsT rfl (z121.link _) z113.hdec
theorem z122.sound:Sn z122.pack 57:=by
 intro vs p h;unfold z122.pack at h;split at h<;>cases h
 exact Qj Qd Qe rfl rfl rfl rfl (Qb z121.sound (Qb z112.sound Qi)) ⟨Tryz.func57,rfl,by kernel_rfl⟩ rfl (z122.link _) z112.hdec
theorem z123.l0_sound (hI:InlOK Tryz.prog z123.C λR=>z123.C.inlK 6):Ql z123.C 6 186 0 0 (Qf 0 (ifun Tryz.f186).body) z123.l0sh z123.l0pack:=by
 refine Qm λls p h=>?_
 unfold z123.l0pack at h;split at h<;>cases h
 rename_i a c e
 exact Wx hI (sh:=z123.l0sh) (so:=z123.l0sh) (so':=z123.l0so1) (F:=λR rec done x=>z123.l0P a rec done x) (enc:=λ(x':Int)=>Qa z123.l0sh [.s a,.b c,.i x']) (.exit 0) [2] [2] [0] e (by kernel_rfl) (by kernel_rfl) (λx=>by kernel_rfl) (λo=>by kernel_rfl) (λo=>by kernel_rfl) λR k d x'=>z123.l0_link R k d a c (x')
theorem Qor:Qn (ifun Tryz.f186).body=true:=by kernel_rfl
theorem z123.loopsT (hI:InlOK Tryz.prog z123.C λR=>z123.C.inlK 6):LoopsOK z123.C (λR=>z123.C.inlK 6) 186 0 (ifun Tryz.f186).body:=by
 intro id b hm st p hp
 obtain rfl:=Qo Qor hm
 unfold z123.C at hp
 simp only at hp
 try split at hp
 all_goals first
  |(simp at hp;done)
  |(exfalso;omega)
  |exact z123.l0_sound hI st p hp
theorem z123.sound:Sn z123.pack 186:=by
 intro vs p h;unfold z123.pack at h;split at h<;>cases h
 exact Qw Qd Qe rfl rfl rfl Qt ⟨Tryz.func186,rfl,by kernel_rfl⟩ z123.loopsT rfl (z123.link _) z8.hdec
theorem z124.hdec:Q5 z135.dec z124.enc:=by
 intro v r h
 unfold z135.dec at h;split at h<;>cases h
 exact ⟨rfl,rfl⟩
theorem z124.sound:Sn z124.pack 140:=by
 intro vs p h;unfold z124.pack at h;split at h<;>cases h
 exact Qj Qd Qe rfl rfl rfl rfl (Qb z114.sound (Qb z123.sound (Qb z122.sound Qi))) ⟨Tryz.func140,rfl,by kernel_rfl⟩ rfl (z124.link _) z124.hdec
theorem z125.l0_sound (hI:InlOK Tryz.prog z125.C λR=>z125.C.inlK 6):Ql z125.C 6 141 0 0 (Qf 0 (ifun Tryz.f141).body) z125.l0sh z125.l0pack:=by
 refine Qm λls p h=>?_
 unfold z125.l0pack at h;split at h<;>cases h
 rename_i a b c e
 exact Qp hI (sh:=z125.l0sh) (so:=z125.l0sh) (F:=λR rec done x=>z125.l0P a rec done x) (enc:=λ(x':(J1×Int))=>Qa z125.l0sh [.i a,.s x'.1,.i x'.2,.li e]) [1,2] [1,2] (b,c) (by kernel_rfl) (by kernel_rfl) (λx=>by kernel_rfl) (λo=>by kernel_rfl) λR k d x'=>z125.l0_link R k d a (x'.1) (x'.2) e
theorem Qsa:Qn (ifun Tryz.f141).body=true:=by kernel_rfl
theorem z125.loopsT (hI:InlOK Tryz.prog z125.C λR=>z125.C.inlK 6):LoopsOK z125.C (λR=>z125.C.inlK 6) 141 0 (ifun Tryz.f141).body:=by
 intro id b hm st p hp
 obtain rfl:=Qo Qsa hm
 unfold z125.C at hp
 simp only at hp
 try split at hp
 all_goals first
  |(simp at hp;done)
  |(exfalso;omega)
  |exact z125.l0_sound hI st p hp
theorem z125.sound:Sn z125.pack 141:=by
 intro vs p h;unfold z125.pack at h;split at h<;>cases h
 exact Qw Qd Qe rfl rfl rfl (Qb z121.sound Qi) ⟨Tryz.func141,rfl,by kernel_rfl⟩ z125.loopsT rfl (z125.link _) z113.hdec
theorem z126.sound:Sn z126.pack 23:=by
 intro vs p h;unfold z126.pack at h;split at h<;>cases h
 exact Qj Qd Qe rfl rfl rfl rfl (Qb z112.sound Qi) ⟨Tryz.func23,rfl,by kernel_rfl⟩ rfl (z126.link _ _) z112.hdec
theorem z127.sound:Sn z127.pack 159:=by
 intro vs p h;unfold z127.pack at h;split at h<;>cases h
 exact Qj Qd Qe rfl rfl rfl rfl Qt ⟨Tryz.func159,rfl,by kernel_rfl⟩ rfl (z127.link _ _) z10.hdec
theorem z128.l0_sound (hI:InlOK Tryz.prog z128.C λR=>z128.C.inlK 6):Ql z128.C 6 112 0 0 (Qf 0 (ifun Tryz.f112).body) z128.l0sh z128.l0pack:=by
 refine Qm λls p h=>?_
 unfold z128.l0pack at h;split at h<;>cases h
 rename_i a b c e g j
 exact Qp hI (sh:=z128.l0sh) (so:=z128.l0sh) (F:=λR rec done x=>z128.l0P a b rec done x) (enc:=λ(x':(Int×Int×J0))=>Qa z128.l0sh [.li a,.li b,.i x'.1,.i x'.2.1,.li g,.li x'.2.2]) [2,3,5] [2,3,5] (c,e,j) (by kernel_rfl) (by kernel_rfl) (λx=>by kernel_rfl) (λo=>by kernel_rfl) λR k d x'=>z128.l0_link R k d a b (x'.1) (x'.2.1) g (x'.2.2)
theorem Qqb:Qn (ifun Tryz.f112).body=true:=by kernel_rfl
theorem z128.loopsT (hI:InlOK Tryz.prog z128.C λR=>z128.C.inlK 6):LoopsOK z128.C (λR=>z128.C.inlK 6) 112 0 (ifun Tryz.f112).body:=by
 intro id b hm st p hp
 obtain rfl:=Qo Qqb hm
 unfold z128.C at hp
 simp only at hp
 try split at hp
 all_goals first
  |(simp at hp;done)
  |(exfalso;omega)
  |exact z128.l0_sound hI st p hp
theorem z128.sound:Sn z128.pack 112:=by
 intro vs p h;unfold z128.pack at h;split at h<;>cases h
 exact Qw Qd Qe rfl rfl rfl (Qb z127.sound (Qb z120.sound Qi)) ⟨Tryz.func112,rfl,by kernel_rfl⟩ z128.loopsT rfl (z128.link _ _) z113.hdec
theorem z129.l0_sound (hI:InlOK Tryz.prog z129.C λR=>z129.C.inlK 6):Ql z129.C 6 113 0 0 (Qf 0 (ifun Tryz.f113).body) z129.l0sh z129.l0pack:=by
 refine Qm λls p h=>?_
 unfold z129.l0pack at h;split at h<;>cases h
 rename_i a b c e
 exact Wx hI (sh:=z129.l0sh) (so:=z129.l0sh) (so':=z129.l0so1) (F:=λR rec done x=>z129.l0P a b rec done x) (enc:=λ(x':Int)=>Qa z129.l0sh [.li a,.li b,.i c,.i x']) (.exit 0) [3] [3] [0] e (by kernel_rfl) (by kernel_rfl) (λx=>by kernel_rfl) (λo=>by kernel_rfl) (λo=>by kernel_rfl) λR k d x'=>z129.l0_link R k d a b c (x')
theorem Qu6:Qn (ifun Tryz.f113).body=true:=by kernel_rfl
theorem z129.loopsT (hI:InlOK Tryz.prog z129.C λR=>z129.C.inlK 6):LoopsOK z129.C (λR=>z129.C.inlK 6) 113 0 (ifun Tryz.f113).body:=by
 intro id b hm st p hp
 obtain rfl:=Qo Qu6 hm
 unfold z129.C at hp
 simp only at hp
 try split at hp
 all_goals first
  |(simp at hp;done)
  |(exfalso;omega)
  |exact z129.l0_sound hI st p hp
theorem z129.sound:Sn z129.pack 113:=by
 intro vs p h;unfold z129.pack at h;split at h<;>cases h
 exact Qw Qd Qe rfl rfl rfl Qt ⟨Tryz.func113,rfl,by kernel_rfl⟩ z129.loopsT rfl (z129.link _ _) z10.hdec
theorem z130.l0_sound (hI:InlOK Tryz.prog z130.C λR=>z130.C.inlK 6):Ql z130.C 6 114 0 0 (Qf 0 (ifun Tryz.f114).body) z130.l0sh z130.l0pack:=by
 refine Qm λls p h=>?_
 unfold z130.l0pack at h;split at h<;>cases h
 rename_i a b c e g j
 exact Qp hI (sh:=z130.l0sh) (so:=z130.l0sh) (F:=λR rec done x=>z130.l0P a b rec done x) (enc:=λ(x':(Int×Int×J0))=>Qa z130.l0sh [.li a,.li b,.i x'.1,.i x'.2.1,.li g,.li x'.2.2]) [2,3,5] [2,3,5] (c,e,j) (by kernel_rfl) (by kernel_rfl) (λx=>by kernel_rfl) (λo=>by kernel_rfl) λR k d x'=>z130.l0_link R k d a b (x'.1) (x'.2.1) g (x'.2.2)
theorem Qs8:Qn (ifun Tryz.f114).body=true:=by kernel_rfl
theorem z130.loopsT (hI:InlOK Tryz.prog z130.C λR=>z130.C.inlK 6):LoopsOK z130.C (λR=>z130.C.inlK 6) 114 0 (ifun Tryz.f114).body:=by
 intro id b hm st p hp
 obtain rfl:=Qo Qs8 hm
 unfold z130.C at hp
 simp only at hp
 try split at hp
 all_goals first
  |(simp at hp;done)
  |(exfalso;omega)
  |exact z130.l0_sound hI st p hp
theorem z130.sound:Sn z130.pack 114:=by
 intro vs p h;unfold z130.pack at h;split at h<;>cases h
 exact Qw Qd Qe rfl rfl rfl (Qb z127.sound (Qb z120.sound Qi)) ⟨Tryz.func114,rfl,by kernel_rfl⟩ z130.loopsT rfl (z130.link _ _) z113.hdec
theorem z131.sound:Sn z131.pack 58:=by
 intro vs p h;unfold z131.pack at h;split at h<;>cases h
 exact Qj Qd Qe rfl rfl rfl rfl (Qb z128.sound (Qb z112.sound (Qb z129.sound (Qb z130.sound Qi)))) ⟨Tryz.func58,rfl,by kernel_rfl⟩ rfl (z131.link _ _ _ _) z112.hdec
theorem z132.sound:Sn z132.pack 59:=by
 intro vs p h;unfold z132.pack at h;split at h<;>cases h
 exact Qj Qd Qe rfl rfl rfl rfl (Qb z126.sound (Qb z131.sound Qi)) ⟨Tryz.func59,rfl,by kernel_rfl⟩ rfl (z132.link _ _ _ _) z112.hdec
theorem z133.sound:Sn z133.pack 187:=by
 intro vs p h;unfold z133.pack at h;split at h<;>cases h
 exact Qj Qd Qe rfl rfl rfl rfl Qt ⟨Tryz.func187,rfl,by kernel_rfl⟩ rfl (z133.link _ _) z10.hdec
theorem z134.sound:Sn z134.pack 142:=by
 intro vs p h;unfold z134.pack at h;split at h<;>cases h
 exact Qj Qd Qe rfl rfl rfl rfl (Qb z132.sound (Qb z133.sound Qi)) ⟨Tryz.func142,rfl,by kernel_rfl⟩ rfl (z134.link _ _ _ _) z10.hdec
theorem z135.sound:Sn z135.pack 84:=by
 intro vs p h;unfold z135.pack at h;split at h<;>cases h
 exact Qj Qd Qe rfl rfl rfl rfl (Qb z114.sound (Qb z124.sound (Qb z125.sound (Qb z112.sound (Qb z134.sound Qi))))) ⟨Tryz.func84,rfl,by kernel_rfl⟩ rfl (z135.link _) z124.hdec
theorem z136.l0_sound (hI:InlOK Tryz.prog z136.C λR=>z136.C.inlK 6):Ql z136.C 6 143 0 0 (Qf 0 (ifun Tryz.f143).body) z136.l0sh z136.l0pack:=by
 refine Qm λls p h=>?_
 unfold z136.l0pack at h;split at h<;>cases h
 rename_i a c e g j
 exact Qp hI (sh:=z136.l0sh) (so:=z136.l0sh) (F:=λR rec done x=>z136.l0P j rec done x) (enc:=λ(x':(J1))=>Qa z136.l0sh [.s a,.s x',.li e,.b g,.i j]) [1] [1] c (by kernel_rfl) (by kernel_rfl) (λx=>by kernel_rfl) (λo=>by kernel_rfl) λR k d x'=>z136.l0_link R k d a (x') e g j
theorem Qvs:Qn (ifun Tryz.f143).body=true:=by kernel_rfl
theorem z136.loopsT (hI:InlOK Tryz.prog z136.C λR=>z136.C.inlK 6):LoopsOK z136.C (λR=>z136.C.inlK 6) 143 0 (ifun Tryz.f143).body:=by
 intro id b hm st p hp
 obtain rfl:=Qo Qvs hm
 unfold z136.C at hp
 simp only at hp
 try split at hp
 all_goals first
  |(simp at hp;done)
  |(exfalso;omega)
  |exact z136.l0_sound hI st p hp
theorem z136.sound:Sn z136.pack 143:=by
 intro vs p h;unfold z136.pack at h;split at h<;>cases h
 exact Qw Qd Qe rfl rfl rfl (Qb z107.sound Qi) ⟨Tryz.func143,rfl,by kernel_rfl⟩ z136.loopsT rfl (z136.link _ _ _) z26.hdec
theorem z137.sound:Sn z137.pack 85:=by
 intro vs p h;unfold z137.pack at h;split at h<;>cases h
 exact Qj Qd Qe rfl rfl rfl rfl (Qb z136.sound Qi) ⟨Tryz.func85,rfl,by kernel_rfl⟩ rfl (z137.link _ _) z26.hdec
theorem z138.l0_sound (hI:InlOK Tryz.prog z138.C λR=>z138.C.inlK 6):Ql z138.C 6 33 0 0 (Qf 0 (ifun Tryz.f33).body) z138.l0sh z138.l0pack:=by
 refine Qm λls p h=>?_
 unfold z138.l0pack at h;split at h<;>cases h
 rename_i a b c e g
 exact Qp hI (sh:=z138.l0sh) (so:=z138.l0sh) (F:=λR rec done x=>z138.l0P a c rec done x) (enc:=λ(x':(J1×Int))=>Qa z138.l0sh [.lr a,.s b,.ls c,.s x'.1,.i x'.2]) [3,4] [3,4] (e,g) (by kernel_rfl) (by kernel_rfl) (λx=>by kernel_rfl) (λo=>by kernel_rfl) λR k d x'=>z138.l0_link R k d a b c (x'.1) (x'.2)
theorem Qs1:Qn (ifun Tryz.f33).body=true:=by kernel_rfl
theorem z138.loopsT (hI:InlOK Tryz.prog z138.C λR=>z138.C.inlK 6):LoopsOK z138.C (λR=>z138.C.inlK 6) 33 0 (ifun Tryz.f33).body:=by
 intro id b hm st p hp
 obtain rfl:=Qo Qs1 hm
 unfold z138.C at hp
 simp only at hp
 try split at hp
 all_goals first
  |(simp at hp;done)
  |(exfalso;omega)
  |exact z138.l0_sound hI st p hp
theorem z138.sound:Sn z138.pack 33:=by
 intro vs p h;unfold z138.pack at h;split at h<;>cases h
 exact Qw Qd Qe rfl rfl rfl (Qb z119.sound (Qb z135.sound (Qb z137.sound Qi))) ⟨Tryz.func33,rfl,by kernel_rfl⟩ z138.loopsT rfl (z138.link _) z26.hdec
theorem z139.sound:Sn z139.pack 86:=by
 intro vs p h;unfold z139.pack at h;split at h<;>cases h
 exact Qj Qd Qe rfl rfl rfl rfl (Qb z21.sound Qi) ⟨Tryz.func86,rfl,by kernel_rfl⟩ rfl (z139.link _ _) z19.hdec
theorem z140.l0_sound (hI:InlOK Tryz.prog z140.C λR=>z140.C.inlK 6):Ql z140.C 6 34 0 0 (Qf 0 (ifun Tryz.f34).body) z140.l0sh z140.l0pack:=by
 refine Qm λls p h=>?_
 unfold z140.l0pack at h;split at h<;>cases h
 rename_i a b c
 exact Qp hI (sh:=z140.l0sh) (so:=z140.l0sh) (F:=λR rec done x=>z140.l0P rec done x) (enc:=λ(x':(Int×J2))=>Qa z140.l0sh [.i x'.1,.lr b,.lr x'.2]) [0,2] [0,2] (a,c) (by kernel_rfl) (by kernel_rfl) (λx=>by kernel_rfl) (λo=>by kernel_rfl) λR k d x'=>z140.l0_link R k d (x'.1) b (x'.2)
theorem Qps:Qn (ifun Tryz.f34).body=true:=by kernel_rfl
theorem z140.loopsT (hI:InlOK Tryz.prog z140.C λR=>z140.C.inlK 6):LoopsOK z140.C (λR=>z140.C.inlK 6) 34 0 (ifun Tryz.f34).body:=by
 intro id b hm st p hp
 obtain rfl:=Qo Qps hm
 unfold z140.C at hp
 simp only at hp
 try split at hp
 all_goals first
  |(simp at hp;done)
  |(exfalso;omega)
  |exact z140.l0_sound hI st p hp
theorem z140.sound:Sn z140.pack 34:=by
 intro vs p h;unfold z140.pack at h;split at h<;>cases h
 exact Qw Qd Qe rfl rfl rfl (Qb z139.sound Qi) ⟨Tryz.func34,rfl,by kernel_rfl⟩ z140.loopsT rfl (z140.link _ _) z115.hdec
theorem z141.sound:Sn z141.pack 92:=by
 intro vs p h;unfold z141.pack at h;split at h<;>cases h
 exact Qj Qd Qe rfl rfl rfl rfl Qt ⟨Tryz.func92,rfl,by kernel_rfl⟩ rfl (z141.link _ _) z8.hdec
theorem z142.sound:Sn z142.pack 87:=by
 intro vs p h;unfold z142.pack at h;split at h<;>cases h
 exact Qj Qd Qe rfl rfl rfl rfl (Qb z141.sound Qi) ⟨Tryz.func87,rfl,by kernel_rfl⟩ rfl (z142.link _ _) z26.hdec
theorem z143.sound:Sn z143.pack 35:=by
 intro vs p h;unfold z143.pack at h;split at h<;>cases h
 exact Qj Qd Qe rfl rfl rfl rfl (Qb z142.sound Qi) ⟨Tryz.func35,rfl,by kernel_rfl⟩ rfl (z143.link _ _) z26.hdec
theorem fun8:FunOK Tryz.prog 8 Tryz.f8 (ifun Tryz.f8).body:=⟨Tryz.func8,rfl,by kernel_rfl⟩
theorem z144.sound:Sn z144.pack 8:=by
 intro vs p h;unfold z144.pack at h;split at h<;>cases h
 exact Qj Qd Qe rfl rfl rfl rfl (Qb z117.sound (Qb z115.sound (Qb z104.sound (Qb z140.sound (Qb z99.sound (Qb z138.sound (Qb z143.sound (Qb z5.sound (Qb z97.sound (Qb z105.sound (Qb z106.sound Qi))))))))))) fun8 rfl (z144.link _ _ _ _ _ _ _) z8.hdec
end
end Go.Proofs.YtjfipepaaddlmaaGreatDoor.A
end
section
namespace Go.Proofs.YtjfipepaaddlmaaGreatDoor.A
open Go Go.RowKit Go.ChangeShapes Go.WideShapes
noncomputable section
inductive SC where
 |b
 |i (k:IntKind)
 |s
inductive CT where
 |sc (c:SC)
 |sl (cs:List SC)
def scOf:CT->Option SC
 |.sc c=>some c
 |_=>none
def Y5:List CT->Option (List SC)
 |[]=>some []
 |c::l=>(scOf c).bind λx=>(Y5 l).map (x :: ·)
def okS:SC->V->Prop
 |.b,v=>∃x,v=.bool x
 |.i k,v=>∃n,v=.int k n/\(Lit.int k n).wf=true
 |.s,v=>∃l,v=.str l/\l.length<=maxLen
def okSL:List SC->List V->Prop
 |[],vs=>vs=[]
 |c::cs,vs=>∃v l,vs=v::l/\okS c v/\okSL cs l
def okC:CT->V->Prop
 |.sc c,v=>okS c v
 |.sl [.i k],v=>∃l,v=.ints false k l/\(∀n∈l,(Lit.int k n).wf=true)/\l.length<=maxLen
 |.sl [.s],v=>∃l,v=.strs false l/\(∀s∈l,s.length<=maxLen)/\l.length<=maxLen
 |.sl cs,v=>∃l,v=.recs false cs.length l/\(∀r∈l,okSL cs r)/\l.length<=maxLen
def okCL:List CT->List V->Prop
 |[],vs=>vs=[]
 |c::cs,vs=>∃v l,vs=v::l/\okC c v/\okCL cs l
def ctsF (P:Program) (rec:TypeId->Option (List CT)):Nat->List Field->Option (List CT)
 |_,[]=>some []
 |off,f::fs=>if f.offset=off then (rec f.type).bind λl=>if P.cellsOf f.type=l.length then (ctsF P rec (off+l.length) fs).map (l ++ ·) else none else none
def ctsA (l:List CT):Nat->List CT
 |0=>[]
 |n+1=>l++ctsA l n
def cts (P:Program):Nat->TypeId->Option (List CT)
 |0,_=>none
 |
  n+1,t=>
  match P.underlying t with
  |some .bool=>some [.sc .b]
  |some (.int k)=>some [.sc (.i k)]
  |some .string=>some [.sc .s]
  |some (.struct fs)=>(ctsF P (cts P n) 0 fs.toList).bind λl=>if P.cellsOf t=l.length then some l else none
  |some (.array m e)=>(cts P n e).bind λl=>if P.cellsOf e=l.length/\P.cellsOf t=m*l.length then some (ctsA l m) else none
  |some (.slice e)=>(cts P n e).bind λl=>(Y5 l).bind λcs=>if P.cellsOf e=cs.length/\0<cs.length then some [.sl cs] else none
  |_=>none
abbrev noO:Nat->Prop:=λ_=>False
def Qmz (W:World) (c:CT) (cv:Value) (v:V):Prop:=okC c v/\Rep0 noO W cv v/\cv.oneCell'=true
def Yr (W:World) (l:List CT) (cs:List Value) (vs:List V):Prop:=
 cs.length=l.length/\vs.length=l.length/\∀(j:Nat) (c:CT) (cv:Value) (v:V),l[j]? = some c->cs[j]? = some cv->vs[j]? = some v->Qmz W c cv v
theorem cellsR_nil (W:World):Yr W [] [] []:=⟨rfl,rfl,λ(j:Nat) c cv v h=>by simp at h⟩
theorem Qbw {W:World} {c:CT} {cv:Value} {v:V} (h:Qmz W c cv v):Yr W [c] [cv] [v]:=by
 refine ⟨rfl,rfl,λj c' cv' v' h1 h2 h3=>?_⟩
 cases j with
 |zero=>simp at h1 h2 h3;subst h1 h2 h3;exact h
 |succ j=>simp at h1
theorem Qi1 {W:World} {l l':List CT} {cs cs':List Value} {vs vs':List V} (h:Yr W l cs vs) (h':Yr W l' cs' vs'):Yr W (l++l') (cs++cs') (vs++vs'):=by
 obtain ⟨a1,a2,a3⟩:=h;obtain ⟨b1,b2,b3⟩:=h'
 refine ⟨by simp [a1,b1],by simp [a2,b2],λj c cv v h1 h2 h3=>?_⟩
 by_cases hj:j<l.length
 ·rw [Z36 hj] at h1
  rw [Z36 (by omega)] at h2 h3
  exact a3 j c cv v h1 h2 h3
 ·rw [Z58 (by omega)] at h1 h2 h3
  rw [a1] at h2;rw [a2] at h3
  exact b3 _ c cv v h1 h2 h3
theorem Qg4 {W:World}:∀{l:List CT} {cs:List Value} {vs:List V},Yr W l cs vs->okCL l vs
 |[],cs,vs,h=>List.length_eq_zero_iff.1 h.2.1
 |
  c::l,cs,vs,h=>by
  obtain ⟨h1,h2,h3⟩:=h
  match cs,vs,h1,h2 with
  |
   cv::cs,v::vs,h1,h2=>
   exact ⟨v,vs,rfl,(h3 0 c cv v rfl rfl rfl).1,Qg4 (cs:=cs) ⟨by simpa using h1,by simpa using h2,λj c' cv' v' a b d=>h3 (j+1) c' cv' v' (by simpa using a) (by simpa using b) (by simpa using d)⟩⟩
theorem Qjj:∀{l:List CT} {ss:List SC} {vs:List V},Y5 l=some ss->okCL l vs->okSL ss vs
 |[],ss,vs,h,hv=>by simp [Y5] at h;subst h;exact hv
 |
  c::l,ss,vs,h,hv=>by
  simp only [Y5,Z7,Z20] at h
  obtain ⟨x,hx,y,hy,rfl⟩:=h
  obtain ⟨v,r,rfl,h1,h2⟩:=hv
  refine ⟨v,r,rfl,?_,Qjj hy h2⟩
  cases c with
  |sc c=>simp [scOf] at hx;subst hx;exact h1
  |sl _=>simp [scOf] at hx
theorem Qh5:∀{l:List CT} {ss:List SC},Y5 l=some ss->ss.length=l.length
 |[],ss,h=>by simp [Y5] at h;subst h;rfl
 |
  c::l,ss,h=>by
  simp only [Y5,Z7,Z20] at h
  obtain ⟨x,hx,y,hy,rfl⟩:=h
  simp [Qh5 hy]
theorem Qfv {α:Type} {Q:Nat->α->Prop}:∀{n:Nat},(∀i,i<n->∃x,Q i x)->∃l:List α,l.length=n/\∀(i:Nat) (x:α),l[i]? = some x->Q i x
 |0,_=>⟨[],rfl,λi x h=>by simp at h⟩
 |
  n+1,h=>by
  obtain ⟨l,h1,h2⟩:=Qfv (n:=n) λi hi=>h i (by omega)
  obtain ⟨x,hx⟩:=h n (by omega)
  refine ⟨l++[x],by simp [h1],λi y hy=>?_⟩
  by_cases hi:i<l.length
  ·rw [Z36 hi] at hy;exact h2 i y hy
  ·rw [Z58 (by omega)] at hy
   have:i-l.length=0:=by
    rcases Z56 (i-l.length) 1 with h0|h0
    ·omega
    ·rw [Z9 (by simp;omega)] at hy;simp at hy
   rw [this] at hy;simp at hy;subst hy
   have:i=n:=by omega
   subst this;exact hx
theorem Qls {α:Type} (z:Nat) (hz:0<z):∀(l:List (List α)) (j:Nat),(∀e∈l,e.length=z)->l.flatten[j]? = (l[j/z]?).bind (·[j%z]?)
 |[],j,_=>by simp
 |
  e::l,j,h=>by
  have he:=h e (by simp)
  rw [Z48]
  by_cases hj:j<z
  ·rw [Z36 (by omega),Nat.div_eq_of_lt hj,Nat.mod_eq_of_lt hj];rfl
  ·rw [Z58 (by omega),Qls z hz l _ (λx hx=>h x (by simp [hx])),he]
   have h1:j/z=(j-z)/z+1:=by rw [<-Nat.add_div_right (j-z) hz,Nat.sub_add_cancel (by omega)]
   have h2:j%z=(j-z)%z:=by rw [<-Nat.add_mod_right (j-z) z,Nat.sub_add_cancel (by omega)]
   rw [h1,h2];rfl
theorem ones {α:Type} {c:SC} {f:α->V} {Q:α->Prop} (hc:∀v,okS c v->∃n,v=f n/\Q n):∀vss:J2,(∀r∈vss,okSL [c] r) ->
  ∃zs:List α,vss.flatten=zs.map f/\zs.length=vss.length/\∀n∈zs,Q n
 |[],_=>⟨[],rfl,rfl,by simp⟩
 |
  r::vss,h=>by
  obtain ⟨zs,e1,e2,e3⟩:=ones hc vss λx hx=>h x (by simp [hx])
  obtain ⟨v,l,rfl,hv,hl⟩:=h r (by simp)
  have hl:l=[]:=hl
  subst hl
  obtain ⟨n,rfl,hq⟩:=hc v hv
  exact ⟨n::zs,by simp [e1],by simp [e2],by simpa using ⟨hq,e3⟩⟩
theorem Qum {W:World} {t e n m:Nat} {ss:List SC} {l:List CT} {a:Addr} {len cap:Nat} (hs:Y5 l=some ss) (hz:0<ss.length) (hl:len<=cap) (hm:cap<=maxLen)
  (h:∀i,i<len->∃cs vs,W.cells? 0 (a.add (i*ss.length)) ss.length=some cs/\Yr W l cs vs):∃v,okC (.sl ss) v/\Rep0 noO W (.slice (some a) len cap) v:=by
 obtain ⟨rows,h1,h2⟩:=Qfv h
 have hsl:=Qh5 hs
 have hrow:∀(i:Nat) (r:List Value),rows[i]? = some r->∃vs:List V,r.length=ss.length/\okSL ss vs/\vs.length=ss.length/\∀(j:Nat) (cv:Value) (v:V),r[j]? = some cv->vs[j]? = some v->W.cell? (a.add (i*ss.length+j))=some cv/\Rep0 noO W cv v/\cv.oneCell'=true:=by
  intro i r hr
  obtain ⟨vs,hc,hv⟩:=h2 i r hr
  obtain ⟨_,hlen,hcell⟩:=World.cells?_some hc
  refine ⟨vs,hlen,Qjj hs (Qg4 hv),hv.2.1.trans hsl.symm,λj cv v hj hjv=>?_⟩
  have hjl:j<l.length:=by have:=(List.getElem?_eq_some_iff.1 hj).1;omega
  have:=hv.2.2 j l[j] cv v (by simp) hj hjv
  refine ⟨?_,this.2⟩
  rw [<-Go.Deep.add_add,hcell j (by omega),hj]
 have hall:∀i,i<rows.length->∃vs:List V,okSL ss vs/\vs.length=ss.length/\∀(j:Nat) (v:V),vs[j]? = some v->∃cv,W.cell? (a.add (i*ss.length+j))=some cv/\Rep0 noO W cv v/\cv.oneCell'=true:=by
  intro i hi
  obtain ⟨vs,q1,q2,q3,q4⟩:=hrow i rows[i] (by simp [hi])
  refine ⟨vs,q2,q3,λj v hv=>?_⟩
  have:j<ss.length:=by have:=(List.getElem?_eq_some_iff.1 hv).1;omega
  exact ⟨_,q4 j (rows[i][j]'(by omega)) v (by simp) hv⟩
 obtain ⟨vss,g1,g2⟩:=Qfv hall
 have hvlen:∀e∈vss,e.length=ss.length:=λe he=>by obtain ⟨i,hi,rfl⟩:=Z74 he;exact (g2 i _ (by simp [hi])).2.1
 have gen:∀v:V,flatV v=some (len,vss.flatten)->isExact v=false->Rep0 noO W (.slice (some a) len cap) v:=by
  intro v hf hx
  have hcell:∀(j:Nat) (v:V),vss.flatten[j]? = some v->∃cv,W.cell? (a.add j)=some cv/\Rep0 noO W cv v/\cv.oneCell'=true:=by
   intro j v hv
   rw [Qls ss.length hz vss j hvlen] at hv
   obtain ⟨r,hr,hv⟩:=Z7.1 hv
   obtain ⟨cv,k1,k2⟩:=(g2 _ r hr).2.2 _ v hv
   refine ⟨cv,?_,k2⟩
   rw [show j=j/ss.length*ss.length+j%ss.length by rw [Z47];exact (Z71 j ss.length).symm]
   exact k1
  refine .slice (some a) len cap v vss.flatten (λj=>(W.cell? (a.add j)).getD Go.undef) hf (by simp [hx]) hl (by simp) (λj hj=>?_) (λj hj=>?_) (λj hj=>?_)
  ·obtain ⟨cv,k1,k2,k3⟩:=hcell j _ (Z1 hj)
   exact ⟨a,rfl,λh=>h.elim,by rw [k1];rfl⟩
  ·obtain ⟨cv,k1,k2,k3⟩:=hcell j _ (Z1 hj)
   rw [k1];exact k3
  ·obtain ⟨cv,k1,k2,k3⟩:=hcell j _ (Z1 hj)
   rw [k1];exact k2
 have hlen':vss.length=len:=by omega
 have recs:∃v,(∃l,v=V.recs false ss.length l/\(∀r∈l,okSL ss r)/\l.length<=maxLen)/\Rep0 noO W (.slice (some a) len cap) v:=by
  refine ⟨.recs false ss.length vss,⟨vss,rfl,λr hr=>?_,by omega⟩,gen _ ?_ rfl⟩
  ·obtain ⟨i,hi,rfl⟩:=Z74 hr;exact (g2 i _ (by simp [hi])).1
  ·simp only [flatV];rw [if_pos ⟨hz,hvlen⟩,hlen']
 match ss,hs,hz,recs,g2,gen,hvlen with
 |[],_,hz,_,_,_,_=>simp at hz
 |[.b],_,_,recs,_,_,_=>exact recs
 |x::y::_,_,_,recs,_,_,_=>exact by cases x<;>exact recs
 |
  [.i k],_,_,recs,g2,gen,hvlen=>
  obtain ⟨zs,e1,e2,e3⟩:=ones (c:=.i k) (f:=V.int k) (λv h=>h) vss λr hr=>by
   obtain ⟨i,hi,rfl⟩:=Z74 hr;exact (g2 i _ (by simp [hi])).1
  refine ⟨.ints false k zs,⟨zs,rfl,e3,by omega⟩,gen _ ?_ rfl⟩
  simp only [flatV];rw [e1,e2,hlen']
 |
  [.s],_,_,recs,g2,gen,hvlen=>
  obtain ⟨zs,e1,e2,e3⟩:=ones (c:=.s) (f:=V.str) (λv h=>h) vss λr hr=>by
   obtain ⟨i,hi,rfl⟩:=Z74 hr;exact (g2 i _ (by simp [hi])).1
  refine ⟨.strs false zs,⟨zs,rfl,e3,by omega⟩,gen _ ?_ rfl⟩
  simp only [flatV];rw [e1,e2,hlen']
theorem Qrc {W:World} {ss:List SC} (hz:0<ss.length):∃v,okC (.sl ss) v/\Rep0 noO W (.slice none 0 0) v:=by
 have gen:∀v:V,flatV v=some (0,[])->isExact v=false->Rep0 noO W (.slice none 0 0) v:=λv hf hx=>
  .slice none 0 0 v [] (λ_=>Go.undef) hf (by simp [hx]) (Z5 _) (λ_=>rfl) (λj hj=>by simp at hj) (λj hj=>by simp at hj) (λj hj=>by simp at hj)
 match ss,hz with
 |[.i k],_=>exact ⟨.ints false k [],⟨[],rfl,by simp,by simp⟩,gen _ rfl rfl⟩
 |[.s],_=>exact ⟨.strs false [],⟨[],rfl,by simp,by simp⟩,gen _ rfl rfl⟩
 |[.b],_=>exact ⟨.recs false 1 [],⟨[],rfl,by simp,by simp⟩,gen _ (by simp [flatV]) rfl⟩
 |a::a'::ss,_=>exact ⟨.recs false (a::a'::ss).length [],by cases a<;>exact ⟨[],rfl,by simp,by simp⟩,gen _ (by simp [flatV]) rfl⟩
section
variable {H:Type} {enc:TypeId×Value->H} {P:Program} {W:World}
theorem Qdi:∀(n:Nat) (t:TypeId) (l:List CT),cts P n t=some l->∀(fuel:Nat) (cs:List Value) (x:DataW H×List MemPlace),DataW.trod enc P W 0 (λ_=>true) true fuel t cs=some x ->
  ∃vs,Yr W l cs vs
 |0,t,l,h,_,_,_,_=>by simp [cts] at h
 |
  n+1,t,l,h,fuel,cs,x,hx=>by
  unfold cts at h
  split at h
  ·rename_i ht
   simp at h;subst h
   obtain ⟨bb,rfl,_⟩:=DataW.trod_bool ht hx
   exact ⟨[.bool bb],Qbw ⟨⟨bb,rfl⟩,.bool bb,rfl⟩⟩
  ·rename_i k ht
   simp at h;subst h
   obtain ⟨b,rfl,_,hw⟩:=DataW.trod_int ht hx
   exact ⟨[.int k b],Qbw ⟨⟨b,rfl,hw⟩,.int k b,rfl⟩⟩
  ·rename_i ht
   simp at h;subst h
   obtain ⟨b,rfl,_,hw⟩:=DataW.trod_string ht hx
   exact ⟨[.str b.data.toList],Qbw ⟨⟨_,rfl,by simpa using hw⟩,.str _ _ rfl,rfl⟩⟩
  ·rename_i fs ht
   obtain ⟨l',h1,h2⟩:=Z7.1 h
   split at h2
   case isFalse=>simp at h2
   rename_i hsz
   simp at h2;subst h2
   obtain ⟨xs,m,_,_,hlen,hxl,hf⟩:=DataW.trod_struct ht hx
   have key:∀(gs:List Field) (off:Nat) (l':List CT),ctsF P (cts P n) off gs=some l'->(∀f∈gs,∃y,DataW.trod enc P W 0 (λ_=>true) true m f.type ((cs.drop f.offset).take (P.cellsOf f.type))=some y) ->
     ∃vs,Yr W l' ((cs.drop off).take l'.length) vs:=by
    intro gs
    induction gs with
    |nil=>intro off l' h _;simp [ctsF] at h;subst h;exact ⟨[],by simpa using cellsR_nil W⟩
    |
     cons f gs ih=>
     intro off l' h hg
     unfold ctsF at h
     split at h
     case isFalse=>simp at h
     rename_i hoff
     obtain ⟨lf,h1,h2⟩:=Z7.1 h
     split at h2
     case isFalse=>simp at h2
     rename_i hsz
     obtain ⟨l2,h3,rfl⟩:=Z20.1 h2
     obtain ⟨y,hy⟩:=hg f (by simp)
     obtain ⟨vs1,c1⟩:=Qdi n f.type lf h1 m _ y hy
     obtain ⟨vs2,c2⟩:=ih _ _ h3 λf' hf'=>hg f' (by simp [hf'])
     refine ⟨vs1++vs2,?_⟩
     have hc:=Qi1 c1 c2
     rw [hoff,hsz] at hc
     have hl1:lf.length<=(cs.drop off).length:=by
      have:=c1.1;rw [hoff,hsz,Z11] at this;omega
     rw [Z2,List.take_add,Z92]
     exact hc
   have hall:∀f∈fs.toList,∃y,DataW.trod enc P W 0 (λ_=>true) true m f.type ((cs.drop f.offset).take (P.cellsOf f.type))=some y:=by
    intro f hf'
    obtain ⟨i,hi,rfl⟩:=Z74 hf'
    have hi':i<fs.size:=by simpa using hi
    have:=hf i (fs.toList[i]) (by simp [hi'])
    rw [Z1 (by omega)] at this
    exact ⟨_,this⟩
   obtain ⟨vs,hv⟩:=key fs.toList 0 _ h1 hall
   refine ⟨vs,?_⟩
   rwa [Z65,Z23 (by omega)] at hv
  ·rename_i m e ht
   obtain ⟨l',h1,h2⟩:=Z7.1 h
   split at h2
   case isFalse=>simp at h2
   rename_i hsz
   simp at h2;subst h2
   obtain ⟨xs,q,_,_,hlen,hxl,hf⟩:=DataW.trod_array ht hx
   have key:∀(k:Nat),k<=m->∃vs,Yr W (ctsA l' k) ((cs.drop ((m-k)*l'.length)).take (k*l'.length)) vs:=by
    intro k
    induction k with
    |zero=>intro _;exact ⟨[],by simpa [ctsA] using cellsR_nil W⟩
    |
     succ k ih=>
     intro hk
     obtain ⟨vs2,c2⟩:=ih (by omega)
     have h3:=hf (m-(k+1)) (by omega)
     rw [Z1 (by omega)] at h3
     obtain ⟨vs1,c1⟩:=Qdi n e l' h1 q _ _ h3
     refine ⟨vs1++vs2,?_⟩
     have hc:=Qi1 c1 c2
     rw [hsz.1] at hc
     have e1:(m-k)*l'.length=(m-(k+1))*l'.length+l'.length:=by
      rw [<-Nat.succ_mul];congr 1;omega
     have e2:(k+1)*l'.length=l'.length+k*l'.length:=by rw [Nat.succ_mul,Nat.add_comm]
     rw [e1,<-Z92] at hc
     rw [e2,List.take_add]
     exact hc
   obtain ⟨vs,hv⟩:=key m (Z5 _)
   refine ⟨vs,?_⟩
   rwa [Nat.sub_self,Nat.zero_mul,Z65,Z23 (by omega)] at hv
  ·rename_i e ht
   obtain ⟨l',h1,h2⟩:=Z7.1 h
   obtain ⟨ss,h3,h4⟩:=Z7.1 h2
   split at h4
   case isFalse=>simp at h4
   rename_i hsz
   simp at h4;subst h4
   rcases Go.Deep.open_slice ht hx with ⟨rfl,_⟩|⟨a,len,cap,m,q,D,Pl,rfl,_,hl,hm,hmm,_,hi⟩
   ·obtain ⟨v,k1,k2⟩:=Qrc (W:=W) hsz.2
    exact ⟨[v],Qbw ⟨k1,k2,rfl⟩⟩
   ·simp only [if_true] at hmm
    subst hmm
    rw [hsz.1] at hi
    obtain ⟨v,k1,k2⟩:=Qum (t:=0) (e:=0) (n:=0) (m:=0) h3 hsz.2 hl hm λi hi'=>by
     obtain ⟨cs',c1,c2⟩:=hi i (by omega)
     obtain ⟨vs,c3⟩:=Qdi n e l' h1 q _ _ c2
     exact ⟨cs',vs,c1,c3⟩
    exact ⟨[v],Qbw ⟨k1,k2,rfl⟩⟩
  ·simp at h
inductive AT where
 |one (c:CT)
 |agg (l:List CT)
def okA:AT->V->Prop
 |.one c,v=>okC c v
 |.agg l,v=>∃vs,v=.agg vs/\okCL l vs
def okAL:List AT->List V->Prop
 |[],vs=>vs=[]
 |c::cs,vs=>∃v l,vs=v::l/\okA c v/\okAL cs l
def atOf (P:Program) (n:Nat) (t:TypeId):Option AT:=
 (cts P n t).bind λl=>match P.underlying t with
  |some (.struct _)|some (.array _ _)=>some (.agg l)
  |
   _=>match l with
   |[c]=>some (.one c)
   |_=>none
def Qbe (P:Program) (n:Nat):List TypeId->Option (List AT)
 |[]=>some []
 |t::ts=>(atOf P n t).bind λx=>(Qbe P n ts).map (x :: ·)
theorem Qq7 {n:Nat} {t:TypeId} {q:AT} (hq:atOf P n t=some q) {base:Nat} {v:Value} {d:DataW H} {ps:List MemPlace} (hval:Value.okWide P W .any base t v) (h:DataW.Trod enc P W 0 (λ_=>true) true t v d ps) :
  ∃x,okA q x/\Rep0 noO W v x:=by
 obtain ⟨l,h1,h2⟩:=Z7.1 hq
 obtain ⟨fuel,hf⟩:=h
 obtain ⟨vs,hv⟩:=Qdi n t l h1 fuel _ _ hf
 have aggCase:(∃cs,v=.agg cs)->∃x,okA (.agg l) x/\Rep0 noO W v x:=by
  rintro ⟨cs,rfl⟩
  have hc:(Value.agg cs).cells.toList=cs.toList:=rfl
  rw [hc] at hv
  refine ⟨.agg vs,⟨vs,rfl,Qg4 hv⟩,.agg cs vs (by have:=hv.1;have:=hv.2.1;simp at *;omega) (λj hj=>?_) (λj hj=>?_)⟩ <;>
  ·have hj1:j<cs.size:=by have:=hv.1;have:=hv.2.1;simp at *;omega
   have:=hv.2.2 j (l[j]'(by have:=hv.2.1;omega)) cs[j] vs[j] (by simp) (by simp [hj1]) (by simp)
   have e:cs.getD j Go.undef=cs[j]:=by simp [Array.getD,hj1]
   rw [e]
   first|exact this.2.2|exact this.2.1
 split at h2
 ·rename_i fs ht
  simp at h2;subst h2
  obtain ⟨cs,rfl,_⟩:=okWide_struct ht hval
  exact aggCase ⟨cs,rfl⟩
 ·rename_i m e ht
  simp at h2;subst h2
  unfold Value.okWide at hval
  rw [ht] at hval
  obtain ⟨cs,rfl,_⟩:=hval
  exact aggCase ⟨cs,rfl⟩
 ·rename_i hns hna
  split at h2
  case h_2=>simp at h2
  rename_i c
  simp at h2;subst h2
  obtain ⟨a1,a2,a3⟩:=hv
  match vs,a2 with
  |
   [x],_=>
   have hcells:v.cells = #[v]:=by
    cases v with
    |
     agg cs=>
     exfalso
     unfold Value.okWide at hval
     cases n with
     |zero=>simp [cts] at h1
     |
      succ n=>
      unfold cts at h1
      split at h1<;>rename_i ht
      ·rw [ht] at hval;simp [Cell.okWide,Cell.ok,ht] at hval
      ·rw [ht] at hval;simp [Cell.okWide,Cell.ok,ht] at hval
      ·rw [ht] at hval;simp [Cell.okWide,Cell.ok,ht] at hval
      ·exact hns _ ht
      ·exact hna _ _ ht
      ·rw [ht] at hval;simp [Cell.okWide,Cell.ok,ht] at hval
      ·simp at h1
    |_=>rfl
   rw [hcells] at a3
   have:=a3 0 c v x rfl rfl rfl
   exact ⟨x,this.1,this.2.1⟩
theorem Qjx {n:Nat}:∀{ts:List TypeId} {qs:List AT} {args:List Value} {ds:List (DataW H)} {ps:List MemPlace} {base:Nat},Qbe P n ts=some qs->DataW.TrodAll enc P W 0 (λ_=>true) true ts args ds ps ->
  (∀(j:Nat) t v,ts[j]? = some t->args[j]? = some v->Value.okWide P W .any base t v) ->
  ∃vs,args.length=vs.length/\okAL qs vs/\∀j (h:j<vs.length),Rep0 noO W (args.getD j Go.undef) vs[j]
 |
  [],qs,args,ds,ps,base,hq,h,_=>by
  simp [Qbe] at hq;subst hq
  obtain ⟨rfl,rfl,rfl⟩:=trodAll_nil h
  exact ⟨[],rfl,rfl,λj h=>by simp at h⟩
 |
  t::ts,qs,args,ds,ps,base,hq,h,hval=>by
  simp only [Qbe,Z7,Z20] at hq
  obtain ⟨q,hq1,qs',hq2,rfl⟩:=hq
  obtain ⟨v,vs,d,ds',p,p',rfl,rfl,rfl,h1,h2⟩:=trodAll_cons h
  obtain ⟨x,k1,k2⟩:=Qq7 hq1 (hval 0 t v rfl rfl) h1
  obtain ⟨xs,l1,l2,l3⟩:=Qjx hq2 h2 λj t v a b=>hval (j+1) t v (by simpa using a) (by simpa using b)
  refine ⟨x::xs,by simp [l1],⟨x,xs,rfl,k1,l2⟩,λj hj=>?_⟩
  cases j with
  |zero=>exact k2
  |succ j=>simpa using l3 j (by simpa using hj)
theorem Qt7 {ts:List TypeId} (hl:laidOutB P=true) (hr:ts.all (λt=>P.readableRec t&&decide (t<P.types.size))=true) {W':World} (hb:Below W.heap.size W W') {sp:Nat->Bool} :
  ∀
   {vs:List Value} {ds:List (DataW H)} {ps:List MemPlace},DataW.TrodAll enc P W 0 (λ_=>true) true ts vs ds ps->(∀x∈ps,x.block<W.heap.size)->(∀x∈ps,sp x.block=true) ->
   DataW.TrodAll enc P W' 0 sp true ts vs ds ps:=by
 induction ts with
 |
  nil=>
  intro vs ds ps h _ _
  obtain ⟨rfl,rfl,rfl⟩:=trodAll_nil h
  exact trodAll_mk0
 |
  cons t ts ih=>
  intro vs ds ps h hlt hsp
  obtain ⟨v,vs',d,ds',p,p',rfl,rfl,rfl,h1,h2⟩:=trodAll_cons h
  simp only [List.all_cons,Z4,decide_eq_true_eq] at hr
  exact trodAll_cons_mk (WideElems.Trod_stays hl hr.1.1 hr.1.2 h1 (λx hx=>hb.same (hlt x (by simp [hx]))) (λx hx=>hsp x (by simp [hx])))
   (ih hr.2 h2 (λx hx=>hlt x (by simp [hx])) (λx hx=>hsp x (by simp [hx])))
theorem Qty {f:Func} {s:ChangeSpec} {apart fresh handsOn again:Bool} {W W':World} {args:Array Value} {v:Value} {ds gs:List (DataW H)} {before pa pv:List MemPlace}
  (hW:DataW.Whole enc P f.params.toList s.vars apart W args.toList ds gs before)
  (hres:∀(b:Nat) (sp:Nat->Bool) (hd:Bool),DataW.TrodAll enc P W' b sp hd f.resultTypes.toList (v.resultList f.resultTypes.size) (s.fn H (ds++gs)).results [])
  (hargs:∀sp:Nat->Bool,(∀p∈before,sp p.block=true)->DataW.TrodAll enc P W' 0 sp true f.params.toList args.toList (s.fn H (ds++gs)).args pa)
  (hvars:∀sp:Nat->Bool,(∀p∈before,sp p.block=true)->DataW.TrodVars enc P W' sp s.vars (s.fn H (ds++gs)).vars pv)
  (hps:before=pa++pv) (hb:Below W.heap.size W W')
  (hok:∀(j:Nat) (t:TypeId) (r:Value),f.resultTypes[j]? = some t->(v.resultList f.resultTypes.size)[j]? = some r->Value.okWide P W' .any 0 t r) :
  s.post enc P f apart fresh handsOn again W args v W':=by
 have hlt:∀p∈before,p.block<W.heap.size:=λp hp=>hW.lt p hp
 have hold:∀p∈before,(λb=>decide (b<W.heap.size)) p.block=true:=λp hp=>by simpa using hlt p hp
 refine ⟨ds,gs,before,[],pa,pv,hW,hres _ _ _,hargs _ hold,hvars _ hold,World.keptBut_mono (λp hp=>⟨hp,?_⟩) (hb.frame (·∈before)),λ_=>?_⟩
 ·rw [hps,Z32] at hp
  exact Or.inr hp
 ·obtain ⟨_,_,_,_,_,hz,hn⟩:=hW
  refine ⟨hok,_,_,([]++pa)++pv,⟨[]++pa,pv,trodAll_append (hargs _ (λ_ _=>rfl)) (hres _ _ _),hvars _ (λ_ _=>rfl),rfl,?_,?_⟩,?_⟩
  ·intro b off hp
   have hin:MemPlace.cell b off∈before:=by rw [hps];simpa using hp
   rw [hb.frozen (hlt _ hin)]
   exact hz b off hin
  ·intro ha
   have:=hn ha
   rw [hps] at this
   simpa using this
  ·intro p hp _
   rw [hps]
   simpa using hp
theorem Qom {g:Nat} {f:Func} {c:Code} (hf:FunOK P g f c) {s:ChangeSpec} {n:Nat} {qs:List AT} {tb:TypeId} (hl:laidOutB P=true) (hr:f.params.toList.all (λt=>P.readableRec t&&decide (t<P.types.size))=true)
  (hq:Qbe P n f.params.toList=some qs) (hres:f.resultTypes = #[tb]) (htb:P.underlying tb=some .bool) (hv:s.vars=[])
  (hs:∀ds:List (DataW H),ds.length=f.params.toList.length->s.fn H ds={results:=[.lit (.bool true)],args:=ds})
  (plain:∀vs,okAL qs vs->∃p r,SoundC P g vs p/\p.m=some r/\p.enc r=.bool true)
  (W:World) (base:Nat) (args:Array Value) (ds gs:List (DataW H)) (before:List MemPlace)
  (hval:∀(j:Nat) t v,f.params[j]? = some t->args[j]? = some v->Value.okWide P W .any base t v)
  (hW:DataW.Whole enc P f.params.toList s.vars false W args.toList ds gs before) :
  Calls P g args W λe W'=>∃v,e=.returned v/\s.post enc P f false true false false W args v W':=by
 have hW':=hW
 have hlt:∀p∈before,p.block<W.heap.size:=λp hp=>hW.lt p hp
 obtain ⟨p,q,hA,hV,rfl,hfz,hnd⟩:=hW
 have hA:DataW.TrodAll enc P W 0 (λ_=>true) true f.params.toList args.toList ds p:=hA
 rw [hv] at hV
 obtain ⟨rfl,rfl⟩:=trodVars_none hV
 obtain ⟨vs,h1,h2,h3⟩:=Qjx hq hA λj t v a b=>hval j t v (by simpa using a) (by simpa using b)
 obtain ⟨pk,r,hsound,hm,he⟩:=plain vs h2
 have hcall:=hsound noO W args r hm (by simpa using h1) (λj hj=>by
  have h4:=h3 j hj
  have:args.getD j Go.undef=args.toList.getD j Go.undef:=by
   have hj':j<args.size:=by rw [<-Z26,h1];exact hj
   simp [Array.getD,List.getD,hj']
  rwa [this]) (λb h=>h.elim)
 unfold CallR at hcall
 rw [hf.enters] at hcall
 have hlen:∀{ts:List TypeId} {vs:List Value} {ds:List (DataW H)} {ps:List MemPlace},DataW.TrodAll enc P W 0 (λ_=>true) true ts vs ds ps->ds.length=ts.length:=by
  intro ts
  induction ts with
  |nil=>intro vs ds ps h;obtain ⟨_,rfl,_⟩:=trodAll_nil h;rfl
  |cons t ts ih=>intro vs ds ps h;obtain ⟨_,_,_,_,_,_,_,rfl,_,_,h2⟩:=trodAll_cons h;simp [ih h2]
 refine hcall.mono λe W' h=>?_
 cases e with
 |
  returned cv=>
  obtain ⟨hg,hrep⟩:=h
  rw [he] at hrep
  obtain rfl:cv=.bool true:=by
   cases hrep
   ·rfl
   ·rename_i hf _;cases hf
  have hb:Below W.heap.size W W':=⟨hg.os,hg.tape,hg.output,hg.size,λk hk=>hg.block k hk (by simp)⟩
  have hfn:=hs ds (hlen hA)
  refine ⟨_,rfl,Qty (pa:=p) (pv:=[]) hW' ?_ ?_ ?_ rfl hb ?_⟩
  ·intro b sp hd
   rw [Z35,hfn,hres]
   exact trodAll_cons_mk (shut_bool htb _) trodAll_mk0
  ·intro sp hsp
   rw [Z35,hfn]
   exact Qt7 hl hr hb hA (λx hx=>hlt x (by simp [hx])) (λx hx=>hsp x (by simp [hx]))
  ·intro sp hsp
   rw [Z35,hfn,hv]
   rfl
  ·exact ok_one hres rfl (okWide_bool_mk htb _)
 |_=>exact h.elim
end
end
end Go.Proofs.YtjfipepaaddlmaaGreatDoor.A
end
section
namespace Go.Proofs.YtjfipepaaddlmaaGreatDoor.A
open Go
theorem own:ownKnob Tryz.prog.godebug=none:=by kernel_rfl
theorem laidOut:laidOutB Tryz.prog=true:=by kernel_rfl
theorem rowed:mapsRowed Tryz.prog=true:=by kernel_rfl
theorem Quz:(Tryz.prog.stops == [])=true:=by kernel_rfl
theorem Qqo:(Tryz.prog.stopKnobs == [])=true:=by kernel_rfl
theorem Qsf:Tryz.prog.stopsHeard=true:=by kernel_rfl
theorem Qux:Tryz.prog.mayEnter=true:=by kernel_rfl
theorem Qqj:false=Tryz.prog.looks []:=by kernel_rfl
theorem main:Tryz.pinned.checked.prog.mainIs=some (true,("cfe5d7253a358151c2ab5ce2983a554a030f76eb31568c1f02fd0fb291c53683":String).toList):=by kernel_rfl
noncomputable def relay (l:J0):Obj->Obj
 |.cells _ t fz=>.cells (l.map λn=>Value.int .u8 n).toArray t fz
 |o=>o
noncomputable def accept:J0:=[128,191,160,191,128,159,144,191,128,143,0,0,0,0,0,0,0,0,0,0,0,0,0,0,0,0,0,0,0,0,0,0]
noncomputable def Qhs (os:Os):World:=
 let w:=World.holding Tryz.prog os ⟨#[],#[],[]⟩
 {w with heap:=(w.heap.modify 3 (relay (Go.Pinned.utf8FirstZ.map Int.ofNat))).modify 4 (relay accept)}
def Runs {σ R:Type} (F:(σ->Option R)->σ->Option R) (x:σ) (r:R):Prop:=
 (∃n,Q6 F n x=some r)/\∀n,Q6 F n x=none\/Q6 F n x=some r
theorem Runs.done {σ R:Type} {F:(σ->Option R)->σ->Option R} {x:σ} {r:R} (h:∀rec,F rec x=some r):Runs F x r:=by
 refine ⟨⟨1,h _⟩,λn=>?_⟩
 cases n with
 |zero=>exact .inl rfl
 |succ n=>exact .inr (h _)
theorem Runs.step {σ R:Type} {F:(σ->Option R)->σ->Option R} {x y:σ} {r:R} (h:∀rec,F rec x=rec y) (hy:Runs F y r):Runs F x r:=by
 obtain ⟨⟨m,hm⟩,ha⟩:=hy
 refine ⟨⟨m+1,by rw [<-hm];exact h _⟩,λn=>?_⟩
 cases n with
 |zero=>exact .inl rfl
 |succ n=>have:=ha n;rw [<-h (Q6 F n)] at this;exact this
theorem Runs.lfp {σ R:Type} {F:(σ->Option R)->σ->Option R} {x:σ} {r:R} (h:Runs F x r):A.lfp F x=some r:=by
 obtain ⟨⟨m,hm⟩,ha⟩:=h
 unfold A.lfp
 have hex:∃n,(Q6 F n x).isSome:=⟨m,by rw [hm];rfl⟩
 rw [dif_pos hex]
 rcases ha (Classical.choose hex) with h0|h0
 ·have:=Classical.choose_spec hex
  rw [h0] at this;simp at this
 ·exact h0
theorem Qg {n:Int} (h1:-9223372036854775808<=n) (h2:n<9223372036854775808):wr .i64 n=n:=by
 simp only [wr,IntKind.wrap,IntKind.signed,IntKind.bits]
 simp;omega
theorem Qq {n:Int} (h1:0<=n) (h2:n<18446744073709551616):wr .u64 n=n:=by
 simp only [wr,IntKind.wrap,IntKind.signed,IntKind.bits]
 simp;omega
theorem W7 (n:Int):wr .u64 n=n%18446744073709551616:=by
 simp [wr,IntKind.wrap,IntKind.signed,IntKind.bits]
theorem J7 {n:Int} (h1:0<=n) (h2:n<256):wr .u8 n=n:=by
 simp only [wr,IntKind.wrap,IntKind.signed,IntKind.bits]
 simp;omega
theorem Qvz {n:Int} (h:(Lit.int .u32 n).wf=true):0<=n/\n<4294967296:=by
 simp [Lit.wf,IntKind.min,IntKind.max,IntKind.signed,IntKind.bits] at h;omega
theorem Qeb {n:Int} (h:(Lit.int .u8 n).wf=true):0<=n/\n<256:=by
 simp [Lit.wf,IntKind.min,IntKind.max,IntKind.signed,IntKind.bits] at h;omega
theorem Qbf {a b:Int} (h:0<=a):Int.tdiv a b=a/b:=Int.tdiv_eq_ediv_of_nonneg h
theorem Qbo {a b:Int} (h:0<=a):Int.tmod a b=a%b:=Z34 h
def toB (B n:Nat):J0:=if h:2<=B/\0<n then ((n%B:Nat):Int)::toB B (n/B) else []
termination_by n
decreasing_by exact Z87 h.2 h.1
def valB (B:Nat):J0->Int
 |[]=>0
 |x::l=>x+B*valB B l
theorem toB_zero (B:Nat):toB B 0=[]:=by unfold toB;rw [dif_neg];omega
theorem Wv {B n:Nat} (hB:2<=B) (hn:0<n):toB B n=((n%B:Nat):Int)::toB B (n/B):=by
 rw [toB];rw [dif_pos ⟨hB,hn⟩]
def inB (B:Nat) (l:J0):Prop:=∀x∈l,0<=x/\x<B
theorem Ym {B:Nat} {x:Int} {l:J0}:inB B (x::l)↔(0<=x/\x<B)/\inB B l:=by simp [inB]
theorem Jv (B:Nat):inB B []:=by simp [inB]
theorem Qj1 {B:Nat} {l l':J0}:inB B (l++l')↔inB B l/\inB B l':=by
 simp only [inB,Z32]
 exact ⟨λh=>⟨λx hx=>h x (.inl hx),λx hx=>h x (.inr hx)⟩,λh x hx=>hx.elim (h.1 x) (h.2 x)⟩
theorem Q4 {B:Nat} (hB:2<=B) (n:Nat):inB B (toB B n):=by
 induction n using Nat.strongRecOn with
 |
  _ n ih=>
  rcases Z15 n with rfl|hn
  ·rw [toB_zero];exact Jv B
  ·rw [Wv hB hn,Ym]
   refine ⟨⟨by omega,?_⟩,ih _ (Z87 hn hB)⟩
   exact_mod_cast Z91 n (by omega)
theorem Wc {B:Nat} (hB:2<=B) (n:Nat):valB B (toB B n)=n:=by
 induction n using Nat.strongRecOn with
 |
  _ n ih=>
  rcases Z15 n with rfl|hn
  ·rw [toB_zero];rfl
  ·rw [Wv hB hn,valB,ih _ (Z87 hn hB)]
   exact_mod_cast Nat.mod_add_div n B
theorem Qeg {B:Nat}:∀{l:J0},inB B l->0<=valB B l
 |[],_=>Int.le_refl 0
 |
  x::l,h=>by
  rw [Ym] at h
  have:=Qeg h.2
  have:=Z79 (Int.natCast_nonneg B) this
  unfold valB;omega
theorem Qcr {B:Nat} (hB:2<=B):∀{l:J0},inB B l->valB B l<(B^l.length:Nat)
 |[],_=>by simp [valB]
 |
  x::l,h=>by
  rw [Ym] at h
  have h1:=Qcr hB h.2
  have h2:(B:Int)*(valB B l+1)<=B*(B^l.length:Nat):=Int.mul_le_mul_of_nonneg_left (by omega) (by omega)
  have h3:(B:Int)*(valB B l+1)=B*valB B l+B:=by rw [Int.mul_add,Int.mul_one]
  have h4:((B^(x::l).length:Nat):Int)=B*(B^l.length:Nat):=by
   rw [Z8,Z42,Z47];exact_mod_cast rfl
  rw [h4];unfold valB;omega
theorem Qeh (B:Nat):∀(l l':J0),valB B (l++l')=valB B l+(B^l.length:Nat)*valB B l'
 |[],l'=>by simp [valB]
 |
  x::l,l'=>by
  rw [List.cons_append,valB,valB,Qeh B l l',Z8,Z42,Z47 (B^l.length) B,Z30,Int.mul_add,Int.mul_assoc,Int.add_assoc]
theorem Qgb {B:Nat} (hB:2<=B):∀{l:J0},inB B l->(∀h:l≠[],l.getLast h≠0)->l=toB B (valB B l).toNat
 |[],_,_=>by simp [valB,toB_zero]
 |
  x::l,h,hl=>by
  rw [Ym] at h
  have hn:=Qeg h.2
  have ih:=Qgb hB h.2 λhne=>by have:=hl (by simp);rwa [List.getLast_cons hne] at this
  have hpos:0<(valB B (x::l)).toNat:=by
   have hm:=Z79 (Int.natCast_nonneg B) hn
   unfold valB
   by_cases hx:x=0
   ·have hne:l≠[]:=λe=>by subst e;exact hl (by simp) (by simpa using hx)
    have:0<valB B l:=by
     rcases Int.lt_or_eq_of_le hn with h0|h0
     ·exact h0
     ·rw [<-h0] at ih;simp [toB_zero] at ih;exact absurd ih hne
    have:=Int.mul_pos (show (0:Int)<B by omega) this
    omega
   ·omega
  have e1:(valB B (x::l)).toNat=x.toNat+B*(valB B l).toNat:=by
   have hv:valB B (x::l)=x+B*valB B l:=rfl
   rw [hv]
   have hm:=Z79 (Int.natCast_nonneg B) hn
   have:((B*(valB B l).toNat:Nat):Int)=B*valB B l:=by rw [Z30,Int.toNat_of_nonneg hn]
   omega
  have hx:x.toNat<B:=by omega
  rw [Wv hB hpos,e1,Nat.add_mul_mod_self_left,Nat.mod_eq_of_lt hx,Nat.add_mul_div_left _ _ (by omega),Nat.div_eq_of_lt hx,Z25,<-ih,Int.toNat_of_nonneg h.1.1]
theorem Qtm {B:Nat} (hB:2<=B) (n:Nat):∀h:toB B n≠[],(toB B n).getLast h≠0:=by
 induction n using Nat.strongRecOn with
 |
  _ n ih=>
  intro h
  rcases Z15 n with rfl|hn
  ·exact absurd (toB_zero B) h
  ·have e:=Wv hB hn
   simp only [e]
   by_cases hq:toB B (n/B)=[]
   ·simp only [hq,List.getLast_singleton]
    have h0:n/B=0:=by
     rcases Z15 (n/B) with h0|h0
     ·exact h0
     ·rw [Wv hB h0] at hq;simp at hq
    have:n<B:=by
     rcases Z56 n B with h1|h1
     ·exact h1
     ·have:=Nat.div_pos h1 (by omega);omega
    rw [Nat.mod_eq_of_lt this];omega
   ·rw [List.getLast_cons hq]
    exact ih _ (Z87 hn hB) hq
theorem toB_nil {B n:Nat} (hB:2<=B):toB B n=[]↔n=0:=by
 constructor
 ·intro h
  rcases Z15 n with h0|h0
  ·exact h0
  ·rw [Wv hB h0] at h;simp at h
 ·rintro rfl;exact toB_zero B
theorem Qf5 {B n:Nat} (hB:2<=B):n<B^(toB B n).length:=by
 have:=Qcr hB (Q4 hB n)
 rw [Wc hB] at this
 exact_mod_cast this
theorem Ja {B:Nat} (hB:2<=B):∀{k n:Nat},n<B^k->(toB B n).length<=k
 |0,n,h=>by
         have:n=0:=by simpa using h
         subst this;simp [toB_zero]
 |
  k+1,n,h=>by
  rcases Z15 n with rfl|hn
  ·simp [toB_zero]
  ·rw [Wv hB hn,Z8]
   have:n/B<B^k:=Nat.div_lt_of_lt_mul (by rw [Z42,Z47] at h;exact h)
   have:=Ja hB this
   omega
theorem Qtk {B n:Nat} (hB:2<=B) (hn:0<n):B^((toB B n).length-1)<=n:=by
 rcases Z56 n (B^((toB B n).length-1)) with h|h
 ·have h1:=Ja hB h
  have h2:toB B n≠[]:=λe=>by rw [toB_nil hB] at e;omega
  have:=Z22.2 h2
  omega
 ·exact h
theorem bif_t {α:Type} {p:Prop} [Decidable p] {a b:α} (h:p):(bif decide p then a else b)=a:=by simp [h]
theorem Qc {α:Type} {p:Prop} [Decidable p] {a b:α} (h:¬p):(bif decide p then a else b)=b:=by simp [h]
abbrev Qah {α:Type} (l:List α):Prop:=l.length<=1000000000
abbrev dg (n:Nat):J0:=toB 10000 n
theorem b4:2<=10000:=by decide
theorem Yq {B:Nat} {l:J0} {n:Nat} (h:n<l.length):valB B (l.take (n+1))=valB B (l.take n)+(B^n:Nat)*l[n]:=by
 rw [List.take_succ_eq_append_getElem h,Qeh,Z11,Nat.min_eq_left (by omega)]
 simp [valB]
theorem Q3 {l:J0} {n:Nat} (h:n<l.length):l.getD n 0=l[n]:=by simp [List.getD,h]
theorem Qkn {B:Nat} (hB:2<=B) {l:J0} (hl:inB B l) (hs:Qah l):z120.F l=some (toB B (valB B l).toNat):=by
 have key:∀n:Nat,n<=l.length->∃m:Nat,m<=n/\Runs (λrec x=>z120.l0P l rec some x) (n:Int) (m:Int)/\valB B (l.take m)=valB B (l.take n)/\(m=0\/l.getD (m-1) 0≠0):=by
  intro n
  induction n with
  |zero=>exact λ_=>⟨0,Z5 0,.done λrec=>by simp [z120.l0P],rfl,.inl rfl⟩
  |
   succ n ih=>
   intro hn
   have hs':l.length<=1000000000:=hs
   have e:wr .i64 (((n+1:Nat):Int)-1)=(n:Int):=by rw [Qg]<;>omega
   have e0:((n+1:Nat):Int)>0:=by omega
   have e1:(0:Int)<=(n:Int)/\(n:Int)<(l.length:Int):=by omega
   by_cases hz:l.getD n 0=0
   ·obtain ⟨m,h1,h2,h3,h4⟩:=ih (by omega)
    refine ⟨m,by omega,.step (λrec=>?_) h2,?_,h4⟩
    ·unfold z120.l0P
     rw [bif_t e0,e,if_pos e1,Zi,bif_t hz]
    ·rw [h3,Yq (show n<l.length by omega),<-Q3,hz];simp
   ·refine ⟨n+1,Z5 _,.done λrec=>?_,rfl,.inr (by simpa using hz)⟩
    unfold z120.l0P
    rw [bif_t e0,e,if_pos e1,Zi,Qc hz]
 obtain ⟨m,h1,h2,h3,h4⟩:=key l.length (Z5 _)
 unfold z120.F z120.l0
 rw [h2.lfp]
 simp only [Zb]
 rw [if_pos (by omega),Zi]
 rw [Z57] at h3
 rw [<-h3]
 congr 1
 apply Qgb hB (λx hx=>hl x (Z43 hx))
 intro hne
 rcases h4 with rfl|h4
 ·simp at hne
 ·rw [List.getLast_eq_getElem]
  have hm:0<m:=by
   rcases Z15 m with h0|h0
   ·subst h0;simp at hne
   ·exact h0
  rw [Q3 (by omega)] at h4
  simp only [Z11,List.getElem_take]
  have:min m l.length-1=m-1:=by omega
  simp only [this]
  exact h4
theorem Qgv {l:J0} (hl:inB 10000 l) (hs:Qah l):z120.F l=some (dg (valB 10000 l).toNat):=Qkn b4 hl hs
theorem Qhy {l:J0} {i:Nat}:z127.F l (i:Int)=some (l.getD i 0):=by
 unfold z127.F
 by_cases h:(i:Int)>=(l.length:Int)
 ·rw [bif_t h]
  have:l.getD i 0=0:=by simp [List.getD,Z9 (show l.length<=i by omega)]
  rw [this]
 ·rw [Qc h,if_pos (by omega),Zi]
theorem Qlc {n:Nat} (hn:n<9223372036854775808):z113.F (n:Int)=some (dg n):=by
 have key:∀(n:Nat),n<9223372036854775808->∀s:J0,Qah s->(s.length+(dg n).length<=1000000000)->Runs (λrec x=>z113.l0P rec some x) ((n:Int),s) ((0:Int),s++dg n):=by
  intro n
  induction n using Nat.strongRecOn with
  |
   _ n ih=>
   intro hn s hs hl
   rcases Z15 n with rfl|h0
   ·refine .done λrec=>?_
    simp [z113.l0P,toB_zero]
   ·have e:dg n=((n%10000:Nat):Int)::dg (n/10000):=Wv b4 h0
    have hd:n/10000<n:=Z87 h0 (by decide)
    rw [e] at hl ⊢
    have h2:=ih (n/10000) hd (by omega) (s++[((n%10000:Nat):Int)]) (by simp at *;omega) (by simp at *;omega)
    rw [Z70,List.singleton_append] at h2
    refine .step (λrec=>?_) h2
    unfold z113.l0P
    simp only
    have e1:Int.tmod (n:Int) 10000=((n%10000:Nat):Int):=by rw [Qbo (by omega)];rfl
    have e2:wr .i64 (Int.tdiv (n:Int) 10000)=((n/10000:Nat):Int):=by rw [Qbf (by omega),Qg (by omega) (by omega)];rfl
    rw [bif_t (by omega),if_pos (by simp at *;omega),e1,e2]
 unfold z113.F z113.l0
 have hl:(dg n).length<=5:=Ja b4 (by omega)
 rw [(key n hn [] (by simp) (by simp;omega)).lfp]
 simp
def ch (d:Int):UInt8:=UInt8.ofNat (48+d.toNat)
def txt (n:Nat):J1:=if n=0 then [48] else (toB 10 n).reverse.map ch
theorem b10:2<=10:=by decide
theorem Qd4 {d:Int} (h0:0<=d) (h:d<10):(ch d).toNat=48+d.toNat:=by
 unfold ch;rw [UInt8.toNat_ofNat'];omega
def dig4 (d:Int):J0:=[d%10,d/10%10,d/100%10,d/1000%10]
theorem Qp9 {d:Int} (h0:0<=d):inB 10 (dig4 d):=by
 intro x hx;simp [dig4] at hx;rcases hx with rfl|rfl|rfl|rfl<;>omega
theorem Qn4 {d:Int} (h0:0<=d) (h:d<10000):valB 10 (dig4 d)=d:=by simp [dig4,valB];omega
theorem Qia:∀{l:J0},inB 10000 l->inB 10 (l.flatMap dig4)
 |[],_=>Jv 10
 |x::l,h=>by rw [Ym] at h;rw [Z83,Qj1];exact ⟨Qp9 h.1.1,Qia h.2⟩
theorem Qju:∀{l:J0},inB 10000 l->valB 10 (l.flatMap dig4)=valB 10000 l
 |[],_=>rfl
 |
  x::l,h=>by
  rw [Ym] at h
  rw [Z83,Qeh,Qn4 h.1.1 h.1.2,Qju h.2]
  simp [dig4,valB]
theorem Qez:∀(l:J0),(l.flatMap dig4).length=4*l.length
 |[]=>rfl
 |x::l=>by rw [Z83,Z2,Qez l];simp [dig4];omega
theorem Qrb (s:J1) (hs:Qah s) (d:Int) (h0:0<=d) (hd:d<10000):∃d',z107.l2 (s,d,(0:Int))=some (((dig4 d).reverse.map ch)++s,d',4):=by
 have hs':s.length<=1000000000:=hs
 have one:∀(s:J1) (d:Int) (k:Nat),s.length<=1000000004->0<=d->d<10000->k<4->∀rec,z107.l2P rec some (s,d,(k:Int))=rec (ch (d%10)::s,d/10,((k+1:Nat):Int)):=by
  intro s d k hs h0 hd hk rec
  unfold z107.l2P
  simp only
  rw [bif_t (by omega),if_pos (by simp;omega),Qbo h0,Qbf h0,Qg (n:=48+d%10) (by omega) (by omega),J7 (by omega) (by omega),Qg (n:=d/10) (by omega) (by omega),Qg (by omega) (by omega)]
  have:(48+d%10).toNat=48+(d%10).toNat:=by omega
  simp [ch,this]
 refine ⟨d/10/10/10/10,?_⟩
 unfold z107.l2
 refine Runs.lfp (.step (one s d 0 (by omega) h0 hd (by decide)) (.step (one _ (d/10) 1 (by simp;omega) (by omega) (by omega) (by decide)) (.step (one _ (d/10/10) 2 (by simp;omega) (by omega) (by omega) (by decide)) (.step (one _ (d/10/10/10) 3 (by simp;omega) (by omega) (by omega) (by decide)) (.done λrec=>?_)))))
 unfold z107.l2P
 simp only
 rw [Qc (by omega)]
 have e1:d/10/10=d/100:=by omega
 have e2:d/10/10/10=d/1000:=by omega
 simp [dig4,e1,show d/100/10=d/1000 by omega]
theorem Qub {l:J0} (hl:inB 10000 l) (hs:4*l.length<=1000000000):z107.l0 l ([],(0:Int))=some ((l.flatMap dig4).reverse.map ch,(l.length:Int)):=by
 have key:∀(k:Nat),k<=l.length->Runs (λrec x=>z107.l0P l rec some x) (((l.take (l.length-k)).flatMap dig4).reverse.map ch,((l.length-k:Nat):Int)) ((l.flatMap dig4).reverse.map ch,(l.length:Int)):=by
  intro k
  induction k with
  |
   zero=>
   intro _
   refine .done λrec=>?_
   unfold z107.l0P
   simp
  |
   succ k ih=>
   intro hk
   have hi:l.length-(k+1)<l.length:=by omega
   have hm:=hl l[l.length-(k+1)] (Z10 hi)
   obtain ⟨d',h2⟩:=Qrb (((l.take (l.length-(k+1))).flatMap dig4).reverse.map ch) (by
    show List.length _<=_;rw [Z29,List.length_reverse,Qez,Z11];omega) _ hm.1 hm.2
   refine .step (λrec=>?_) (ih (by omega))
   unfold z107.l0P
   simp only
   rw [bif_t (by omega),if_pos (by omega),Zi,Q3 hi,h2]
   simp only [Zb]
   rw [Qg (by omega) (by omega)]
   have e:l.take (l.length-k)=l.take (l.length-(k+1))++[l[l.length-(k+1)]]:=by
    rw [<-List.take_succ_eq_append_getElem hi];congr 1;omega
   have e2:((l.length-(k+1):Nat):Int)+1=((l.length-k:Nat):Int):=by omega
   rw [e,e2,List.flatMap_append]
   simp only [Z83,List.flatMap_nil,Z35,List.reverse_append,Z63]
 have:=key l.length (Z5 _)
 simp only [Nat.sub_self,List.take_zero,List.flatMap_nil,List.reverse_nil,Z86] at this
 exact this.lfp
theorem Qk1 {d:Int} (h0:0<=d) (h:d<10):((ch d).toNat:Int)=48↔d=0:=by rw [Qd4 h0 h];omega
theorem Qih {n:Nat} (hs:4*(dg n).length<=1000000000):z107.F (dg n)=some (txt n):=by
 unfold z107.F txt
 by_cases hn:n=0
 ·subst hn;simp [dg,toB_zero]
 ·have hne:dg n≠[]:=λe=>hn ((toB_nil b4).1 e)
  have hlen:=Z22.2 hne
  rw [Qc (by omega),if_neg hn,Qub (Q4 b4 n) hs]
  simp only [Zb]
  generalize hfl:(dg n).flatMap dig4=fl
  have hin:inB 10 fl:=by rw [<-hfl];exact Qia (Q4 b4 n)
  have hv:valB 10 fl=n:=by rw [<-hfl,Qju (Q4 b4 n),Wc b4]
  have hl:fl.length<=1000000000:=by rw [<-hfl,Qez];exact hs
  have key:∀k:Nat,k<=fl.length->valB 10 (fl.take k)=n->∃m:Nat,m<=k/\Runs (λrec x=>z107.l4P (fl.reverse.map ch) rec some x) ((fl.length-k:Nat):Int) ((fl.length-m:Nat):Int)/\valB 10 (fl.take m)=n/\(m=0\/fl.getD (m-1) 0≠0):=by
   intro k
   induction k with
   |zero=>intro _ h;simp [valB] at h;omega
   |
    succ k ih=>
    intro hk h
    have hi:fl.length-(k+1)<(fl.reverse.map ch).length:=by simp;omega
    have hk':k<fl.length:=by omega
    have hm:=hin fl[k] (Z10 hk')
    have eg:(fl.reverse.map ch).getD (fl.length-(k+1)) 0=ch fl[k]:=by
     have e0:fl.length-1-(fl.length-(k+1))=k:=by omega
     simp only [List.getD,Z1 hi,Z45,Z18,List.getElem_reverse,e0]
    by_cases hz:fl[k]=0
    ·obtain ⟨m,h1,h2,h3,h4⟩:=ih (by omega) (by rw [Yq hk',hz] at h;simpa using h)
     refine ⟨m,by omega,.step (λrec=>?_) h2,h3,h4⟩
     unfold z107.l4P
     rw [if_pos (by simp;omega),Zi,eg,bif_t ((Qk1 hm.1 hm.2).2 hz),Qg (by omega) (by omega)]
     congr 1;omega
    ·refine ⟨k+1,Z5 _,.done λrec=>?_,h,.inr (by rw [Nat.add_sub_cancel,Q3 hk'];exact hz)⟩
     unfold z107.l4P
     rw [if_pos (by simp;omega),Zi,eg,Qc (λe=>hz ((Qk1 hm.1 hm.2).1 e))]
  obtain ⟨m,h1,h2,h3,h4⟩:=key fl.length (Z5 _) (by rw [Z57];exact hv)
  rw [Nat.sub_self] at h2
  unfold z107.l4
  rw [show (0:Int)=((0:Nat):Int) from rfl,h2.lfp]
  simp only [Zb]
  rw [if_pos (by rw [Z29,List.length_reverse];omega),Zi]
  have hm:m≠0:=by rintro rfl;simp [valB] at h3;omega
  have e:fl.take m=toB 10 n:=by
   have:=Qgb b10 (l:=fl.take m) (λx hx=>hin x (Z43 hx)) λhne=>by
    rcases h4 with h4|h4
    ·exact absurd h4 hm
    ·rw [List.getLast_eq_getElem]
     rw [Q3 (by omega)] at h4
     simp only [Z11,List.getElem_take]
     have:min m fl.length-1=m-1:=by omega
     simp only [this];exact h4
   rwa [h3,Zi] at this
  rw [<-e,<-List.map_drop,List.reverse_take]
theorem Qb7 {B:Nat}:∀{l:J0} {j:Nat} {x:Int},j<l.length->valB B (l.set j x)=valB B l+(x-l.getD j 0)*(B^j:Nat)
 |y::l,0,x,_=>by simp [valB];omega
 |
  y::l,j+1,x,h=>by
  have:=Qb7 (B:=B) (l:=l) (j:=j) (x:=x) (by simpa using h)
  rw [List.set_cons_succ,valB,valB,this,Z73,Z42,Z47 (B^j) B,Z30,Int.mul_add,Int.add_assoc]
  congr 2
  rw [Int.mul_left_comm]
theorem Qb1 {B:Nat} {l:J0} {j:Nat} {x:Int} (h:inB B l) (hx:0<=x/\x<B):inB B (l.set j x):=λy hy=>by
 rcases List.mem_or_eq_of_mem_set hy with h1|rfl
 ·exact h y h1
 ·exact hx
theorem Jj {B:Nat}:∀(l:J0) (k:Nat),valB B (l.drop k)=l.getD k 0+B*valB B (l.drop (k+1))
 |[],k=>by simp [valB]
 |x::l,0=>by simp [valB]
 |x::l,k+1=>by rw [List.drop_succ_cons,List.drop_succ_cons,Z73];exact Jj l k
theorem Wu {B:Nat} (hB:0<B) {l:J0} (h:inB B l) (k:Nat):0<=l.getD k 0/\l.getD k 0<B:=by
 by_cases hk:k<l.length
 ·rw [Q3 hk];exact h _ (Z10 hk)
 ·simp [List.getD,Z9 (show l.length<=k by omega)];omega
theorem Qkf {B:Nat} {l:J0} (h:inB B l) (k:Nat):inB B (l.take k):=λx hx=>h x (Z43 hx)
theorem Qc2 (B:Nat):∀n:Nat,valB B (List.replicate n (0:Int))=0
 |0=>rfl
 |n+1=>by rw [List.replicate_succ,valB,Qc2 B n];simp
theorem Qdf {B:Nat} (hB:0<B) (n:Nat):inB B (List.replicate n (0:Int)):=λx hx=>by
 rw [List.mem_replicate] at hx;rw [hx.2];omega
theorem Qb8 (B:Nat) (l:J0) (x:Int):valB B (l++[x])=valB B l+(B^l.length:Nat)*x:=by
 rw [Qeh];simp [valB]
theorem Qct {B:Nat} {l:J0} {x:Int} (h:inB B l) (hx:0<=x/\x<B):inB B (l++[x]):=Qj1.2 ⟨h,Ym.2 ⟨hx,Jv B⟩⟩
theorem Qvq {a b s:J0} {i:Nat} {c:Int} (ha:inB 10000 a) (hb:inB 10000 b) (hsl:s.length<=4000000000) (hil:i<=4000000000) (hc:0<=c/\c<10000) (hgo:i<a.length\/i<b.length\/0<c)
  (rec:Int×Int×J0->Option (Int×Int×J0)) :
  z128.l0P a b rec some (c,(i:Int),s)=rec ((a.getD i 0+b.getD i 0+c)/10000,((i+1:Nat):Int),s++[(a.getD i 0+b.getD i 0+c)%10000]):=by
 have h1:=Wu (B:=10000) (by decide) ha i
 have h2:=Wu (B:=10000) (by decide) hb i
 have e1:wr .i64 (a.getD i 0+b.getD i 0)=a.getD i 0+b.getD i 0:=Qg (by omega) (by omega)
 have e2:wr .i64 (a.getD i 0+b.getD i 0+c)=a.getD i 0+b.getD i 0+c:=Qg (by omega) (by omega)
 have e3:wr .i64 ((i:Int)+1)=((i+1:Nat):Int):=by rw [Qg (by omega) (by omega)];omega
 unfold z128.l0P
 simp only [Qhy,Zb,e1,e2,e3]
 rw [Qbf (by omega),Qbo (by omega),Qg (n:=(_:Int)/10000) (by omega) (by omega)]
 have c1:∀x:Int,(s.length+[x].length)*8<=140737488355328:=λx=>by simp;omega
 simp only [if_pos (c1 _)]
 by_cases h3:(i:Int)<(a.length:Int)
 ·rw [bif_t h3]
 ·rw [Qc h3]
  by_cases h4:(i:Int)<(b.length:Int)
  ·rw [bif_t h4]
  ·rw [Qc h4,bif_t (show c>0 by omega)]
theorem Qmx {a b:J0} (ha:inB 10000 a) (hb:inB 10000 b) (hal:a.length+b.length<=900000000) :
  ∀
   (f i:Nat) (c:Int) (s:J0),a.length+b.length+1<=i+f->i<=a.length+b.length+1->s.length=i->inB 10000 s->0<=c/\c<=1->(i=a.length+b.length+1->c=0) ->
   valB 10000 s+(c+valB 10000 (a.drop i)+valB 10000 (b.drop i))*(10000^i:Nat)=valB 10000 a+valB 10000 b ->
   ∃i' s',Runs (λrec x=>z128.l0P a b rec some x) (c,(i:Int),s) ((0:Int),i',s')/\inB 10000 s'/\s'.length<=a.length+b.length+1/\valB 10000 s'=valB 10000 a+valB 10000 b
 |
  f,i,c,s,hf,hi,hl,hs,hc,he,hv=>by
  by_cases hgo:i<a.length\/i<b.length\/0<c
  ·match f,hf with
   |
    0,hf=>
    have:i=a.length+b.length+1:=by omega
    have:=he this
    omega
   |
    f+1,hf=>
    have hi':i<a.length+b.length+1:=by
     rcases Z56 i (a.length+b.length+1) with h|h
     ·exact h
     ·have:=he (by omega);omega
    have h1:=Wu (B:=10000) (by decide) ha i
    have h2:=Wu (B:=10000) (by decide) hb i
    obtain ⟨i',s',r1,r2,r3,r4⟩:=Qmx ha hb hal f (i+1) ((a.getD i 0+b.getD i 0+c)/10000) (s++[(a.getD i 0+b.getD i 0+c)%10000]) (by omega) (by omega) (by simp [hl]) (Qct hs (by omega)) (by omega)
     (λe=>by
      have h3:a.getD i 0=0\/b.getD i 0=0:=by
       by_cases ha':i<a.length
       ·right;simp [List.getD,Z9 (show b.length<=i by omega)]
       ·left;simp [List.getD,Z9 (show a.length<=i by omega)]
      have h5:a.getD i 0=0:=by
       by_cases ha':i<a.length
       ·have:b.length=0:=by omega
        exfalso
        have h6:i=a.length+b.length:=by omega
        omega
       ·simp [List.getD,Z9 (show a.length<=i by omega)]
      have h6:b.getD i 0=0:=by simp [List.getD,Z9 (show b.length<=i by omega)]
      omega)
     (by
      rw [Qb8,<-hv,Jj a i,Jj b i,hl,Z42,Z47 (10000^i) 10000,Z30]
      generalize hx:a.getD i 0+b.getD i 0+c=x
      have e2:x=10000*(x/10000)+x%10000:=(Int.mul_ediv_add_emod x 10000).symm
      generalize x/10000=q at *
      generalize x%10000=m at *
      subst e2
      generalize ((10000^i:Nat):Int)=p
      generalize valB 10000 (a.drop (i+1))=w
      generalize valB 10000 (b.drop (i+1))=w'
      generalize a.getD i 0=u at *
      generalize b.getD i 0=v at *
      have hc':c=10000*q+m-u-v:=by omega
      subst hc'
      grind)
    exact ⟨i',s',.step (λrec=>Qvq ha hb (by omega) (by omega) (by omega) hgo rec) r1,r2,r3,r4⟩
  ·have hc0:c=0:=by omega
   subst hc0
   refine ⟨i,s,.done λrec=>?_,hs,by omega,?_⟩
   ·unfold z128.l0P
    simp only
    rw [Qc (by omega),Qc (by omega),Qc (by omega)]
   ·rw [Z40 (by omega),Z40 (by omega)] at hv
    simpa [valB] using hv
theorem Qrj {a b:J0} (ha:inB 10000 a) (hb:inB 10000 b) (hal:a.length+b.length<=900000000):z128.F a b=some (dg (valB 10000 a+valB 10000 b).toNat):=by
 obtain ⟨i',s',r1,r2,r3,r4⟩:=Qmx ha hb hal (a.length+b.length+1) 0 0 [] (by omega) (by omega) rfl (Jv _) (by omega) (by omega) (by simp [valB])
 have e:z128.l0 a b ((0:Int),(0:Int),[])=some ((0:Int),i',s'):=r1.lfp
 unfold z128.F
 rw [e]
 simp only [Zb]
 rw [Qgv r2 (by show List.length _<=_;omega),r4]
 rfl
theorem Qov {m n:Nat} (hl:(dg m).length+(dg n).length<=900000000):z128.F (dg m) (dg n)=some (dg (m+n)):=by
 rw [Qrj (Q4 b4 m) (Q4 b4 n) hl,Wc b4,Wc b4]
 congr 2
def cmpI (m n:Int):Int:=if m<n then -1 else if m=n then 0 else 1
theorem Qob {B:Nat} (hB:2<=B) {l:J0} (h:inB B l) {k:Nat} (hk:k<=l.length):valB B (l.take k)<(B^k:Nat):=by
 have:=Qcr hB (Qkf h k)
 rwa [Z11,Nat.min_eq_left hk] at this
theorem Qcx {B:Nat} (hB:2<=B) {a b:J0} (ha:inB B a) (hb:inB B b) {k:Nat} (hka:k<a.length) (hkb:k<b.length) :
  (a[k]<b[k]->valB B (a.take (k+1))<valB B (b.take (k+1)))/\(a[k]=b[k]->(valB B (a.take (k+1))-valB B (b.take (k+1))=valB B (a.take k)-valB B (b.take k))):=by
 rw [Yq hka,Yq hkb]
 have h1:=Qob hB ha (k:=k) (by omega)
 have h2:=Qeg (Qkf hb k)
 refine ⟨λh=>?_,λh=>by rw [h];omega⟩
 have h3:((B^k:Nat):Int)*(a[k]+1)<=(B^k:Nat)*b[k]:=Int.mul_le_mul_of_nonneg_left (by omega) (by omega)
 rw [Int.mul_add,Int.mul_one] at h3
 omega
theorem Qnc {a b:J0} (ha:inB 10000 a) (hb:inB 10000 b) (hl:a.length=b.length) (hal:a.length<=900000000):∀k:Nat,k<=a.length ->
  ∃o:Int⊕Int,Runs (λrec x=>z129.l0P a b rec some x) ((k:Int)-1) o/\(match o with | .inl _=>(0:Int) | .inr q=>q)=cmpI (valB 10000 (a.take k)) (valB 10000 (b.take k))
 |0,_=>⟨.inl (-1),.done λrec=>by unfold z129.l0P;rw [Qc (by omega)];rfl,by simp [cmpI,valB]⟩
 |
  k+1,hk=>by
  have hka:k<a.length:=by omega
  have hkb:k<b.length:=by omega
  have e0:((k+1:Nat):Int)-1=(k:Int):=by omega
  obtain ⟨p1,p2⟩:=Qcx b4 ha hb hka hkb
  obtain ⟨p3,_⟩:=Qcx b4 hb ha hkb hka
  have c1:(0:Int)<=(k:Int)/\(k:Int)<(a.length:Int):=by omega
  have c2:(0:Int)<=(k:Int)/\(k:Int)<(b.length:Int):=by omega
  rw [e0]
  rcases Z88 a[k] b[k] with h|h|h
  ·refine ⟨.inr (-1),.done λrec=>?_,?_⟩
   ·unfold z129.l0P
    rw [bif_t (by omega),if_pos c1,if_pos c2,Zi,Q3 hka,Q3 hkb,bif_t h]
   ·have:=p1 h
    unfold cmpI;rw [if_pos this]
  ·obtain ⟨o,r1,r2⟩:=Qnc ha hb hl hal k (by omega)
   refine ⟨o,.step (λrec=>?_) r1,?_⟩
   ·unfold z129.l0P
    rw [bif_t (by omega),Zi,Q3 hka,Q3 hkb]
    simp only [if_pos c1,if_pos c2]
    rw [Qc (by omega),Qc (by omega),Qg (by omega) (by omega)]
   ·rw [r2]
    have:=p2 h
    unfold cmpI
    split<;>split<;>(try split)<;>(try split)<;>first|rfl|omega
  ·refine ⟨.inr 1,.done λrec=>?_,?_⟩
   ·unfold z129.l0P
    rw [bif_t (by omega),Zi,Q3 hka,Q3 hkb]
    simp only [if_pos c1,if_pos c2]
    rw [Qc (by omega),bif_t h]
   ·have:=p3 h
    unfold cmpI;rw [if_neg (by omega),if_neg (by omega)]
theorem Qbj {B m n:Nat} (hB:2<=B) (h:(toB B m).length<(toB B n).length):m<n:=by
 have h1:=Qf5 (n:=m) hB
 have hn:0<n:=by
  rcases Z15 n with rfl|h0
  ·rw [toB_zero] at h;simp at h
  ·exact h0
 have h2:=Qtk hB hn
 have h3:B^(toB B m).length<=B^((toB B n).length-1):=Z61 (by omega) (by omega)
 omega
theorem Qn2 {m n:Nat} (hl:(dg m).length<=900000000):z129.F (dg m) (dg n)=some (cmpI m n):=by
 unfold z129.F
 by_cases he:(dg m).length=(dg n).length
 ·have e1:((dg m).length:Int)=((dg n).length:Int):=by omega
  rw [Zt e1]
  simp only [Zn,Zc]
  obtain ⟨o,r1,r2⟩:=Qnc (Q4 b4 m) (Q4 b4 n) he hl (dg m).length (Z5 _)
  rw [Qg (by omega) (by omega)]
  unfold z129.l0
  rw [r1.lfp]
  simp only [Zb]
  rw [Z57,he,Z57,Wc b4,Wc b4] at r2
  rw [<-r2]
  cases o<;>rfl
 ·have e1:¬((dg m).length:Int)=((dg n).length:Int):=by omega
  rw [Zf e1]
  simp only [Zo,Zd]
  rcases Nat.lt_or_gt_of_ne he with h|h
  ·have:=Qbj b4 h
   rw [bif_t (by omega)];unfold cmpI;rw [if_pos (by omega)]
  ·have:=Qbj b4 h
   rw [Qc (by omega)];unfold cmpI;rw [if_neg (by omega),if_neg (by omega)]
theorem Qhd {a b:J0} (ha:inB 10000 a) (hb:inB 10000 b) (hal:a.length<=900000000) :
  ∀
   (f i:Nat) (c:Int) (s:J0),i+f=a.length->s.length=i->inB 10000 s->0<=c/\c<=1 ->
   valB 10000 s-c*(10000^i:Nat)=valB 10000 (a.take i)-valB 10000 (b.take i) ->
   ∃c' s',Runs (λrec x=>z130.l0P a b rec some x) (c,(i:Int),s) (c',(a.length:Int),s')/\inB 10000 s'/\s'.length=a.length/\(0<=c'/\c'<=1)/\valB 10000 s'-c'*(10000^a.length:Nat)=valB 10000 a-valB 10000 (b.take a.length)
 |
  0,i,c,s,hf,hl,hs,hc,hv=>by
  have:i=a.length:=by omega
  subst this
  refine ⟨c,s,.done λrec=>?_,hs,hl,hc,by rwa [Z57] at hv⟩
  unfold z130.l0P
  simp only
  rw [Qc (by omega)]
 |
  f+1,i,c,s,hf,hl,hs,hc,hv=>by
  have hi:i<a.length:=by omega
  have h1:=Wu (B:=10000) (by decide) ha i
  have h2:=Wu (B:=10000) (by decide) hb i
  have eb:valB 10000 (b.take (i+1))=valB 10000 (b.take i)+(10000^i:Nat)*b.getD i 0:=by
   by_cases hb':i<b.length
   ·rw [Yq hb',Q3 hb']
   ·rw [Z23 (by omega),Z23 (by omega)]
    simp [List.getD,Z9 (show b.length<=i by omega)]
  have e1:wr .i64 (a.getD i 0-b.getD i 0)=a.getD i 0-b.getD i 0:=Qg (by omega) (by omega)
  have e2:wr .i64 (a.getD i 0-b.getD i 0-c)=a.getD i 0-b.getD i 0-c:=Qg (by omega) (by omega)
  have e3:wr .i64 ((i:Int)+1)=((i+1:Nat):Int):=by rw [Qg (by omega) (by omega)];omega
  have e4:wr .i64 (a.getD i 0-b.getD i 0-c+10000)=a.getD i 0-b.getD i 0-c+10000:=Qg (by omega) (by omega)
  have c1:∀x:Int,(s.length+[x].length)*8<=140737488355328:=λx=>by simp;omega
  have c2:(0:Int)<=(i:Int)/\(i:Int)<(a.length:Int):=by omega
  by_cases hd:a.getD i 0-b.getD i 0-c<0
  ·obtain ⟨c',s',r1,r2,r3,r4,r5⟩:=Qhd ha hb hal f (i+1) 1 (s++[a.getD i 0-b.getD i 0-c+10000]) (by omega) (by simp [hl]) (Qct hs (by omega)) (by omega) (by
    rw [Qb8,Yq hi,eb,hl,Z42,Z47 (10000^i) 10000,Z30,<-Q3 hi]
    generalize ((10000^i:Nat):Int)=p at *
    grind)
   refine ⟨c',s',.step (λrec=>?_) r1,r2,r3,r4,r5⟩
   unfold z130.l0P
   simp only [Qhy,Zb,Zi,e1,e2,e3,e4]
   rw [bif_t (by omega),if_pos c2,bif_t hd,if_pos (c1 _)]
  ·obtain ⟨c',s',r1,r2,r3,r4,r5⟩:=Qhd ha hb hal f (i+1) 0 (s++[a.getD i 0-b.getD i 0-c]) (by omega) (by simp [hl]) (Qct hs (by omega)) (by omega) (by
    rw [Qb8,Yq hi,eb,hl,Z42,Z47 (10000^i) 10000,Z30,<-Q3 hi]
    generalize ((10000^i:Nat):Int)=p at *
    grind)
   refine ⟨c',s',.step (λrec=>?_) r1,r2,r3,r4,r5⟩
   unfold z130.l0P
   simp only [Qhy,Zb,Zi,e1,e2,e3,e4]
   rw [bif_t (by omega),if_pos c2,Qc hd,if_pos (c1 _)]
theorem Qlh {m n:Nat} (hmn:n<=m) (hl:(dg m).length<=900000000):z130.F (dg m) (dg n)=some (dg (m-n)):=by
 obtain ⟨c',s',r1,r2,r3,r4,r5⟩:=Qhd (a:=dg m) (b:=dg n) (Q4 b4 m) (Q4 b4 n) hl (dg m).length 0 0 [] (by omega) rfl (Jv _) (by omega) (by simp [valB])
 have hlen:(dg n).length<=(dg m).length:=by
  rcases Z56 (dg m).length (dg n).length with h|h
  ·have:=Qbj b4 h;omega
  ·exact h
 rw [Z23 hlen,Wc b4,Wc b4] at r5
 have h1:=Qcr b4 r2
 rw [r3] at h1
 have hc:c'=0:=by
  rcases (show c'=0\/c'=1 by omega) with h|h
  ·exact h
  ·subst h;omega
 subst hc
 have e:z130.l0 (dg m) (dg n) ((0:Int),(0:Int),[])=some ((0:Int),((dg m).length:Int),s'):=r1.lfp
 unfold z130.F
 rw [e]
 simp only [Zb]
 rw [Qgv r2 (by show List.length _<=_;omega)]
 simp only [Zb]
 congr 2;omega
def tv:Int->J1->Int
 |acc,[]=>acc
 |acc,b::s=>tv (10*acc+(b.toNat:Int)-48) s
def digit (b:UInt8):Prop:=48<=b.toNat/\b.toNat<=57
def Qu (s:J1):Prop:=∀b∈s,digit b
theorem Qck:∀(s t:J1) (a:Int),tv a (s++t)=tv (tv a s) t
 |[],_,_=>rfl
 |b::s,t,a=>Qck s t _
theorem Qak:∀(s:J1) (a:Int),tv a s=a*(10^s.length:Nat)+tv 0 s
 |[],a=>by simp [tv]
 |
  b::s,a=>by
  have h1:=Qak s (10*a+(b.toNat:Int)-48)
  have h2:=Qak s (10*0+(b.toNat:Int)-48)
  show tv (10*a+(b.toNat:Int)-48) s=a*_+tv (10*0+(b.toNat:Int)-48) s
  rw [h1,h2,Z8,Z42,Z30]
  generalize ((10^s.length:Nat):Int)=p
  grind
theorem Yf:∀{s:J1},Qu s->0<=tv 0 s/\tv 0 s<(10^s.length:Nat)
 |[],_=>by simp [tv]
 |
  b::s,h=>by
  have hb:=h b (by simp)
  have ih:=Yf (s:=s) λx hx=>h x (by simp [hx])
  have e:tv 0 (b::s)=((b.toNat:Int)-48)*(10^s.length:Nat)+tv 0 s:=by
   show tv (10*0+(b.toNat:Int)-48) s=_
   rw [Qak];simp
  have hp:(0:Int)<=(10^s.length:Nat):=Int.natCast_nonneg _
  unfold digit at hb
  have h1:0<=((b.toNat:Int)-48)*(10^s.length:Nat):=Z79 (by omega) hp
  have h2:((b.toNat:Int)-48)*(10^s.length:Nat)<=9*(10^s.length:Nat):=Int.mul_le_mul_of_nonneg_right (by omega) hp
  rw [e,Z8,Z42,Z30]
  omega
theorem Qiq {s:J1} (hs:Qu s) (hl:s.length<=900000000) (e:Nat) (he:e<=s.length):∀(f i:Nat) (d:Int),i+f=e->f<=4->0<=d/\d<10^12/(10^f:Nat) ->
  Runs (λrec x=>z121.l2P s (e:Int) rec some x) (d,(i:Int)) (tv d ((s.take e).drop i),(e:Int))
 |
  0,i,d,hf,_,_=>by
  have:i=e:=by omega
  subst this
  refine .done λrec=>?_
  unfold z121.l2P
  simp only
  rw [Qc (by omega),Z40 (by simp;omega)]
  rfl
 |
  f+1,i,d,hf,h4,hd=>by
  have hi:i<s.length:=by omega
  have hb:=hs s[i] (Z10 hi)
  unfold digit at hb
  have hd':d<10^11:=by
   have:f=0\/f=1\/f=2\/f=3:=by omega
   rcases this with rfl|rfl|rfl|rfl<;>simp at hd ⊢<;>omega
  have hn:0<=10*d+(s[i].toNat:Int)-48/\10*d+(s[i].toNat:Int)-48<10^12/(10^f:Nat):=by
   have:f=0\/f=1\/f=2\/f=3:=by omega
   rcases this with rfl|rfl|rfl|rfl<;>simp at hd ⊢<;>omega
  have ih:=Qiq hs hl e he f (i+1) (10*d+(s[i].toNat:Int)-48) (by omega) (by omega) hn
  have hlt:i<(s.take e).length:=by simp;omega
  rw [Z31 hlt,List.getElem_take]
  refine .step (λrec=>?_) ih
  unfold z121.l2P
  simp only
  have eg:s.getD i 0=s[i]:=by simp [List.getD,hi]
  rw [bif_t (by omega),if_pos (by omega),Zi,eg,Qg (n:=10*d) (by omega) (by omega),Qg (n:=(s[i].toNat:Int)) (by omega) (by omega),Qg (n:=10*d+(s[i].toNat:Int)) (by omega) (by omega),Qg (n:=10*d+(s[i].toNat:Int)-48) (by omega) (by omega),Qg (n:=(i:Int)+1) (by omega) (by omega)]
  rfl
theorem Ql7 {s:J1} (hs:Qu s) (hl:s.length<=900000000):∀(f e:Nat) (out:J0),e<=4*f->e<=s.length->out.length<=900000000-e->inB 10000 out->valB 10000 out+(10000^out.length:Nat)*tv 0 (s.take e)=tv 0 s ->
  ∃e' out',Runs (λrec x=>z121.l0P s rec some x) ((e:Int),out) (e',out')/\inB 10000 out'/\out'.length<=900000004/\valB 10000 out'=tv 0 s
 |
  0,e,out,hf,he,ho,hi,hv=>by
  have:e=0:=by omega
  subst this
  refine ⟨0,out,.done λrec=>?_,hi,by omega,by simpa [tv] using hv⟩
  unfold z121.l0P;simp
 |
  f+1,e,out,hf,he,ho,hi,hv=>by
  rcases Z15 e with rfl|h0
  ·refine ⟨0,out,.done λrec=>?_,hi,by omega,by simpa [tv] using hv⟩
   unfold z121.l0P;simp
  ·have hds:Qu ((s.take e).drop (e-4)):=λb hb=>hs b (Z43 (Z59 hb))
   have hlen:((s.take e).drop (e-4)).length<=4:=by rw [Z17,Z11];omega
   have htb:=Yf hds
   have hlt:tv 0 ((s.take e).drop (e-4))<10000:=by
    have h1:(10^((s.take e).drop (e-4)).length:Nat)<=10^4:=Z61 (by decide) hlen
    have h2:((10^((s.take e).drop (e-4)).length:Nat):Int)<=10000:=Int.ofNat_le.2 h1
    omega
   have r:=Qiq hs hl e he (e-(e-4)) (e-4) 0 (by omega) (by omega) ⟨Int.le_refl 0,by
    have:e-(e-4)=1\/e-(e-4)=2\/e-(e-4)=3\/e-(e-4)=4:=by omega
    rcases this with h|h|h|h<;>rw [h]<;>omega⟩
   have er:z121.l2 s (e:Int) ((0:Int),((e-4:Nat):Int))=some (tv 0 ((s.take e).drop (e-4)),(e:Int)):=r.lfp
   have e1:wr .i64 ((e:Int)-4)=(e:Int)-4:=Qg (by omega) (by omega)
   have e2:(if (e:Int)-4>0 then (e:Int)-4 else 0)=((e-4:Nat):Int):=by split<;>omega
   have c1:∀x:Int,(out.length+[x].length)*8<=140737488355328:=λx=>by simp;omega
   have step:∀rec,z121.l0P s rec some ((e:Int),out)=rec ((e:Int)-4,out++[tv 0 ((s.take e).drop (e-4))]):=λrec=>by
    unfold z121.l0P
    simp only [e1,e2]
    rw [bif_t (by omega),er]
    simp only [Zb]
    rw [if_pos (c1 _)]
   by_cases h4:4<=e
   ·obtain ⟨e',out',r1,r2,r3,r4⟩:=Ql7 hs hl f (e-4) (out++[tv 0 ((s.take e).drop (e-4))]) (by omega) (by omega) (by rw [Z2,Z19];omega) (Qct hi (by omega)) (by
     rw [Qb8,<-hv]
     have e3:s.take e=s.take (e-4)++(s.take e).drop (e-4):=by
      have:=List.take_append_drop (e-4) (s.take e)
      rw [List.take_take,Nat.min_eq_left (by omega)] at this
      exact this.symm
     have e4:tv 0 (s.take e)=tv 0 (s.take (e-4))*10000+tv 0 ((s.take e).drop (e-4)):=by
      conv=>lhs;rw [e3]
      rw [Qck,Qak]
      have:((s.take e).drop (e-4)).length=4:=by rw [Z17,Z11];omega
      rw [this];rfl
     rw [e4,Z2,Z19,Z42,Z30]
     generalize ((10000^out.length:Nat):Int)=p
     grind)
    have e5:(e:Int)-4=((e-4:Nat):Int):=by omega
    exact ⟨e',out',.step (λrec=>by rw [step rec,e5]) r1,r2,r3,r4⟩
   ·refine ⟨(e:Int)-4,out++[tv 0 ((s.take e).drop (e-4))],.step step (.done λrec=>?_),Qct hi (by omega),by rw [Z2,Z19];omega,?_⟩
    ·unfold z121.l0P
     simp only
     rw [Qc (by omega)]
    ·have e6:e-4=0:=by omega
     rw [Qb8,<-hv,e6,Z65]
theorem Qf8 {s:J1} (hs:Qu s) (hl:s.length<=800000000):z121.F s=some (dg (tv 0 s).toNat):=by
 obtain ⟨e',out',r1,r2,r3,r4⟩:=Ql7 hs (by omega) s.length s.length [] (by omega) (Z5 _) (Z60 _) (Jv _) (by simp [valB])
 have e:z121.l0 s ((s.length:Int),[])=some (e',out'):=r1.lfp
 unfold z121.F
 rw [e]
 simp only [Zb]
 rw [Qgv r2 (by show List.length _<=_;omega),r4]
 rfl
theorem Qk0:∀{l:J0},inB 10 l->tv 0 (l.reverse.map ch)=valB 10 l
 |[],_=>rfl
 |
  x::l,h=>by
  rw [Ym] at h
  rw [List.reverse_cons,Z63,Qck,Qk0 h.2]
  show 10*valB 10 l+((ch x).toNat:Int)-48=x+10*valB 10 l
  rw [Qd4 h.1.1 h.1.2];omega
theorem Qal (n:Nat):Qu (txt n):=by
 unfold txt
 split
 ·intro b hb;simp at hb;subst hb;unfold digit;decide
 ·intro b hb
  rw [List.mem_map] at hb
  obtain ⟨d,hd,rfl⟩:=hb
  have:=Q4 b10 n d (List.mem_reverse.1 hd)
  unfold digit
  rw [Qd4 this.1 this.2];omega
theorem Qgn (n:Nat):tv 0 (txt n)=n:=by
 unfold txt
 split
 ·rename_i h;subst h;decide
 ·rw [Qk0 (Q4 b10 n),Wc b10]
theorem Qsn (n:Nat):txt n≠[]:=by
 unfold txt
 split
 ·simp
 ·rename_i h
  simp only [ne_eq,List.map_eq_nil_iff,List.reverse_eq_nil_iff]
  exact λe=>h ((toB_nil b10).1 e)
theorem Qjh {n:Nat} (hn:n≠0):∃b s,txt n=b::s/\b.toNat≠48:=by
 have h:=Qtm b10 n (λe=>hn ((toB_nil b10).1 e))
 have hne:toB 10 n≠[]:=λe=>hn ((toB_nil b10).1 e)
 have hin:=Q4 b10 n _ (List.getLast_mem hne)
 refine ⟨ch ((toB 10 n).getLast hne),((toB 10 n).dropLast.reverse.map ch),?_,?_⟩
 ·unfold txt
  rw [if_neg hn]
  conv=>lhs;rw [<-List.dropLast_concat_getLast hne]
  rw [List.reverse_append];rfl
 ·rw [Qd4 hin.1 hin.2];omega
theorem Jg {n k:Nat} (h:n<10^k) (hk:0<k):(txt n).length<=k:=by
 unfold txt
 split
 ·show 1<=k;omega
 ·rw [Z29,List.length_reverse];exact Ja b10 h
abbrev neg (z:Int):Bool:=decide (z<0)
theorem dg_len0 (n:Nat):(((dg n).length:Nat):Int)=0↔n=0:=by
 constructor
 ·intro h;exact (toB_nil b4).1 (List.length_eq_zero_iff.1 (Int.ofNat_eq_zero.1 h))
 ·rintro rfl;simp [dg,toB_zero]
theorem Qn9 (n:Nat):(((dg n).length:Nat):Int)>0↔0<n:=by
 have:=dg_len0 n;omega
theorem Qev (n:Nat) (b:Bool):z112.F (dg n) b=some (dg n,b&&decide (0<n)):=by
 unfold z112.F
 cases b
 ·rfl
 ·simp only [Zd,Z52]
  congr 2
  exact decide_eq_decide.2 (Qn9 n)
theorem ref04_Of' {z:Int} {b:Bool} (h:(b=true/\z<=0)\/(b=false/\0<=z)):z112.F (dg z.natAbs) b=some (dg z.natAbs,neg z):=by
 rw [Qev]
 congr 2
 rcases h with ⟨rfl,h⟩|⟨rfl,h⟩
 ·rw [Z52];exact decide_eq_decide.2 (by omega)
 ·rw [Z54];symm;exact Zf (by omega)
theorem Qa1 {z:Int} (h:-9223372036854775808<z/\z<9223372036854775808):z114.F z=some (dg z.natAbs,neg z):=by
 unfold z114.F
 by_cases hz:z<0
 ·have e:wr .i64 (0-z)=((z.natAbs:Nat):Int):=by rw [Qg (by omega) (by omega)];omega
  rw [bif_t hz,e,Qlc (by omega)]
  simp only [Zb]
  rw [ref04_Of' (z:=z) (.inl ⟨rfl,by omega⟩)];rfl
 ·have e:z=((z.natAbs:Nat):Int):=by omega
  rw [Qc hz]
  conv=>lhs;rw [e]
  rw [Qlc (by omega)]
  simp only [Zb]
  rw [ref04_Of' (z:=z) (.inr ⟨rfl,by omega⟩)];rfl
theorem Qry (z:Int):z126.F (dg z.natAbs) (neg z)=some (dg (-z).natAbs,neg (-z)):=by
 unfold z126.F
 have e:z.natAbs=(-z).natAbs:=by omega
 rw [e,Qev]
 simp only [Zb]
 congr 2
 show (!decide (z<0)&&_)=decide (-z<0)
 by_cases h:z<0
 ·rw [Zt h];symm;simp;omega
 ·rw [Zf h,Zo,Z52];exact decide_eq_decide.2 (by omega)
theorem Qtz {z:Int} (hs:4*(dg z.natAbs).length<=1000000000) (hl:(txt z.natAbs).length<=1000000000):z108.F (dg z.natAbs) (neg z)=some (if z<0 then 45::txt z.natAbs else txt z.natAbs):=by
 unfold z108.F
 rw [Qih hs]
 simp only [Zb]
 by_cases h:z<0
 ·rw [bif_t h,if_pos (by simp;omega),if_pos h];rfl
 ·rw [Qc h,if_neg h]
theorem Qd7 {z:Int} {n:Nat} {b:Bool} (hn:n=z.natAbs) (h:(b=true/\z<=0)\/(b=false/\0<=z)):z112.F (dg n) b=some (dg z.natAbs,neg z):=by
 subst hn;exact ref04_Of' h
theorem Qmg {m n:Int}:cmpI m n>=0↔n<=m:=by unfold cmpI;split<;>(try split)<;>omega
theorem Qvl {x y:Int} (hl:(dg x.natAbs).length+(dg y.natAbs).length<=900000000):z131.F (dg x.natAbs) (neg x) (dg y.natAbs) (neg y)=some (dg (x+y).natAbs,neg (x+y)):=by
 unfold z131.F
 by_cases hs:neg x=neg y
 ·have hs':(x<0↔y<0):=by simpa [neg] using hs
  rw [bif_t hs,Qov hl]
  simp only [Zb]
  rw [Qd7 (z:=x+y) (by omega) (by by_cases hx:x<0;exact .inl ⟨Zt hx,by omega⟩;exact .inr ⟨Zf hx,by omega⟩)]
  rfl
 ·have hs':¬(x<0↔y<0):=by simpa [neg] using hs
  rw [Qc hs,Qn2 (by omega)]
  simp only [Zb]
  by_cases hc:cmpI (x.natAbs:Int) (y.natAbs:Int)>=0
  ·have hc':=Qmg.1 hc
   rw [bif_t hc,Qlh (by omega) (by omega)]
   simp only [Zb]
   rw [Qd7 (z:=x+y) (by omega) (by by_cases hx:x<0;exact .inl ⟨Zt hx,by omega⟩;exact .inr ⟨Zf hx,by omega⟩)]
   rfl
  ·have hc':¬((y.natAbs:Int)<=x.natAbs):=λh=>hc (Qmg.2 h)
   rw [Qc hc,Qlh (by omega) (by omega)]
   simp only [Zb]
   rw [Qd7 (z:=x+y) (by omega) (by by_cases hy:y<0;exact .inl ⟨Zt hy,by omega⟩;exact .inr ⟨Zf hy,by omega⟩)]
   rfl
theorem Qp3 {x y:Int} (hl:(dg x.natAbs).length+(dg y.natAbs).length<=900000000):z132.F (dg x.natAbs) (neg x) (dg y.natAbs) (neg y)=some (dg (x-y).natAbs,neg (x-y)):=by
 unfold z132.F
 rw [Qry]
 simp only [Zb]
 rw [Qvl (by rw [Int.natAbs_neg];exact hl)]
 rfl
theorem Qpy (z:Int):z133.F (dg z.natAbs) (neg z)=some (cmpI z 0):=by
 unfold z133.F cmpI
 by_cases h0:z=0
 ·subst h0;rw [bif_t ((dg_len0 (Int.natAbs 0)).2 rfl)];rfl
 ·rw [Qc (λh=>h0 (by have:=(dg_len0 _).1 h;omega))]
  by_cases h:z<0
  ·rw [bif_t h,if_pos h]
  ·rw [Qc h,if_neg h,if_neg h0]
theorem Ql9 (x y:Int):cmpI (x-y) 0=cmpI x y:=by
 unfold cmpI;split<;>split<;>(try split)<;>(try split)<;>first|rfl|omega
theorem Qr4 {x y:Int} (hl:(dg x.natAbs).length+(dg y.natAbs).length<=900000000):z134.F (dg x.natAbs) (neg x) (dg y.natAbs) (neg y)=some (cmpI x y):=by
 unfold z134.F
 rw [Qp3 hl]
 simp only [Zb]
 rw [Qpy,Ql9]
 rfl
abbrev LB:Nat:=18446744073709551616
abbrev lb (n:Nat):J0:=toB LB n
theorem bL:2<=LB:=by decide
theorem Qqv (n:Nat):(((lb n).length:Nat):Int)=0↔n=0:=by
 constructor
 ·intro h;exact (toB_nil bL).1 (List.length_eq_zero_iff.1 (Int.ofNat_eq_zero.1 h))
 ·rintro rfl;simp [lb,toB_zero]
theorem W0 (n:Nat):z8.F (lb n)=some (decide (n=0)):=by
 unfold z8.F;congr 1;exact decide_eq_decide.2 (Qqv n)
theorem Qiu {l:J0} {i:Nat}:z34.F l (i:Int)=some (l.getD i 0):=by
 unfold z34.F
 by_cases h:(i:Int)>=(l.length:Int)
 ·rw [bif_t h]
  have:l.getD i 0=0:=by simp [List.getD,Z9 (show l.length<=i by omega)]
  rw [this]
 ·rw [Qc h,if_pos (by omega),Zi]
theorem Qem {l:J0} (hl:inB LB l) (hs:Qah l):z14.F l=some (lb (valB LB l).toNat):=by
 have h:=Qkn bL hl hs
 unfold z120.F at h
 unfold z14.F
 have e:z14.l0 l=z120.l0 l:=rfl
 rw [e]
 revert h
 cases z120.l0 l ((l.length:Nat):Int) with
 |none=>exact id
 |
  some o=>
  simp only [Zb]
  intro h
  split at h
  ·rename_i hc
   rw [if_pos ⟨hc.1,Int.le_refl _,hc.2⟩];exact h
  ·simp at h
theorem Qby (x y:Int):z10.F x y=some (cmpI x y):=by
 unfold z10.F z9.F cmpI
 simp only [Zb,decide_true,Zn,Zc]
 by_cases h:x<y
 ·rw [bif_t h,if_pos h]
 ·rw [Qc h,if_neg h]
  by_cases h':x>y
  ·rw [bif_t h',if_neg (by omega)]
  ·rw [Qc h',if_pos (by omega)]
theorem Qi5 (x y:Int):z12.F x y=some (cmpI x y):=Qby x y
theorem Qnb {a b:J0} (ha:inB LB a) (hb:inB LB b) (hl:a.length=b.length) (hal:a.length<=900000000):∀k:Nat,k<=a.length ->
  ∃o:Int⊕Int,Runs (λrec x=>z13.l0P a b rec some x) ((k:Int)-1) o/\(match o with | .inl _=>(0:Int) | .inr q=>q)=cmpI (valB LB (a.take k)) (valB LB (b.take k))
 |0,_=>⟨.inl (-1),.done λrec=>by unfold z13.l0P;rw [Qc (by omega)];rfl,by simp [cmpI,valB]⟩
 |
  k+1,hk=>by
  have hka:k<a.length:=by omega
  have hkb:k<b.length:=by omega
  have e0:((k+1:Nat):Int)-1=(k:Int):=by omega
  obtain ⟨p1,p2⟩:=Qcx bL ha hb hka hkb
  obtain ⟨p3,_⟩:=Qcx bL hb ha hkb hka
  have c1:(0:Int)<=(k:Int)/\(k:Int)<(a.length:Int):=by omega
  have c2:(0:Int)<=(k:Int)/\(k:Int)<(b.length:Int):=by omega
  rw [e0]
  by_cases h:a[k]=b[k]
  ·obtain ⟨o,r1,r2⟩:=Qnb ha hb hl hal k (by omega)
   refine ⟨o,.step (λrec=>?_) r1,?_⟩
   ·unfold z13.l0P
    rw [bif_t (by omega),Zi,Q3 hka,Q3 hkb,if_pos c1,if_pos c2,Qi5]
    simp only [Zb]
    have:cmpI a[k] b[k]=0:=by unfold cmpI;rw [if_neg (by omega),if_pos h]
    rw [this,Qg (by omega) (by omega)]
    rfl
   ·rw [r2]
    have:=p2 h
    unfold cmpI
    split<;>split<;>(try split)<;>(try split)<;>first|rfl|omega
  ·refine ⟨.inr (cmpI a[k] b[k]),.done λrec=>?_,?_⟩
   ·unfold z13.l0P
    rw [bif_t (by omega),Zi,Q3 hka,Q3 hkb,if_pos c1,if_pos c2,Qi5]
    simp only [Zb]
    have:¬cmpI a[k] b[k]=0:=by unfold cmpI;split<;>(try split)<;>omega
    rw [Zf this]
    rfl
   ·rcases Int.lt_or_gt_of_ne h with h'|h'
    ·have:=p1 h'
     unfold cmpI;rw [if_pos h',if_pos this]
    ·have:=p3 h'
     unfold cmpI;rw [if_neg (by omega),if_neg (by omega),if_neg (by omega),if_neg (by omega)]
theorem Qdu {m n:Nat} (hl:(lb m).length<=900000000):z13.F (lb m) (lb n)=some (cmpI m n):=by
 unfold z13.F
 rw [Qby]
 simp only [Zb]
 by_cases he:(lb m).length=(lb n).length
 ·have e1:cmpI ((lb m).length:Int) ((lb n).length:Int)=0:=by unfold cmpI;rw [if_neg (by omega),if_pos (by omega)]
  rw [e1]
  simp only [decide_true,Zn,Zc]
  obtain ⟨o,r1,r2⟩:=Qnb (a:=lb m) (b:=lb n) (Q4 bL m) (Q4 bL n) he hl (lb m).length (Z5 _)
  rw [Qg (by omega) (by omega)]
  unfold z13.l0
  rw [r1.lfp]
  simp only [Zb]
  rw [Z57,he,Z57,Wc bL,Wc bL] at r2
  rw [<-r2]
  cases o<;>rfl
 ·rcases Nat.lt_or_gt_of_ne he with h|h
  ·have:=Qbj bL h
   have e1:cmpI ((lb m).length:Int) ((lb n).length:Int) = -1:=by unfold cmpI;rw [if_pos (by omega)]
   have e2:cmpI (m:Int) n = -1:=by unfold cmpI;rw [if_pos (by omega)]
   rw [e1,e2];rfl
  ·have:=Qbj bL h
   have e1:cmpI ((lb m).length:Int) ((lb n).length:Int)=1:=by unfold cmpI;rw [if_neg (by omega),if_neg (by omega)]
   have e2:cmpI (m:Int) n=1:=by unfold cmpI;rw [if_neg (by omega),if_neg (by omega)]
   rw [e1,e2];rfl
theorem Qfe (a:Int) (h0:0<=a):wr .u64 ((BitVec.ofInt (IntKind.bits .u64) a &&& BitVec.ofInt (IntKind.bits .u64) (4294967295:Int)).toNat:Int)=a%4294967296:=by
 have e:(BitVec.ofInt (IntKind.bits .u64) a &&& BitVec.ofInt (IntKind.bits .u64) (4294967295:Int)).toNat=(a%4294967296).toNat:=by
  rw [BitVec.toNat_and]
  have e1:(BitVec.ofInt (IntKind.bits .u64) (4294967295:Int)).toNat=2^32-1:=rfl
  have e2:(BitVec.ofInt (IntKind.bits .u64) a).toNat=(a%18446744073709551616).toNat:=by
   rw [BitVec.toNat_ofInt];rfl
  rw [e1,Nat.and_two_pow_sub_one_eq_mod,e2]
  omega
 rw [e,Qq (by omega) (by omega)];omega
theorem Qs2 (a:Int):Int.fdiv a (2^(min 32 (64:Nat)))=a/4294967296:=by
 rw [Int.fdiv_eq_ediv_of_nonneg _ (by decide)];rfl
theorem Qm0 {a b:Int} (ha:0<=a/\a<18446744073709551616) (hb:0<=b/\b<18446744073709551616):z21.F a b=some (a*b/18446744073709551616,a*b%18446744073709551616):=by
 unfold z21.F
 simp only [Qs2]
 rw [Qfe a ha.1,Qfe b hb.1]
 generalize hx1:a/4294967296=x1
 generalize hx0:a%4294967296=x0
 generalize hy1:b/4294967296=y1
 generalize hy0:b%4294967296=y0
 have ea:a=4294967296*x1+x0:=by omega
 have eb:b=4294967296*y1+y0:=by omega
 have bx1:0<=x1/\x1<=4294967295:=by omega
 have bx0:0<=x0/\x0<=4294967295:=by omega
 have by1:0<=y1/\y1<=4294967295:=by omega
 have by0:0<=y0/\y0<=4294967295:=by omega
 have m00:0<=x0*y0/\x0*y0<=4294967295*4294967295:=⟨Z79 bx0.1 by0.1,Int.mul_le_mul bx0.2 by0.2 by0.1 (by decide)⟩
 have m10:0<=x1*y0/\x1*y0<=4294967295*4294967295:=⟨Z79 bx1.1 by0.1,Int.mul_le_mul bx1.2 by0.2 by0.1 (by decide)⟩
 have m01:0<=x0*y1/\x0*y1<=4294967295*4294967295:=⟨Z79 bx0.1 by1.1,Int.mul_le_mul bx0.2 by1.2 by1.1 (by decide)⟩
 have m11:0<=x1*y1/\x1*y1<=4294967295*4294967295:=⟨Z79 bx1.1 by1.1,Int.mul_le_mul bx1.2 by1.2 by1.1 (by decide)⟩
 have eab:a*b=18446744073709551616*(x1*y1)+4294967296*(x1*y0)+4294967296*(x0*y1)+x0*y0:=by rw [ea,eb];grind
 rw [eab]
 generalize x0*y0=p00 at *
 generalize x1*y0=p10 at *
 generalize x0*y1=p01 at *
 generalize x1*y1=p11 at *
 rw [Qq (n:=p00) (by omega) (by omega),Qq (n:=p10) (by omega) (by omega),Qq (n:=p01) (by omega) (by omega),Qq (n:=p11) (by omega) (by omega)]
 rw [Qq (n:=p10+p00/4294967296) (by omega) (by omega)]
 rw [Qfe _ (by omega)]
 rw [Qq (n:=p11+(p10+p00/4294967296)/4294967296) (by omega) (by omega)]
 rw [Qq (n:=(p10+p00/4294967296)%4294967296+p01) (by omega) (by omega)]
 rw [Qq (n:=p11+(p10+p00/4294967296)/4294967296+((p10+p00/4294967296)%4294967296+p01)/4294967296) (by omega) (by omega)]
 rw [W7]
 congr 2;omega
theorem Qgk {x y c:Int} (hx:0<=x) (hy:0<=y) (hc:0<=c/\c<=1):z0.F x y c=some ((x+y+c)%18446744073709551616,(x+y+c)/18446744073709551616):=by
 unfold z0.F;rw [if_pos (by omega)]
theorem Qd1 {s:J0} {i j:Nat} {x:Int} (h:i≠j):(s.set i x).getD j 0=s.getD j 0:=by
 simp [List.getD,List.getElem?_set_ne h]
theorem Qfn (n j:Nat):(List.replicate n (0:Int)).getD j 0=0:=by
 simp only [List.getD,List.getElem?_replicate];split<;>rfl
theorem Qjl {a b:J0} {n:Nat} (ha:inB LB a) (hb:inB LB b) (hn:n<=900000000) (han:a.length<n) (hbn:b.length<n) :
  ∀
   (f i:Nat) (c:Int) (s:J0),i+f=n->s.length=n->inB LB s->(∀j,i<=j->s.getD j 0=0)->0<=c/\c<=1 ->
   valB LB s+(c+valB LB (a.drop i)+valB LB (b.drop i))*(LB^i:Nat)=valB LB a+valB LB b ->
   ∃c' s',Runs (λrec x=>z35.l0P (n:Int) a b rec some x) (c,(i:Int),s) (c',(n:Int),s')/\inB LB s'/\s'.length=n/\(0<=c'/\c'<=1)/\valB LB s'+c'*(LB^n:Nat)=valB LB a+valB LB b
 |
  0,i,c,s,hf,hl,hs,hz,hc,hv=>by
  have:i=n:=by omega
  subst this
  refine ⟨c,s,.done λrec=>?_,hs,hl,hc,?_⟩
  ·unfold z35.l0P
   simp only
   rw [Qc (by omega)]
  ·rw [Z40 (by omega),Z40 (by omega)] at hv
   simpa [valB] using hv
 |
  f+1,i,c,s,hf,hl,hs,hz,hc,hv=>by
  have hLB:((LB:Nat):Int)=18446744073709551616:=rfl
  have h1:=Wu (B:=LB) (by decide) ha i
  have h2:=Wu (B:=LB) (by decide) hb i
  have hi:i<s.length:=by omega
  obtain ⟨c',s',r1,r2,r3,r4,r5⟩:=Qjl ha hb hn han hbn f (i+1) ((a.getD i 0+b.getD i 0+c)/18446744073709551616) (s.set i ((a.getD i 0+b.getD i 0+c)%18446744073709551616)) (by omega) (by simp [hl]) (Qb1 hs (by omega))
   (λj hj=>by rw [Qd1 (by omega)];exact hz j (by omega)) (by omega) (by
    rw [Qb7 hi,hz i (Z5 _),<-hv,Jj a i,Jj b i,Z42,Z47 (LB^i) LB,Z30]
    generalize hx:a.getD i 0+b.getD i 0+c=x
    have e2:x=18446744073709551616*(x/18446744073709551616)+x%18446744073709551616:=(Int.mul_ediv_add_emod x _).symm
    have e3:((LB:Nat):Int)=18446744073709551616:=rfl
    rw [e3]
    generalize x/18446744073709551616=q at *
    generalize x%18446744073709551616=m at *
    subst e2
    generalize ((LB^i:Nat):Int)=p
    generalize valB LB (a.drop (i+1))=w
    generalize valB LB (b.drop (i+1))=w'
    generalize a.getD i 0=u at *
    generalize b.getD i 0=v at *
    have hc':c=18446744073709551616*q+m-u-v:=by omega
    subst hc'
    grind)
  refine ⟨c',s',.step (λrec=>?_) r1,r2,r3,r4,r5⟩
  unfold z35.l0P
  simp only [Qiu,Zb]
  rw [bif_t (by omega),Qgk h1.1 h2.1 hc]
  simp only [Zb]
  rw [if_pos (by omega),Zi,if_pos hi,Qg (by omega) (by omega)]
  rfl
theorem Qng {n k:Nat} (h:(lb n).length<=k):n<LB^k:=Z12 (Qf5 bL) (Z61 (by decide) h)
theorem Qhe {m n:Nat} (hl:(lb m).length+(lb n).length<=800000000):z35.F (lb m) (lb n)=some (lb (m+n)):=by
 unfold z35.F
 generalize hk:max (lb m).length (lb n).length=k
 have e0:(if (((lb n).length:Nat):Int)>(((lb m).length:Nat):Int) then (((lb n).length:Nat):Int) else (((lb m).length:Nat):Int))=(k:Int):=by split<;>omega
 have e1:wr .i64 ((k:Int)+1)=((k+1:Nat):Int):=by rw [Qg (by omega) (by omega)];omega
 rw [e0,e1,if_pos (by omega),Zi,Z38]
 obtain ⟨c',s',r1,r2,r3,r4,r5⟩:=Qjl (a:=lb m) (b:=lb n) (n:=k+1) (Q4 bL m) (Q4 bL n) (by omega) (by omega) (by omega) (k+1) 0 0 (List.replicate (k+1) 0) (by omega) (by simp) (Qdf (by decide) _)
  (λj _=>Qfn _ j) (by omega) (by rw [Qc2];simp)
 have e:z35.l0 ((k+1:Nat):Int) (lb m) (lb n) ((0:Int),(0:Int),List.replicate (k+1) 0)=some (c',((k+1:Nat):Int),s'):=r1.lfp
 rw [e]
 simp only [Zb]
 rw [Wc bL,Wc bL] at r5
 have hm:m<LB^k:=Qng (by omega)
 have hn:n<LB^k:=Qng (by omega)
 have hc:c'=0:=by
  rcases (show c'=0\/c'=1 by omega) with h|h
  ·exact h
  ·exfalso
   subst h
   have:=Qeg r2
   have e3:((LB^(k+1):Nat):Int)=(LB^k:Nat)*18446744073709551616:=by rw [Z42,Z30];rfl
   rw [e3] at r5
   omega
 subst hc
 rw [Qem r2 (by show List.length _<=_;omega)]
 simp only [Zb]
 congr 2;omega
theorem Qjr {a b:J0} (ha:inB LB a) (hb:inB LB b) (hal:a.length<=900000000) :
  ∀
   (f i:Nat) (c:Int) (s:J0),i+f=a.length->s.length=a.length->inB LB s->(∀j,i<=j->s.getD j 0=0)->0<=c/\c<=1 ->
   valB LB s-c*(LB^i:Nat)=valB LB (a.take i)-valB LB (b.take i) ->
   ∃c' s',Runs (λrec x=>z39.l0P (a.length:Int) a b rec some x) (c,(i:Int),s) (c',(a.length:Int),s')/\inB LB s'/\s'.length=a.length/\(0<=c'/\c'<=1)/\valB LB s'-c'*(LB^a.length:Nat)=valB LB a-valB LB (b.take a.length)
 |
  0,i,c,s,hf,hl,hs,hz,hc,hv=>by
  have:i=a.length:=by omega
  subst this
  refine ⟨c,s,.done λrec=>?_,hs,hl,hc,by rwa [Z57] at hv⟩
  unfold z39.l0P
  simp only
  rw [Qc (by omega)]
 |
  f+1,i,c,s,hf,hl,hs,hz,hc,hv=>by
  have hi:i<a.length:=by omega
  have his:i<s.length:=by omega
  have hLB:((LB:Nat):Int)=18446744073709551616:=rfl
  have h1:=Wu (B:=LB) (by decide) ha i
  have h2:=Wu (B:=LB) (by decide) hb i
  have eb:valB LB (b.take (i+1))=valB LB (b.take i)+(LB^i:Nat)*b.getD i 0:=by
   by_cases hb':i<b.length
   ·rw [Yq hb',Q3 hb']
   ·rw [Z23 (by omega),Z23 (by omega)]
    simp [List.getD,Z9 (show b.length<=i by omega)]
  have hsub:z1.F (a.getD i 0) (b.getD i 0) c=some ((a.getD i 0-b.getD i 0-c)%18446744073709551616,if a.getD i 0<b.getD i 0+c then 1 else 0):=by
   unfold z1.F;rw [if_pos (by omega)]
  obtain ⟨c',s',r1,r2,r3,r4,r5⟩:=Qjr ha hb hal f (i+1) (if a.getD i 0<b.getD i 0+c then 1 else 0) (s.set i ((a.getD i 0-b.getD i 0-c)%18446744073709551616)) (by omega) (by simp [hl]) (Qb1 hs (by omega))
   (λj hj=>by rw [Qd1 (by omega)];exact hz j (by omega)) (by split<;>omega) (by
    rw [Qb7 his,hz i (Z5 _),Yq hi,eb,Z42,Z47 (LB^i) LB,Z30,<-Q3 hi]
    have e3:((LB:Nat):Int)=18446744073709551616:=rfl
    rw [e3]
    have e4:(a.getD i 0-b.getD i 0-c)%18446744073709551616=a.getD i 0-b.getD i 0-c+(if a.getD i 0<b.getD i 0+c then 1 else 0)*18446744073709551616:=by split<;>omega
    rw [e4]
    generalize (if a.getD i 0<b.getD i 0+c then (1:Int) else 0)=q
    generalize ((LB^i:Nat):Int)=p at *
    grind)
  refine ⟨c',s',.step (λrec=>?_) r1,r2,r3,r4,r5⟩
  unfold z39.l0P
  simp only [Qiu,Zb]
  rw [bif_t (by omega),if_pos (by omega),Zi,hsub]
  simp only [Zb]
  rw [if_pos (by omega),if_pos his,Qg (by omega) (by omega)]
  rfl
theorem Qfb {m n:Nat} (hl:(lb m).length<=800000000):z39.F (lb m) (lb n)=some (if n<=m then (lb (m-n),true) else ([],false)):=by
 unfold z39.F
 rw [Qdu (by omega)]
 simp only [Zb]
 by_cases h:n<=m
 ·have h0:¬cmpI (m:Int) n<0:=by unfold cmpI;split<;>(try split)<;>omega
  rw [Qc h0,if_pos h,if_pos (by omega),Zi,Z38]
  obtain ⟨c',s',r1,r2,r3,r4,r5⟩:=Qjr (a:=lb m) (b:=lb n) (Q4 bL m) (Q4 bL n) (by omega) (lb m).length 0 0 (List.replicate (lb m).length 0) (by omega) (by simp) (Qdf (by decide) _)
   (λj _=>Qfn _ j) (by omega) (by rw [Qc2];simp [valB])
  have hlen:(lb n).length<=(lb m).length:=by
   rcases Z56 (lb m).length (lb n).length with h'|h'
   ·have:=Qbj bL h';omega
   ·exact h'
  rw [Z23 hlen,Wc bL,Wc bL] at r5
  have h1:=Qcr bL r2
  rw [r3] at h1
  have hc:c'=0:=by
   rcases (show c'=0\/c'=1 by omega) with h|h
   ·exact h
   ·subst h;omega
  subst hc
  have e:z39.l0 ((lb m).length:Int) (lb m) (lb n) ((0:Int),(0:Int),List.replicate (lb m).length 0)=some ((0:Int),((lb m).length:Int),s'):=r1.lfp
  rw [e]
  simp only [Zb]
  rw [Qem r2 (by show List.length _<=_;omega)]
  simp only [Zb]
  congr 3;omega
 ·have h0:cmpI (m:Int) n<0:=by unfold cmpI;rw [if_pos (by omega)];decide
  rw [bif_t h0,if_neg h]
theorem Qjb {l:J0} (hl:inB LB l) (hs:Qah l):z15.F l=some (lb (valB LB l).toNat):=by
 have hs':l.length<=1000000000:=hs
 unfold z15.F
 rw [if_pos (by omega),Qem hl hs];rfl
theorem W9 {x:Int} (h:0<=x/\x<18446744073709551616):z15.F [x]=some (lb x.toNat):=by
 rw [Qjb (Ym.2 ⟨h,Jv _⟩) (by show [x].length<=_;simp)]
 simp [valB]
theorem Qb3 {l:J0} (hs:Qah l):z16.F l=some l:=by
 have hs':l.length<=1000000000:=hs
 unfold z16.F
 rw [if_pos (by omega)]
theorem Qif {x:Int} {a:J0} {off tot:Nat} (hx:0<=x/\x<18446744073709551616) (ha:inB LB a) (ht:tot<=1800000000) (hot:off+a.length<tot) :
  ∀
   (f i:Nat) (c:Int) (s:J0),i+f=a.length->s.length=tot->inB LB s->0<=c/\c<18446744073709551616 ->
   ∃
    c' s',Runs (λrec y=>z36.l0aP x off (tot-off) a (a.length:Int) rec some y) (c,(i:Int),s) (c',(a.length:Int),s')/\inB LB s'/\s'.length=tot/\(0<=c'/\c'<18446744073709551616) /\
    (∀j,off+a.length<=j->s'.getD j 0=s.getD j 0)/\valB LB s'+c'*(LB^(off+a.length):Nat)=valB LB s+(c+x*valB LB (a.drop i))*(LB^(off+i):Nat)
 |
  0,i,c,s,hf,hl,hs,hc=>by
  have:i=a.length:=by omega
  subst this
  refine ⟨c,s,.done λrec=>?_,hs,hl,hc,λj _=>rfl,?_⟩
  ·unfold z36.l0aP
   simp only
   rw [Qc (by omega)]
  ·rw [Z40 (Z5 _)];simp [valB]
 |
  f+1,i,c,s,hf,hl,hs,hc=>by
  have hi:i<a.length:=by omega
  have his:off+i<s.length:=by omega
  have h1:=Wu (B:=LB) (by decide) ha i
  have h2:=Wu (B:=LB) (by decide) hs (off+i)
  have h1':0<=a.getD i 0/\a.getD i 0<18446744073709551616:=h1
  have h2':0<=s.getD (off+i) 0/\s.getD (off+i) 0<18446744073709551616:=h2
  have hp:0<=x*a.getD i 0/\x*a.getD i 0<=18446744073709551615*18446744073709551615:=⟨Z79 hx.1 h1'.1,Int.mul_le_mul (by omega) (by omega) h1'.1 (by decide)⟩
  obtain ⟨c',s',r1,r2,r3,r4,r5,r6⟩:=Qif hx ha ht hot f (i+1) ((x*a.getD i 0+c+s.getD (off+i) 0)/18446744073709551616) (s.set (off+i) ((x*a.getD i 0+c+s.getD (off+i) 0)%18446744073709551616))
   (by omega) (by simp [hl]) (Qb1 hs (by show 0<=_/\_<(18446744073709551616:Int);omega)) (by omega)
  refine ⟨c',s',.step (λrec=>?_) r1,r2,r3,r4,λj hj=>?_,?_⟩
  ·unfold z36.l0aP
   simp only
   rw [bif_t (by omega),if_pos (by omega),Zi,Qm0 hx h1']
   simp only [Zb]
   rw [Qgk (by omega) hc.1 (by omega)]
   simp only [Zb]
   rw [if_pos (by omega),if_pos his,Qgk h2'.1 (by omega) (by omega)]
   simp only [Zb]
   rw [if_pos (by omega),if_pos his]
   generalize x*a.getD i 0=p at hp ⊢
   generalize s.getD (off+i) 0=u at h2' ⊢
   rw [Qq (n:=p/18446744073709551616+_) (by omega) (by omega),Qq (by omega) (by omega),Qg (by omega) (by omega)]
   congr 2
   ·omega
   ·congr 2;omega
  ·rw [r5 j hj,Qd1 (by omega)]
  ·rw [r6,Qb7 his,Jj a i]
   have e1:((LB^(off+(i+1)):Nat):Int)=18446744073709551616*(LB^(off+i):Nat):=by
    rw [<-Z39,Z42,Z47,Z30];rfl
   rw [e1]
   have e3:((LB:Nat):Int)=18446744073709551616:=rfl
   rw [e3]
   generalize hy:x*a.getD i 0+c+s.getD (off+i) 0=y
   have e2:y=18446744073709551616*(y/18446744073709551616)+y%18446744073709551616:=(Int.mul_ediv_add_emod y _).symm
   generalize y/18446744073709551616=q at *
   generalize y%18446744073709551616=m at *
   generalize ((LB^(off+i):Nat):Int)=p
   generalize valB LB (a.drop (i+1))=w
   generalize valB LB s=z
   generalize s.getD (off+i) 0=u at *
   generalize a.getD i 0=v at *
   have hc':c=18446744073709551616*q+m-u-x*v:=by omega
   subst hc'
   grind
theorem Qhz {a b:J0} {tot:Nat} (ha:inB LB a) (hb:inB LB b) (ht:tot<=1800000000) (hab:tot=a.length+b.length+1) :
  ∀
   (f i:Nat) (s:J0),i+f=b.length->s.length=tot->inB LB s->(∀j,i+a.length<=j->s.getD j 0=0)->valB LB s=valB LB a*valB LB (b.take i) ->
   ∃s',Runs (λrec y=>z36.l0P b (b.length:Int) a rec some y) ((i:Int),s) ((b.length:Int),s')/\inB LB s'/\s'.length=tot/\valB LB s'=valB LB a*valB LB b
 |
  0,i,s,hf,hl,hs,hz,hv=>by
  have:i=b.length:=by omega
  subst this
  refine ⟨s,.done λrec=>?_,hs,hl,by rwa [Z57] at hv⟩
  unfold z36.l0P
  simp only
  rw [Qc (by omega)]
 |
  f+1,i,s,hf,hl,hs,hz,hv=>by
  have hi:i<b.length:=by omega
  have hx:=Wu (B:=LB) (by decide) hb i
  have hx':0<=b.getD i 0/\b.getD i 0<18446744073709551616:=hx
  obtain ⟨c,s1,r1,r2,r3,r4,r5,r6⟩:=Qif (x:=b.getD i 0) (a:=a) (off:=i) (tot:=tot) hx' ha ht (by omega) a.length 0 0 s (by omega) hl hs (by omega)
  have e0:z36.l0a (b.getD i 0) i (tot-i) a (a.length:Int) ((0:Int),(0:Int),s)=some (c,(a.length:Int),s1):=r1.lfp
  have hz1:s1.getD (i+a.length) 0=0:=by rw [r5 _ (Z5 _)];exact hz _ (Z5 _)
  have hi1:i+a.length<s1.length:=by omega
  obtain ⟨s',q1,q2,q3,q4⟩:=Qhz ha hb ht hab f (i+1) (s1.set (i+a.length) c) (by omega) (by simp [r3]) (Qb1 r2 r4)
   (λj hj=>by rw [Qd1 (by omega),r5 j (by omega)];exact hz j (by omega)) (by
    rw [Qb7 hi1,hz1,Yq hi,Int.mul_add,<-hv,<-Q3 hi]
    simp only [Z65,Z80,Int.zero_add] at r6
    generalize ((LB^(i+a.length):Nat):Int)=p at *
    generalize ((LB^i:Nat):Int)=p2 at *
    grind)
  refine ⟨s',.step (λrec=>?_) q1,q2,q3,q4⟩
  unfold z36.l0P
  simp only
  rw [bif_t (by omega),if_pos (by omega),if_pos (by omega),Zi,hl,e0]
  simp only [Zb,Zi]
  rw [if_pos (by omega),if_pos hi1,if_pos (by omega),if_pos hi1,hz1,Qg (by omega) (by omega),Qq (by omega) (by omega),Int.zero_add]
  rfl
theorem Qsx {a b:J0} (ha:inB LB a) (hb:inB LB b) (hl:a.length+b.length<=800000000):z36.F a b=some (lb (valB LB a*valB LB b).toNat):=by
 obtain ⟨s',r1,r2,r3,r4⟩:=Qhz (tot:=a.length+b.length+1) ha hb (by omega) rfl b.length 0 (List.replicate (a.length+b.length+1) 0) (by omega) (by simp) (Qdf (by decide) _)
  (λj _=>Qfn _ j) (by rw [Qc2];simp [valB])
 have e0:z36.l0 b (b.length:Int) a ((0:Int),List.replicate (a.length+b.length+1) 0)=some ((b.length:Int),s'):=r1.lfp
 have e1:wr .i64 (wr .i64 ((a.length:Int)+(b.length:Int))+1)=((a.length+b.length+1:Nat):Int):=by
  rw [Qg (n:=(a.length:Int)+(b.length:Int)) (by omega) (by omega),Qg (by omega) (by omega)];omega
 unfold z36.F
 rw [e1,if_pos (by omega),Zi,e0]
 simp only [Zb]
 rw [Qem r2 (by show List.length _<=_;omega),r4]
 rfl
theorem Qa3 {m n:Nat} (hl:(lb m).length+(lb n).length<=800000000):z36.F (lb m) (lb n)=some (lb (m*n)):=by
 rw [Qsx (Q4 bL m) (Q4 bL n) hl,Wc bL,Wc bL]
 congr 2
theorem whole_Of (n:Nat) (b:Bool):z30.F (lb n) b=some (lb n,b&&decide (0<n)):=by
 unfold z30.F
 cases b
 ·rfl
 ·rw [W0]
  simp only [Zd,Z52,Zb]
  congr 2
  by_cases h:n=0
  ·subst h;rfl
  ·rw [Zf h,Zt (by omega:0<n)];rfl
theorem whole_Of' {z:Int} {b:Bool} (h:(b=true/\z<=0)\/(b=false/\0<=z)):z30.F (lb z.natAbs) b=some (lb z.natAbs,neg z):=by
 rw [whole_Of]
 congr 2
 rcases h with ⟨rfl,h⟩|⟨rfl,h⟩
 ·rw [Z52];exact decide_eq_decide.2 (by omega)
 ·rw [Z54];symm;exact Zf (by omega)
theorem Ye {z:Int} {n:Nat} {b:Bool} (hn:n=z.natAbs) (h:(b=true/\z<=0)\/(b=false/\0<=z)):z30.F (lb n) b=some (lb z.natAbs,neg z):=by
 subst hn;exact whole_Of' h
theorem whole_From {z:Int} (h:-9223372036854775808<=z/\z<9223372036854775808):z55.F z=some (lb z.natAbs,neg z):=by
 unfold z55.F
 by_cases hz:z<0
 ·have e:wr .u64 (0-wr .u64 z)=((z.natAbs:Nat):Int):=by rw [W7 z,W7];omega
  rw [bif_t hz,e,W9 (by omega)]
  simp only [Zb,Zi]
  rw [whole_Of' (z:=z) (.inl ⟨rfl,by omega⟩)];rfl
 ·have e:wr .u64 z=((z.natAbs:Nat):Int):=by rw [Qq (by omega) (by omega)];omega
  rw [Qc hz,e,W9 (by omega)]
  simp only [Zb,Zi]
  rw [whole_Of' (z:=z) (.inr ⟨rfl,by omega⟩)];rfl
theorem Qj9 (z:Int):z41.F (lb z.natAbs) (neg z)=some (lb (-z).natAbs,neg (-z)):=by
 unfold z41.F
 rw [Ye (z:=-z) (by omega) (by by_cases h:z<0;exact .inr ⟨by simp [neg,h],by omega⟩;exact .inl ⟨by simp [neg,h],by omega⟩)]
 rfl
theorem Qar (z:Int):z29.F (lb z.natAbs) (neg z)=some (cmpI z 0):=by
 unfold z29.F cmpI
 rw [W0]
 simp only [Zb]
 by_cases h0:z=0
 ·subst h0;rfl
 ·rw [Qc (by omega)]
  by_cases h:z<0
  ·rw [bif_t h,if_pos h]
  ·rw [Qc h,if_neg h,if_neg h0]
theorem Qrh {x y:Int} (hl:(lb x.natAbs).length+(lb y.natAbs).length<=800000000):z40.F (lb x.natAbs) (neg x) (lb y.natAbs) (neg y)=some (lb (x+y).natAbs,neg (x+y)):=by
 unfold z40.F
 by_cases hs:neg x=neg y
 ·have hs':(x<0↔y<0):=by simpa [neg] using hs
  rw [bif_t hs,Qhe hl]
  simp only [Zb]
  rw [Ye (z:=x+y) (by omega) (by by_cases hx:x<0;exact .inl ⟨Zt hx,by omega⟩;exact .inr ⟨Zf hx,by omega⟩)]
  rfl
 ·have hs':¬(x<0↔y<0):=by simpa [neg] using hs
  rw [Qc hs,Qfb (by omega)]
  simp only [Zb]
  by_cases hc:y.natAbs<=x.natAbs
  ·rw [if_pos hc]
   simp only [Zd]
   rw [Ye (z:=x+y) (by omega) (by by_cases hx:x<0;exact .inl ⟨Zt hx,by omega⟩;exact .inr ⟨Zf hx,by omega⟩)]
   rfl
  ·rw [if_neg hc]
   simp only [Zc]
   rw [Qfb (by omega),if_pos (by omega)]
   simp only [Zb]
   rw [Ye (z:=x+y) (by omega) (by by_cases hy:y<0;exact .inl ⟨Zt hy,by omega⟩;exact .inr ⟨Zf hy,by omega⟩)]
   rfl
theorem Qr3 {x y:Int} (hl:(lb x.natAbs).length+(lb y.natAbs).length<=800000000):z42.F (lb x.natAbs) (neg x) (lb y.natAbs) (neg y)=some (lb (x-y).natAbs,neg (x-y)):=by
 unfold z42.F
 rw [Qj9]
 simp only [Zb]
 rw [Qrh (by rw [Int.natAbs_neg];exact hl)]
 rfl
theorem Qjk {x y:Int} (hl:(lb x.natAbs).length+(lb y.natAbs).length<=800000000):z43.F (lb x.natAbs) (neg x) (lb y.natAbs) (neg y)=some (cmpI x y):=by
 unfold z43.F
 rw [Qr3 hl]
 simp only [Zb]
 rw [Qar,Ql9]
 rfl
theorem Qse (x y:Int):((!decide (neg x=neg y))&&decide (0<x.natAbs*y.natAbs))=neg (x*y):=by
 have h0:0<x.natAbs*y.natAbs↔x≠0/\y≠0:=by
  constructor
  ·intro h;exact ⟨by rintro rfl;simp at h,by rintro rfl;simp at h⟩
  ·rintro ⟨h1,h2⟩;exact Nat.mul_pos (by omega) (by omega)
 rw [Z66]
 simp only [Z4,Z53,decide_eq_true_eq,decide_eq_false_iff_not,h0]
 rcases Z88 x 0 with hx|hx|hx<;>rcases Z88 y 0 with hy|hy|hy
 ·have:=Int.mul_pos_of_neg_of_neg hx hy;simp [hx,hy];omega
 ·subst hy;simp
 ·have:=Int.mul_neg_of_neg_of_pos hx hy;simp [hx];omega
 ·subst hx;simp
 ·subst hx;simp
 ·subst hx;simp
 ·have:=Int.mul_neg_of_pos_of_neg hx hy;simp [hy];omega
 ·subst hy;simp
 ·have:=Int.mul_pos hx hy;simp;omega
theorem Qha {x y:Int} (hl:(lb x.natAbs).length+(lb y.natAbs).length<=800000000):z57.F (lb x.natAbs) (neg x) (lb y.natAbs) (neg y)=some (lb (x*y).natAbs,neg (x*y)):=by
 unfold z57.F
 rw [Qa3 hl]
 simp only [Zb]
 rw [whole_Of,Qse,Int.natAbs_mul]
 rfl
def sz (n:Nat):Nat:=(toB 10 n).length
theorem Qb2 (n:Nat):n<10^sz n:=Qf5 b10
theorem Q2 {n k:Nat} (h:n<10^k):sz n<=k:=Ja b10 h
theorem Qgi {m n:Nat} (h:m<=n):sz m<=sz n:=Q2 (Nat.lt_of_le_of_lt h (Qb2 n))
theorem Q7 (n:Nat):(lb n).length<=sz n:=Ja bL (Z12 (Qb2 n) (Nat.pow_le_pow_left (by decide) _))
theorem Qde (n:Nat):(dg n).length<=sz n:=Ja b4 (Z12 (Qb2 n) (Nat.pow_le_pow_left (by decide) _))
theorem Qbn (m n:Nat):sz (m*n)<=sz m+sz n:=Q2 (by rw [Z93];exact Nat.mul_lt_mul_of_lt_of_le (Qb2 m) (Z69 (Qb2 n)) (Nat.pow_pos (by decide)))
theorem Qgh:sz 0=0:=by simp [sz,toB_zero]
theorem lb_zero:lb 0=[]:=toB_zero LB
def isD (b:UInt8):Bool:=decide (48<=b.toNat)&&decide (b.toNat<=57)
def digs (s:J1):Bool:=s.all isD
theorem Yn {s:J1}:digs s=true↔Qu s:=by simp [digs,Qu,digit,isD]
theorem Qpa (b c:UInt8):(b == c)=decide (b.toNat=c.toNat):=by
 rw [Z66];simp [UInt8.toNat_inj]
theorem Qu1 (b:UInt8):([48,49,50,51,52,53,54,55,56,57]:J1).contains b=isD b:=by
 rw [Z66]
 simp only [List.contains_cons,List.contains_nil,Qpa,isD]
 simp
 omega
theorem Qer {α:Type} {p:α->Bool}:∀{l:List α},l.dropWhile p=[]↔∀x∈l,p x=true
 |[]=>by simp
 |
  a::l=>by
  by_cases h:p a=true
  ·rw [List.dropWhile_cons_of_pos h,Qer (l:=l)];simp [h]
  ·rw [List.dropWhile_cons_of_neg h];simp [h]
theorem Qjt (s cs:J1):Lib.trimS s cs=[]↔∀b∈s,cs.contains b=true:=by
 unfold Lib.trimS Lib.trimLeftS Lib.trimRightS
 rw [Qer]
 constructor
 ·intro h
  cases he:s.reverse.dropWhile (cs.contains ·) with
  |
   nil=>
   rw [Qer] at he
   exact λb hb=>he b (List.mem_reverse.2 hb)
  |
   cons x l=>
   have h1:=List.head?_dropWhile_not (cs.contains ·) s.reverse
   rw [he] at h1
   have h2:=h x (by rw [he];simp)
   simp only [List.head?_cons] at h1
   rw [h2] at h1;simp at h1
 ·intro h
  have he:s.reverse.dropWhile (cs.contains ·)=[]:=Qer.2 λb hb=>h b (List.mem_reverse.1 hb)
  rw [he];simp
theorem Qk6 (s:J1) (hs:s.length<=9223372036854775807):∃r,z3.F s [48,49,50,51,52,53,54,55,56,57]=some r/\decide (r=[])=digs s:=by
 unfold z3.F
 rw [if_pos ⟨hs,by decide,by decide⟩]
 refine ⟨_,rfl,?_⟩
 rw [Z66,decide_eq_true_iff,Qjt,digs,Z14]
 simp only [Qu1]
def numOK (s:J1):Bool:=!decide (s=[])&&digs s && !(decide (1<s.length)&&decide ((s.getD 0 0).toNat=48))
def mDigits (s:J1):Nat×Int:=if 4096<s.length then (0,7) else if numOK s then ((tv 0 s).toNat,0) else (0,5)
theorem Quc {s:J1} {i:Nat} (hi:i<s.length) (h:(s.getD i 0).toNat<128):Utf8.decode ⟨s.toArray⟩ i=((s.getD i 0).toNat,1):=by
 have e:(ByteArray.mk s.toArray).get! (i+0)=s.getD i 0:=by
  show s.toArray[i+0]! = _
  simp [List.getD,hi]
 unfold Utf8.decode
 simp only [e]
 rw [if_pos h]
theorem Qii {n:Int} (h1:-2147483648<=n) (h2:n<2147483648):wr .i32 n=n:=by
 simp only [wr,IntKind.wrap,IntKind.signed,IntKind.bits]
 simp;omega
theorem Qj2 {s:J1} (hs:Qu s) (hl:s.length<=18):∀(f i:Nat) (d:Int),i+f=s.length->0<=d/\d<(10^i:Nat) ->
  Runs (λrec x=>z37.l2P s rec some x) (d,i) (tv d (s.drop i),s.length)
 |
  0,i,d,hf,_=>by
  have:i=s.length:=by omega
  subst this
  refine .done λrec=>?_
  unfold z37.l2P
  simp only
  rw [if_neg (by omega),Z40 (Z5 _)]
  rfl
 |
  f+1,i,d,hf,hd=>by
  have hi:i<s.length:=by omega
  have hb:=hs s[i] (Z10 hi)
  unfold digit at hb
  have eg:s.getD i 0=s[i]:=by simp [List.getD,hi]
  have hp:(10^i:Nat)<=10^17:=Z61 (by decide) (by omega)
  have hp':((10^i:Nat):Int)<=100000000000000000:=Int.ofNat_le.2 hp
  have ih:=Qj2 hs hl f (i+1) (10*d+(s[i].toNat:Int)-48) (by omega) ⟨by omega,by rw [Z42,Z30];omega⟩
  rw [Z31 hi]
  refine .step (λrec=>?_) ih
  unfold z37.l2P
  simp only
  rw [if_pos hi,Quc hi (by rw [eg];omega),eg]
  simp only
  rw [Qii (by omega) (by omega),Qq (n:=(s[i].toNat:Int)-48) (by omega) (by omega),Qq (n:=10*d) (by omega) (by omega),Qq (by omega) (by omega)]
  congr 2;omega
theorem Qq1 {s:J1} {n j k:Nat} (hs:Qu s) (hk:k<=s.length) (hk':k<=18) (hn:n<10^j) (hj:j<=8192) {R:Type} (rec done:(J1×Bool×J0)->Option R) :
  z37.j1011a rec done (k:Int) s (lb n)=rec (s.drop k,false,lb (n*1000000000000000000+(tv 0 (s.take k)).toNat)):=by
 have hds:Qu (s.take k):=λb hb=>hs b (Z43 hb)
 have hlen:(s.take k).length=k:=by rw [Z11];omega
 have htb:=Yf hds
 rw [hlen] at htb
 have hp:(10^k:Nat)<=10^18:=Z61 (by decide) hk'
 have hp':((10^k:Nat):Int)<=1000000000000000000:=Int.ofNat_le.2 hp
 have r:=Qj2 hds (by omega) (s.take k).length 0 0 (by omega) ⟨Int.le_refl 0,by decide⟩
 have er:z37.l2a (s.take k) ((0:Int),0)=some (tv 0 (s.take k),(s.take k).length):=r.lfp
 obtain ⟨U,hU⟩:∃U:Nat,1000000000000000000=U:=⟨_,rfl⟩
 have hU':Int.toNat 1000000000000000000=U:=by omega
 have hUs:sz U<=19:=Q2 (by omega)
 have hsn:=Z46 (Q7 n) (Q2 hn)
 have hsu:=Z46 (Q7 U) hUs
 have hsm:=Z46 (Q7 (n*U)) (Z46 (Qbn n U) (Nat.add_le_add (Q2 hn) hUs))
 have hst:=Z46 (Q7 (tv 0 (s.take k)).toNat) (Q2 (k:=18) (by omega))
 have e1:z15.F [(1000000000000000000:Int)]=some (lb U):=by rw [W9 (by omega),hU']
 have e2:z15.F [tv 0 (s.take k)]=some (lb (tv 0 (s.take k)).toNat):=W9 (by omega)
 have e3:z36.F (lb n) (lb U)=some (lb (n*U)):=Qa3 (by omega)
 have e4:z35.F (lb (n*U)) (lb (tv 0 (s.take k)).toNat)=some (lb (n*U+(tv 0 (s.take k)).toNat)):=Qhe (by omega)
 have e5:(0:Int)<=(k:Int)/\(k:Int)<=((s.length:Nat):Int):=by omega
 rw [hU]
 unfold z37.j1011a
 rw [if_pos e5,Zi,er]
 simp only [Zb]
 rw [e1]
 simp only [Zb]
 rw [e3]
 simp only [Zb]
 rw [e2]
 simp only [Zb]
 rw [e4]
 simp only [Zb]
 rw [if_pos e5]
theorem Qh2:∀(m:Nat) (s:J1),s.length<=m->Qu s->∀(n j:Nat) (first:Bool),n<10^j->j+s.length<=8192->((first=true/\n=0)\/(first=false/\s.length%18=0)) ->
  ∃f',Runs (λrec x=>z37.l0P rec some x) (s,first,lb n) ([],f',lb (tv n s).toNat)
 |
  0,s,hm,hs,n,j,first,hn,hj,hf=>by
  have:s=[]:=List.length_eq_zero_iff.1 (by omega)
  subst this
  refine ⟨first,.done λrec=>?_⟩
  simp [z37.l0P,tv]
 |
  m+1,s,hm,hs,n,j,first,hn,hj,hf=>by
  by_cases hne:s=[]
  ·subst hne
   refine ⟨first,.done λrec=>?_⟩
   simp [z37.l0P,tv]
  ·have hpos:0<s.length:=Z22.2 hne
   have key:∃k:Nat,0<k/\k<=s.length/\k<=18/\(n=0\/k=18)/\(s.length-k)%18=0 /\
     ∀rec,z37.l0P rec some (s,first,lb n)=z37.j1011a rec some (k:Int) s (lb n):=by
    have hd:(!decide (s=([]:J1)))=true:=by rw [Zf hne];rfl
    rcases hf with ⟨rfl,hn0⟩|⟨rfl,h18⟩
    ·have em:Int.tmod (s.length:Int) 18=((s.length%18:Nat):Int):=by rw [Qbo (by omega)];rfl
     by_cases h0:s.length%18=0
     ·refine ⟨18,by omega,by omega,by omega,.inr rfl,by omega,λrec=>?_⟩
      unfold z37.l0P
      simp only [hd,Zn,Zd,Zc]
      rw [em,bif_t (by omega)];rfl
     ·refine ⟨s.length%18,by omega,Nat.mod_le _ _,by omega,.inl hn0,by omega,λrec=>?_⟩
      unfold z37.l0P
      simp only [hd,Zn,Zd,Zc]
      rw [em,Qc (by omega)]
    ·refine ⟨18,by omega,by omega,by omega,.inr rfl,by omega,λrec=>?_⟩
     unfold z37.l0P
     simp only [hd,Zo,Zd]
     rfl
   obtain ⟨k,k0,k1,k2,k3,k4,k5⟩:=key
   have hds:Qu (s.take k):=λb hb=>hs b (Z43 hb)
   have hdd:Qu (s.drop k):=λb hb=>hs b (Z59 hb)
   have hlen:(s.take k).length=k:=by rw [Z11];omega
   have htb:=Yf hds
   rw [hlen] at htb
   have htv:tv n (s.take k)=((n*1000000000000000000+(tv 0 (s.take k)).toNat:Nat):Int):=by
    rw [Qak,hlen]
    rcases k3 with h|h
    ·subst h;simp;omega
    ·subst h
     have:((10^18:Nat):Int)=1000000000000000000:=rfl
     rw [this];omega
   have hn':n*1000000000000000000+(tv 0 (s.take k)).toNat<10^(j+k):=by
    have hp0:0<10^j:=Nat.pow_pos (by decide)
    rcases k3 with h|h
    ·subst h
     have:10^k<=10^(j+k):=Z61 (by decide) (by omega)
     omega
    ·subst h
     have e18:(10^(j+18):Nat)=10^j*1000000000000000000:=by rw [Z93]
     have e18':((10^18:Nat):Int)=1000000000000000000:=rfl
     rw [e18]
     have:(n+1)*1000000000000000000<=10^j*1000000000000000000:=Z13 _ hn
     omega
   obtain ⟨f',r⟩:=Qh2 m (s.drop k) (by rw [Z17];omega) hdd (n*1000000000000000000+(tv 0 (s.take k)).toNat) (j+k) false hn' (by rw [Z17];omega) (.inr ⟨rfl,by rw [Z17];exact k4⟩)
   refine ⟨f',.step (y:=(s.drop k,false,lb (n*1000000000000000000+(tv 0 (s.take k)).toNat))) (λrec=>?_) ?_⟩
   ·rw [k5,Qq1 hs k1 k2 hn (by omega)]
   ·have e:tv n s=tv ((n*1000000000000000000+(tv 0 (s.take k)).toNat:Nat):Int) (s.drop k):=by
     conv=>lhs;rw [<-List.take_append_drop k s]
     rw [Qck,htv]
    rw [e];exact r
theorem digits_Parse (s:J1):z37.F s=some (lb (mDigits s).1,(mDigits s).2):=by
 unfold z37.F mDigits
 by_cases h1:4096<s.length
 ·rw [bif_t (by omega),if_pos h1,lb_zero]
 ·rw [Qc (by omega),if_neg h1]
  by_cases h2:s=[]
  ·subst h2;rw [bif_t rfl];simp [numOK,lb_zero]
  ·rw [Qc h2]
   obtain ⟨r,t1,t2⟩:=Qk6 s (by omega)
   rw [t1]
   simp only [Zb]
   rw [t2]
   cases hd:digs s with
   |false=>simp [numOK,hd,lb_zero]
   |
    true=>
    have hds:=Yn.1 hd
    obtain ⟨f',r⟩:=Qh2 s.length s (Z5 _) hds 0 0 true (by decide) (by omega) (.inl ⟨rfl,rfl⟩)
    rw [lb_zero] at r
    have er:z37.l0 (s,true,[])=some ([],f',lb (tv ((0:Nat):Int) s).toNat):=r.lfp
    simp only [Zn,Zc]
    rw [er]
    have hpos:0<s.length:=Z22.2 h2
    by_cases h3:1<s.length
    ·rw [bif_t (by omega),if_pos (by omega)]
     by_cases h4:(s.getD 0 0).toNat=48
     ·rw [bif_t (by omega)]
      have:numOK s=false:=by simp [numOK,h3];intro _ _ ;simpa [List.getD] using h4
      rw [this];simp [lb_zero]
     ·rw [Qc (by omega)]
      have:numOK s=true:=by simp only [numOK,Zf h2,hd,Zf h4];simp
      rw [this];rfl
    ·rw [Qc (by omega)]
     have:numOK s=true:=by simp only [numOK,Zf h2,hd,Zf h3];simp
     rw [this];rfl
theorem Qhb (a:Int) (h0:0<=a) (h1:a<9223372036854775808):wr .i64 ((BitVec.ofInt (IntKind.bits .i64) a &&& BitVec.ofInt (IntKind.bits .i64) (1:Int)).toNat:Int)=a%2:=by
 have e:(BitVec.ofInt (IntKind.bits .i64) a &&& BitVec.ofInt (IntKind.bits .i64) (1:Int)).toNat=(a%2).toNat:=by
  rw [BitVec.toNat_and]
  have e1:(BitVec.ofInt (IntKind.bits .i64) (1:Int)).toNat=2^1-1:=rfl
  have e2:(BitVec.ofInt (IntKind.bits .i64) a).toNat=(a%18446744073709551616).toNat:=by
   rw [BitVec.toNat_ofInt];rfl
  rw [e1,Nat.and_two_pow_sub_one_eq_mod,e2]
  omega
 rw [e,Qg (by omega) (by omega)];omega
theorem shr1 (a:Int):Int.fdiv a (2^(min 1 (64:Nat)))=a/2:=by
 rw [Int.fdiv_eq_ediv_of_nonneg _ (by decide)];rfl
theorem Qc0:∀(f t n out:Nat),t<=f->t<9223372036854775808->sz out+t*sz n<=800000000 ->
  ∃n',Runs (λrec x=>z44.l0P rec some x) ((t:Int),lb n,lb out) ((0:Int),n',lb (out*n^t))
 |
  0,t,n,out,hf,ht,hb=>by
  have:t=0:=by omega
  subst this
  refine ⟨lb n,.done λrec=>?_⟩
  simp [z44.l0P]
 |
  f+1,t,n,out,hf,ht,hb=>by
  rcases Z15 t with h0|h0
  ·subst h0
   refine ⟨lb n,.done λrec=>?_⟩
   simp [z44.l0P]
  ·have hn:=Q7 n
   have ho:=Q7 out
   have hsq:=Qbn n n
   have hon:=Qbn out n
   have e2:(t:Int)/2=((t/2:Nat):Int):=by omega
   have em:(t:Int)%2=((t%2:Nat):Int):=by omega
   have hq:t*sz n=2*(t/2*sz n)+t%2*sz n:=by
    conv=>lhs;rw [<-Z71 t 2]
    rw [Z28,Z90]
   have hq2:t/2*sz (n*n)<=2*(t/2*sz n):=by
    have:=Nat.mul_le_mul_left (t/2) hsq
    have e:t/2*(sz n+sz n)=2*(t/2*sz n):=by rw [Nat.mul_add];omega
    omega
   have hpow:n^t=n^(t%2)*(n*n)^(t/2):=by
    rw [<-Nat.pow_two,<-Nat.pow_mul,<-Z93];congr 1;omega
   by_cases hodd:t%2=1
   ·rw [hodd,Z84] at hq
    by_cases h1:1<t
    ·have hge:1<=t/2:=by omega
     have hge':sz n<=t/2*sz n:=Nat.le_mul_of_pos_left _ hge
     obtain ⟨n',r⟩:=Qc0 f (t/2) (n*n) (out*n) (by omega) (by omega) (by omega)
     refine ⟨n',.step (λrec=>?_) (by rw [hpow,hodd,Nat.pow_one,<-Z90];exact r)⟩
     unfold z44.l0P
     simp only
     rw [bif_t (by omega),Qhb _ (by omega) (by omega),em,hodd,bif_t (by omega),Qa3 (by omega)]
     simp only [Zb]
     rw [bif_t (by omega),Qa3 (by omega),shr1,e2]
     rfl
    ·have ht1:t=1:=by omega
     subst ht1
     obtain ⟨n',r⟩:=Qc0 f 0 n (out*n) (by omega) (by omega) (by omega)
     refine ⟨n',.step (λrec=>?_) (by simpa using r)⟩
     unfold z44.l0P
     simp only
     rw [bif_t (by omega),Qhb _ (by omega) (by omega),bif_t (by decide),Qa3 (by omega)]
     simp only [Zb]
     rw [Qc (by omega),shr1]
     rfl
   ·have h2:t%2=0:=by omega
    rw [h2,Nat.zero_mul,Z80] at hq
    have hge:1<=t/2:=by omega
    have hge':sz n<=t/2*sz n:=Nat.le_mul_of_pos_left _ hge
    obtain ⟨n',r⟩:=Qc0 f (t/2) (n*n) out (by omega) (by omega) (by omega)
    refine ⟨n',.step (λrec=>?_) (by rw [hpow,h2,Nat.pow_zero,Z84];exact r)⟩
    unfold z44.l0P
    simp only
    rw [bif_t (by omega),Qhb _ (by omega) (by omega),em,h2,Qc (by omega),bif_t (by omega),Qa3 (by omega)]
    simp only [Zb]
    rw [shr1,e2]
theorem digits_power {n t:Nat} (ht:t<9223372036854775808) (h:t*sz n<=700000000):z44.F (lb n) (t:Int)=some (lb (n^t)):=by
 have h1:sz 1<=1:=Q2 (by decide)
 obtain ⟨n',r⟩:=Qc0 t t n 1 (Z5 _) ht (by omega)
 have e:z44.l0 ((t:Int),lb n,lb 1)=some ((0:Int),n',lb (1*n^t)):=r.lfp
 unfold z44.F
 rw [W9 (by omega)]
 simp only [Zb]
 rw [show Int.toNat 1=1 from rfl,e,Z84]
 rfl
theorem digits_Ten {t:Nat} (ht:t<=4096):z45.F (t:Int)=some (lb (10^t),0):=by
 have h1:sz 10<=2:=Q2 (by decide)
 have h2:=Nat.mul_le_mul_left t h1
 unfold z45.F
 rw [Qc (by omega),Qc (by omega),W9 (by omega)]
 simp only [Zb]
 rw [show Int.toNat 10=10 from rfl,digits_power (by omega) (by omega)]
 rfl
def Jb (a b:Nat):Prop:=z25.F (lb a) (lb b)=some (lb (a/b),lb (a%b),0)
def Qas (M:Nat):Prop:=∀x y,x<=M->y<=M->0<y->Jb x y
theorem Qda {m n:Int}:cmpI m n<0↔m<n:=by unfold cmpI;split<;>(try split)<;>omega
theorem Qau {m n:Int}:cmpI m n>0↔n<m:=by unfold cmpI;split<;>(try split)<;>omega
theorem Qmb {m n:Int}:cmpI m n=0↔m=n:=by unfold cmpI;split<;>(try split)<;>omega
theorem Qdt {a:Nat} (h0:0<a) (h:a<18446744073709551616):lb a=[(a:Int)]:=by
 show toB LB a=_
 rw [Wv bL h0,Nat.mod_eq_of_lt h,Nat.div_eq_of_lt h,toB_zero]
theorem Qj0 {a b:Int} (ha:0<=a/\a<18446744073709551616) (hb:0<b):z19.F 0 a b=some (a/b,a%b):=by
 unfold z19.F
 rw [Qc (by omega),Qc (by omega),bif_t rfl,if_neg (by omega),if_neg (by omega),Qbf ha.1,Qbo ha.1]
 have h1:=Int.ediv_nonneg ha.1 (Int.le_of_lt hb)
 have h2:=Int.ediv_le_self b ha.1
 rw [Qq h1 (by omega)]
theorem Qos {a b:Int} (ha:0<=a/\a<18446744073709551616) (hb:0<b):z20.F [a] b=some ([a/b],a%b):=by
 have h0:z20.l0 [a] b ((0:Int),(0:Int),[(0:Int)])=some (a%b,(-1:Int),[a/b]):=by
  refine (Runs.step (y:=(a%b,(-1:Int),[a/b])) (λrec=>?_) (Runs.done λrec=>?_):Runs (λrec x=>z20.l0P [a] b rec some x) _ _).lfp
  ·unfold z20.l0P
   simp only [Z19]
   rw [bif_t (by omega),if_pos (by omega),show [a].getD (Int.toNat 0) 0=a from rfl,Qj0 ha hb]
   rfl
  ·unfold z20.l0P
   simp only
   rw [Qc (by omega)]
 unfold z20.F
 simp only [Z19]
 rw [if_pos (by omega)]
 show ((z20.l0 [a] b ((0:Int),wr .i64 0,[(0:Int)])).bind _)=_
 rw [Qg (by omega) (by omega),h0]
 rfl
theorem Ql3 {a b:Nat} (h:a<b) (hs:(lb a).length<=900000000):Jb a b:=by
 unfold Jb z25.F
 rw [W0]
 simp only [Zb]
 rw [Qc (by omega),Qdu hs]
 simp only [Zb]
 have:cmpI (a:Int) b<0:=by unfold cmpI;rw [if_pos (by omega)];decide
 rw [bif_t this,Nat.div_eq_of_lt h,Nat.mod_eq_of_lt h,lb_zero]
theorem Qv6 {a b:Nat} (ha:a<18446744073709551616) (hb:0<b):Jb a b:=by
 have hl:(lb a).length<=1:=Ja bL (by simpa using ha)
 rcases Z56 a b with h|h
 ·exact Ql3 h (by omega)
 ·unfold Jb z25.F
  rw [W0]
  simp only [Zb]
  rw [Qc (by omega),Qdu (by omega)]
  simp only [Zb]
  have:¬cmpI (a:Int) b<0:=by unfold cmpI;rw [if_neg (by omega)];split<;>omega
  rw [Qc this,Qdt (by omega) ha,Qdt hb (by omega),Qb3 (by show List.length _<=_;simp),Qb3 (by show List.length _<=_;simp)]
  simp only [Zb,Z19]
  rw [bif_t (by omega),if_pos (by omega),show [(b:Int)].getD 0 0=b from rfl,Qos (by omega) (by omega)]
  simp only [Zb]
  have b1:a/b<=a:=Nat.div_le_self a b
  have b2:a%b<=a:=Nat.mod_le a b
  obtain ⟨q,hq⟩:∃q,a/b=q:=⟨_,rfl⟩
  obtain ⟨m,hm⟩:∃m,a%b=m:=⟨_,rfl⟩
  have e1:((a:Int)/b)=(q:Int):=by rw [<-hq];rfl
  have e2:((a:Int)%b)=(m:Int):=by rw [<-hm];rfl
  rw [hq] at b1 ⊢
  rw [hm] at b2 ⊢
  rw [e1,e2,W9 (by omega)]
  simp only [Zb]
  rw [W9 (by omega)]
  rfl
theorem quot_Gcd {M:Nat} (hD:Qas M) {a b:Nat} (ha:a<=M) (hb:b<=M):z61.F (lb a) (lb b)=some (lb (Nat.gcd a b)):=by
 have key:∀(f a b:Nat),b<f->a<=M->b<=M->Runs (λrec x=>z61.l0P rec some x) (lb a,lb b) (lb (Nat.gcd a b),[]):=by
  intro f
  induction f with
  |zero=>intro a b h;omega
  |
   succ f ih=>
   intro a b h ha hb
   rcases Z15 b with h0|h0
   ·subst h0
    refine .done λrec=>?_
    unfold z61.l0P
    simp only [W0,Zb]
    rw [Nat.gcd_zero_right,lb_zero];rfl
   ·have hm:=Z91 a h0
    have hmm:=Nat.mod_le a b
    have e:Nat.gcd a b=Nat.gcd b (a%b):=by rw [Nat.gcd_comm,Nat.gcd_rec,Nat.gcd_comm]
    rw [e]
    refine .step (λrec=>?_) (ih b (a%b) (by omega) hb (by omega))
    unfold z61.l0P
    simp only [W0,Zb]
    rw [Zf (by omega),Zo,Zd,hD a b ha hb h0]
    rfl
 unfold z61.F
 have e:z61.l0 (lb a,lb b)=some (lb (Nat.gcd a b),[]):=(key (b+1) a b (by omega) ha hb).lfp
 rw [e];rfl
theorem Qv5 (z:Int):decide (cmpI z 0<0)=neg z:=by
 unfold cmpI;apply decide_eq_decide.2;split<;>(try split)<;>omega
theorem Qi3 {z:Int} {g:Nat} (h:g∣z.natAbs) (h0:0<g):(z/(g:Int)).natAbs=z.natAbs/g/\(z/(g:Int)<0↔z<0):=by
 obtain ⟨k,hk⟩:=Int.ofNat_dvd_left.2 h
 subst hk
 have hg:(g:Int)≠0:=by omega
 rw [Int.mul_ediv_cancel_left _ hg,Int.natAbs_mul,Int.natAbs_natCast,Nat.mul_div_cancel_left _ h0]
 refine ⟨rfl,?_⟩
 constructor
 ·intro h;exact Int.mul_neg_of_pos_of_neg (by omega) h
 ·intro h
  rcases Int.lt_or_le k 0 with h'|h'
  ·exact h'
  ·have:=Z79 (show (0:Int)<=g by omega) h';omega
theorem frac_made {M:Nat} (hD:Qas M) {num:Int} {den:Nat} (h0:0<den) (hn:num.natAbs<=M) (hd:den<=M) (hs:sz den<=700000000) :
  z62.F (lb num.natAbs) (neg num) (lb den)=some (lb (mkRat num den).num.natAbs,neg (mkRat num den).num,lb ((mkRat num den).den-1)):=by
 have hg:0<Nat.gcd num.natAbs den:=Nat.gcd_pos_of_pos_right _ h0
 have hgd:Nat.gcd num.natAbs den<=den:=Nat.gcd_le_right _ h0
 have hdv:=Nat.gcd_dvd_right num.natAbs den
 have hdv2:=Nat.gcd_dvd_left num.natAbs den
 have hp:0<den/Nat.gcd num.natAbs den:=Nat.div_pos hgd hg
 have hle:den/Nat.gcd num.natAbs den<=den:=Nat.div_le_self _ _
 have hsz:=Z46 (Q7 _) (Z46 (Qgi hle) hs)
 obtain ⟨q1,q2⟩:=Qi3 hdv2 hg
 unfold z62.F z60.F
 simp only [Zb]
 rw [quot_Gcd hD hn hd]
 simp only [Zb]
 rw [Rat.num_mkRat,Rat.den_mkRat,if_neg (by omega),if_neg (by omega),Nat.gcd_comm den]
 generalize Nat.gcd num.natAbs den=g at *
 have d1:z25.F (lb num.natAbs) (lb g)=_:=hD _ _ hn (by omega) hg
 have d2:z25.F (lb den) (lb g)=_:=hD _ _ hd (by omega) hg
 rw [d1]
 simp only [Zb]
 rw [d2]
 simp only [Zb]
 rw [W9 (by omega)]
 simp only [Zb]
 rw [show Int.toNat 1=1 from rfl,Qfb (by omega),if_pos (by omega)]
 simp only [Zb]
 rw [Qar]
 simp only [Zb]
 rw [Qv5,Ye (z:=num/(g:Int)) q1.symm (by
  have hz:num/(g:Int)<0↔num<0:=q2
  by_cases h:num<0
  ·exact .inl ⟨Zt h,by omega⟩
  ·exact .inr ⟨Zf h,by omega⟩)]
 rfl
abbrev fr (q:Rat):J0×Bool×J0:=(lb q.num.natAbs,neg q.num,lb (q.den-1))
theorem frac_Of {M:Nat} (hD:Qas M) {num den:Int} (h0:den≠0) (hn:num.natAbs<=M) (hd:den.natAbs<=M) (hs:sz den.natAbs<=700000000) :
  z63.F (lb num.natAbs) (neg num) (lb den.natAbs) (neg den)=some ((fr (Rat.divInt num den)).1,(fr (Rat.divInt num den)).2.1,(fr (Rat.divInt num den)).2.2,0):=by
 have hc:cmpI den 0=if den<0 then -1 else 1:=by
  unfold cmpI
  by_cases h:den<0
  ·rw [if_pos h,if_pos h]
  ·rw [if_neg h,if_neg h,if_neg h0]
 unfold z63.F
 rw [Qar]
 simp only [Zb]
 rw [hc]
 by_cases h:den<0
 ·have e:Rat.divInt num den=mkRat (-num) den.natAbs:=by
   have:den = -((den.natAbs:Nat):Int):=by omega
   conv=>lhs;rw [this]
   rw [Rat.divInt_neg',Rat.divInt_ofNat]
  rw [if_pos h,Qc (by decide),bif_t rfl,Qj9]
  simp only [Zb]
  unfold z63.j4 z60.F
  simp only [Zb]
  rw [frac_made hD (by omega) (by omega) hd hs,e]
  rfl
 ·have e:Rat.divInt num den=mkRat num den.natAbs:=by
   have:den=((den.natAbs:Nat):Int):=by omega
   conv=>lhs;rw [this]
   rw [Rat.divInt_ofNat]
  rw [if_neg h,Qc (by decide),Qc (by decide)]
  unfold z63.j4 z60.F
  simp only [Zb]
  rw [frac_made hD (by omega) hn hd hs,e]
  rfl
theorem Qoo (q:Rat) (a:J0) (b:Bool) (hs:sz q.den<=700000000):z65.F a b (lb (q.den-1))=some (lb q.den):=by
 have h1:sz 1<=1:=Q2 (by decide)
 have h2:=Z46 (Q7 (q.den-1)) (Z46 (Qgi (Nat.sub_le _ _)) hs)
 have h3:=Z46 (Q7 1) h1
 unfold z65.F
 rw [W9 (by omega)]
 simp only [Zb]
 rw [show Int.toNat 1=1 from rfl,Qhe (by omega),Nat.sub_add_cancel q.den_pos]
 rfl
theorem Qjw (q:Rat) (a:J0) (b:Bool) (hs:sz q.den<=700000000):z66.F a b (lb (q.den-1))=some (lb (q.den:Int).natAbs,neg (q.den:Int)):=by
 unfold z66.F
 rw [Qoo q a b hs]
 simp only [Zb]
 rw [Ye (z:=(q.den:Int)) (by omega) (.inr ⟨rfl,by omega⟩)]
 rfl
theorem Qsl (q r:Rat):q/r=Rat.divInt (q.num*r.den) (q.den*r.num):=by
 rw [Rat.div_def,Rat.inv_def]
 conv=>lhs;rw [<-Rat.num_divInt_den q,Rat.divInt_mul_divInt]
theorem Qr1 {M:Nat} (hD:Qas M) {q r:Rat} (h0:r≠0) (hn:(q.num*r.den).natAbs<=M) (hd:(q.den*r.num).natAbs<=M) (hs:sz q.num.natAbs+sz r.den<=600000000) (hs':sz r.num.natAbs+sz q.den<=600000000) :
  z67.F (lb q.num.natAbs) (neg q.num) (lb (q.den-1)) (lb r.num.natAbs) (neg r.num) (lb (r.den-1))=some ((fr (q/r)).1,(fr (q/r)).2.1,(fr (q/r)).2.2,0):=by
 have e1:sz (r.den:Int).natAbs=sz r.den:=rfl
 have e2:sz (q.den:Int).natAbs=sz q.den:=rfl
 have l1:=Q7 q.num.natAbs
 have l2:=Q7 (r.den:Int).natAbs
 have l3:=Q7 (q.den:Int).natAbs
 have l4:=Q7 r.num.natAbs
 have hr:r.num≠0:=λh=>h0 (Rat.num_eq_zero.1 h)
 have hqd:=q.den_nz
 have m1:=Qbn (q.den:Int).natAbs r.num.natAbs
 rw [<-Int.natAbs_mul] at m1
 unfold z67.F
 rw [Qjw r _ _ (by omega)]
 simp only [Zb]
 rw [Qha (by omega)]
 simp only [Zb]
 rw [Qjw q _ _ (by omega)]
 simp only [Zb]
 rw [Qha (by omega)]
 simp only [Zb]
 rw [frac_Of hD (Int.mul_ne_zero (by omega) hr) hn hd (by show sz _<=_;omega),Qsl]
 rfl
def cutNeg (s:J1):J1×Bool:=match s with|[]=>([],false)|b::t=>if b=45 then (t,true) else (b::t,false)
theorem Qmd (s:J1):(cutNeg s).1.length<=s.length:=by
 unfold cutNeg;split
 ·simp
 ·split<;>simp
theorem Qfh (s:J1):z33.F s [45]=some (cutNeg s):=by
 unfold z33.F z32.F z31.F cutNeg
 cases s with
 |nil=>rfl
 |
  cons b t=>
  have e1:([45]:J1).length=1:=rfl
  have e2:Int.toNat ((1:Nat):Int)=1:=rfl
  simp only [e1,e2]
  rw [bif_t (by simp;omega),if_pos (by simp;omega)]
  simp only [Zb,List.take_succ_cons,List.take_zero,List.drop_succ_cons,Z65,List.cons.injEq,and_true]
  by_cases h:b=45
  ·rw [Zt h,if_pos h,if_pos (by simp;omega)];rfl
  ·rw [Zf h,if_neg h];rfl
def mWhole (s:J1):Int×Int:=
 if (mDigits (cutNeg s).1).2≠0 then (0,(mDigits (cutNeg s).1).2)
 else if (cutNeg s).2&&decide ((mDigits (cutNeg s).1).1=0) then (0,5)
 else (if (cutNeg s).2 then -((mDigits (cutNeg s).1).1:Int) else (mDigits (cutNeg s).1).1,0)
theorem whole_Parse (s:J1):z38.F s=some (lb (mWhole s).1.natAbs,neg (mWhole s).1,(mWhole s).2):=by
 unfold z38.F mWhole
 rw [Qfh]
 simp only [Zb]
 rw [digits_Parse]
 simp only [Zb]
 generalize mDigits (cutNeg s).1=d
 generalize (cutNeg s).2=below
 by_cases h:d.2=0
 ·have h':¬(d.2≠0):=λhh=>hh h
  rw [Zt h,if_neg h']
  simp only [Zn,Zc]
  cases below with
  |
   true=>
   simp only [Zd,Z52,if_true]
   rw [W0]
   simp only [Zb]
   by_cases h0:d.1=0
   ·rw [Zt h0]
    simp only [if_true,Zd]
    rw [show Int.natAbs 0=0 from rfl,lb_zero];rfl
   ·rw [Zf h0]
    simp only [Zc]
    rw [Ye (z:=-(d.1:Int)) (by omega) (.inl ⟨rfl,by omega⟩)]
    simp
  |
   false=>
   simp only [Zc,Z54]
   rw [Ye (z:=(d.1:Int)) (by omega) (.inr ⟨rfl,by omega⟩)]
   simp
 ·rw [Zf h,if_pos h]
  simp only [Zo,Zd]
  rw [show Int.natAbs 0=0 from rfl,lb_zero];rfl
def cutDot:J1->J1×Option J1
 |[]=>([],none)
 |b::t=>if b=46 then ([],some t) else (b::(cutDot t).1,(cutDot t).2)
theorem Qes:∀{t:J1},(cutDot t).2=none->(cutDot t).1=t
 |[],_=>rfl
 |
  b::t,h=>by
  unfold cutDot at h ⊢
  split at h
  ·simp at h
  ·rename_i hb
   rw [if_neg hb]
   simp only at h ⊢
   rw [Qes h]
theorem Qeq:∀{t r:J1},(cutDot t).2=some r->t=(cutDot t).1++46::r
 |[],r,h=>by simp [cutDot] at h
 |
  b::t,r,h=>by
  unfold cutDot at h ⊢
  split at h
  ·rename_i hb
   rw [if_pos hb,hb]
   simp only [Zs] at h
   rw [h];rfl
  ·rename_i hb
   rw [if_neg hb]
   simp only at h ⊢
   conv=>lhs;rw [Qeq h]
   rfl
theorem Js (b:UInt8) (t:J1) (c:UInt8):byteIdx (b::t) c=if b=c then 0 else if byteIdx t c<0 then -1 else byteIdx t c+1:=by
 unfold byteIdx
 rw [Z8,List.range_succ_eq_map,List.find?_cons]
 by_cases h:b=c
 ·simp [h]
 ·have h1:((b::t).getD 0 0 == c)=false:=by simp [h]
  rw [h1,if_neg h]
  simp only
  rw [List.find?_map]
  have e:((λi=>(b::t).getD i 0 == c)∘Nat.succ)=λi=>t.getD i 0 == c:=by funext i;simp [List.getD]
  rw [e]
  cases (List.range t.length).find? λi=>t.getD i 0 == c with
  |none=>simp
  |some i=>simp;omega
theorem Qmu:∀t:J1,byteIdx t 46=if (cutDot t).2=none then -1 else ((cutDot t).1.length:Int)
 |[]=>by simp [byteIdx,cutDot]
 |
  b::t=>by
  have e:cutDot (b::t)=if b=46 then ([],some t) else (b::(cutDot t).1,(cutDot t).2):=by rw [cutDot]
  rw [Js,Qmu t,e]
  by_cases h:b=46
  ·simp [h]
  ·rw [if_neg h,if_neg h]
   by_cases h2:(cutDot t).2=none
   ·simp [h2]
   ·simp [h2];omega
def plainB (s:J1):Bool:=!decide (s=[])&&digs s
def zeros (s:J1):Bool:=s.all (· == 48)
theorem dec_plain (s:J1) (h:s.length<=9223372036854775807):z49.F s=some (plainB s):=by
 unfold z49.F plainB
 by_cases h0:s=[]
 ·rw [Zt h0];rfl
 ·rw [Zf h0]
  obtain ⟨r,t1,t2⟩:=Qk6 s h
  simp only [Zo,Zd]
  rw [t1]
  simp only [Zb]
  rw [t2];simp
theorem Qo5 (b:UInt8):([48]:J1).contains b=(b == 48):=by
 simp only [List.contains_cons,List.contains_nil,Bool.or_false]
theorem Qik (s:J1) (hs:s.length<=9223372036854775807):∃r,z3.F s [48]=some r/\decide (r=[])=zeros s:=by
 unfold z3.F
 rw [if_pos ⟨hs,by decide,by decide⟩]
 refine ⟨_,rfl,?_⟩
 rw [Z66,decide_eq_true_iff,Qjt,zeros,Z14]
 simp only [Qo5]
theorem Qjo:∀{s:J1},Qu s->tv 0 (trimL s [48])=tv 0 s/\Qu (trimL s [48])/\(trimL s [48]).length<=s.length/\(trimL s [48]≠[]->((trimL s [48]).getD 0 0).toNat≠48)
 |[],h=>by simp [trimL,tv,Qu]
 |
  b::s,h=>by
  have ih:=Qjo (s:=s) λx hx=>h x (by simp [hx])
  by_cases hb:b=48
  ·have e:trimL (b::s) [48]=trimL s [48]:=by unfold trimL;exact List.dropWhile_cons_of_pos (by rw [hb];decide)
   rw [e]
   refine ⟨?_,ih.2.1,by rw [Z8];omega,ih.2.2.2⟩
   rw [ih.1,hb];rfl
  ·have e:trimL (b::s) [48]=b::s:=by unfold trimL;exact List.dropWhile_cons_of_neg (by simp [hb])
   rw [e]
   refine ⟨rfl,h,Z5 _,λ_ hh=>hb (UInt8.toNat_inj.1 hh)⟩
theorem Qlu {s:J1} (hd:Qu s) (hl:s.length<=4096):z37.F (if trimL s [48]=[] then [48] else trimL s [48])=some (lb (tv 0 s).toNat,0):=by
 obtain ⟨h1,h2,h3,h4⟩:=Qjo hd
 rw [digits_Parse]
 by_cases h:trimL s [48]=[]
 ·rw [if_pos h]
  rw [h] at h1
  rw [<-h1];rfl
 ·rw [if_neg h,<-h1]
  unfold mDigits
  have:numOK (trimL s [48])=true:=by
   unfold numOK
   rw [Zf h,Yn.2 h2,Zf (h4 h)];simp
  rw [if_neg (by omega),this];rfl
def Y0 (below:Bool) (a:J1) (o:Option J1):Int×Nat×Int:=
 if !plainB a||(o.isSome && !plainB (o.getD []))||(decide (1<a.length)&&decide ((a.getD 0 0).toNat=48)) then (0,0,5)
 else if below&&zeros (a++o.getD []) then (0,0,5)
 else if 64<(o.getD []).length then (0,0,10)
 else (if below then -tv 0 (a++o.getD []) else tv 0 (a++o.getD []),(o.getD []).length,0)
def mDec (s:J1):Int×Nat×Int:=if 4096<s.length then (0,0,7) else Y0 (cutNeg s).2 (cutDot (cutNeg s).1).1 (cutDot (cutNeg s).1).2
abbrev decR (m:Int×Nat×Int):J0×Bool×Int×Int:=(lb m.1.natAbs,neg m.1,(m.2.1:Int),m.2.2)
theorem Yl (e:Int):decR (0,0,e)=([],false,0,e):=by unfold decR;simp [lb_zero]
theorem Qio (n:Int) (h:0<=n) (below:Bool):z30.F (lb n.toNat) below=some (lb (if below then -n else n).natAbs,neg (if below then -n else n)):=by
 cases below
 ·rw [Ye (z:=n) (by omega) (.inr ⟨rfl,h⟩)];rfl
 ·rw [Ye (z:=-n) (by omega) (.inl ⟨rfl,by omega⟩)];rfl
theorem Qti {rest a b:J1} {below lead:Bool} (h1:rest.take a.length=a) (h2:rest.drop (a.length+1)=b) (ha:Qu a) (hb:Qu b) (hl:a.length+b.length<=4096) :
  z50.j14 lead (rest,below) (a.length:Int)=some (decR (if lead then (0,0,5) else if below&&zeros (a++b) then (0,0,5) else if 64<b.length then (0,0,10) else (if below then -tv 0 (a++b) else tv 0 (a++b),b.length,0))):=by
 have e1:(wr .i64 ((a.length:Int)+1)).toNat=a.length+1:=by rw [Qg (by omega) (by omega)];omega
 have hab:Qu (a++b):=λx hx=>(Z32.1 hx).elim (ha x) (hb x)
 have hln:(a++b).length<=4096:=by rw [Z2];exact hl
 have key:z50.j16 false (rest,below) (a.length:Int)=some (decR (if 64<b.length then (0,0,10) else (if below then -tv 0 (a++b) else tv 0 (a++b),b.length,0))):=by
  unfold z50.j16
  simp only [e1,Zi,h1,h2,Zc]
  by_cases h64:64<b.length
  ·rw [bif_t (by omega),if_pos h64,Yl]
  ·rw [Qc (by omega),if_neg h64,if_pos (by omega)]
   have et:z4.F (a++b) [48]=some (trimL (a++b) [48]):=by unfold z4.F;rw [if_pos ⟨by decide,by decide⟩]
   rw [et]
   simp only [Zb]
   have ep:=Qlu hab hln
   have fin:∀x,z37.F x=some (lb (tv 0 (a++b)).toNat,0)->z50.j18 x (rest,below) (a.length:Int)=some (decR (if below then -tv 0 (a++b) else tv 0 (a++b),b.length,0)):=λx hx=>by
    unfold z50.j18
    rw [hx]
    simp only [Zb,e1,h2]
    rw [Qio _ (Yf hab).1]
    rfl
   by_cases ht:trimL (a++b) [48]=[]
   ·rw [if_pos ht] at ep
    rw [bif_t ht];exact fin _ ep
   ·rw [if_neg ht] at ep
    rw [Qc ht];exact fin _ ep
 unfold z50.j14
 simp only [e1,Zi,h1,h2]
 cases lead with
 |true=>simp only [Zd,if_true];rw [Yl]
 |
  false=>
  simp only [Zc]
  rw [if_neg Bool.false_ne_true]
  cases below with
  |false=>simp only [Zc,Z54];rw [key];rfl
  |
   true=>
   obtain ⟨r,t1,t2⟩:=Qik (a++b) (by omega)
   simp only [Zd,Z52]
   rw [if_pos (by omega),t1]
   simp only [Zb]
   rw [t2]
   cases hz:zeros (a++b) with
   |true=>unfold z50.j16;simp only [Zd,if_true];rw [Yl]
   |false=>rw [key];rfl
theorem Qwh {a:J1} {below lead:Bool} (ha:Qu a) (hl:a.length<=4096) :
  z50.j22 lead (a,below)=some (decR (if lead then (0,0,5) else if below&&zeros a then (0,0,5) else (if below then -tv 0 a else tv 0 a,0,0))):=by
 have key:z50.j24 (a,below)=some (decR (if below then -tv 0 a else tv 0 a,0,0)):=by
  unfold z50.j24
  simp only [Z35]
  rw [if_pos (by simp;omega)]
  have et:z4.F a [48]=some (trimL a [48]):=by unfold z4.F;rw [if_pos ⟨by decide,by decide⟩]
  rw [et]
  simp only [Zb]
  have ep:=Qlu ha hl
  have fin:∀x,z37.F x=some (lb (tv 0 a).toNat,0)->z50.j26 x (a,below)=some (decR (if below then -tv 0 a else tv 0 a,0,0)):=λx hx=>by
   unfold z50.j26
   rw [hx]
   simp only [Zb]
   rw [Qio _ (Yf ha).1]
   rfl
  by_cases ht:trimL a [48]=[]
  ·rw [if_pos ht] at ep
   rw [bif_t ht];exact fin _ ep
  ·rw [if_neg ht] at ep
   rw [Qc ht];exact fin _ ep
 unfold z50.j22
 simp only [Z35]
 cases lead with
 |true=>simp only [Zd,if_true];rw [Yl]
 |
  false=>
  simp only [Zc]
  rw [if_neg Bool.false_ne_true]
  cases below with
  |false=>simp only [Zc,Z54];rw [key];rfl
  |
   true=>
   obtain ⟨r,t1,t2⟩:=Qik a (by omega)
   simp only [Zd,Z52]
   rw [if_pos (by simp;omega),t1]
   simp only [Zb]
   rw [t2]
   cases hz:zeros a with
   |true=>simp only [Zd,if_true];rw [Yl]
   |false=>simp only [Zc];rw [key];rfl
theorem Jw {s:J1} (h:plainB s=true):Qu s/\s≠[]:=by
 unfold plainB at h
 rw [Z4] at h
 exact ⟨Yn.1 h.2,by simpa using h.1⟩
theorem Qm1 {a:J1} (hne:a≠[]) {α:Type} (f:Bool->Option α) :
  (bif decide ((a.length:Int)>1) then (if (0:Int)<=(0:Int)/\(0:Int)<(a.length:Int) then f (decide (((a.getD 0 0).toNat:Int)=(48:Int))) else none) else f false)=f (decide (1<a.length)&&decide ((a.getD 0 0).toNat=48)):=by
 have hpos:=Z22.2 hne
 by_cases h:1<a.length
 ·rw [bif_t (by omega),if_pos (by omega),Zt h,Z52]
  congr 1;exact decide_eq_decide.2 (by omega)
 ·rw [Qc (by omega),Zf h,Z54]
theorem dec_Parse (s:J1):z50.F s=some (decR (mDec s)):=by
 unfold z50.F mDec
 by_cases h0:4096<s.length
 ·rw [bif_t (by omega),if_pos h0,Yl]
 ·rw [Qc (by omega),if_neg h0,Qfh]
  simp only [Zb]
  have hlen:=Qmd s
  generalize cutNeg s=c at *
  obtain ⟨rest,below⟩:=c
  simp only at hlen ⊢
  have hp0:z49.F ([]:J1)=some false:=rfl
  by_cases hdot:([46]:J1)=rest
  ·subst hdot
   rw [bif_t rfl]
   simp only [Z19,List.take_zero,hp0,Zb]
   unfold z50.j4
   simp only [Zo,Zd]
   have:Y0 below (cutDot [46]).1 (cutDot [46]).2=(0,0,5):=by simp [cutDot,Y0,plainB]
   rw [this,Yl]
   rfl
  ·rw [Qc hdot,if_pos (by simp)]
   have hi:z2.F rest ((([46]:J1).getD 0 0).toNat:Int)=some (byteIdx rest 46):=rfl
   rw [hi]
   simp only [Zb]
   rw [Qmu]
   cases ho:(cutDot rest).2 with
   |
    none=>
    have ha:=Qes ho
    rw [if_pos rfl,Qc (by omega),ha,dec_plain _ (by omega)]
    simp only [Zb]
    unfold Y0
    simp only [Option.isSome_none,Z54,Bool.or_false,Option.getD_none,Z35,Z21]
    cases hpl:plainB rest with
    |false=>unfold z50.j22;simp only [Zo,Zd,Bool.true_or,if_true];rw [Yl]
    |
     true=>
     obtain ⟨hd,hne⟩:=Jw hpl
     simp only [Zn,Zc,Z89]
     rw [Qm1 hne λb=>z50.j22 b (rest,below),Qwh hd (by omega)]
     rfl
   |
    some b=>
    have hab:=Qeq ho
    generalize (cutDot rest).1=a at *
    have hl:rest.length=a.length+(b.length+1):=by rw [hab];simp
    have t1:rest.take a.length=a:=by rw [hab];simp
    have t2:rest.drop (a.length+1)=b:=by
     rw [hab,<-Z92];simp
    have e1:(wr .i64 ((a.length:Int)+1))=((a.length+1:Nat):Int):=by rw [Qg (by omega) (by omega)];omega
    rw [if_neg (by simp),bif_t (by omega),if_pos (by omega)]
    simp only [e1,Zi,t1,t2]
    rw [if_pos (by omega),dec_plain a (by omega)]
    simp only [Zb]
    unfold Y0
    simp only [Option.isSome_some,Z52,Z45]
    cases hpl:plainB a with
    |false=>unfold z50.j14;simp only [Zo,Zd,Bool.true_or,if_true];rw [Yl]
    |
     true=>
     obtain ⟨hd,hne⟩:=Jw hpl
     simp only [Zn,Zc,Z89]
     rw [dec_plain b (by omega)]
     simp only [Zb]
     cases hpb:plainB b with
     |false=>unfold z50.j14;simp only [Zo,Zd,Bool.true_or,if_true];rw [Yl]
     |
      true=>
      obtain ⟨hdb,hneb⟩:=Jw hpb
      simp only [Zn,Zc,Z89]
      rw [Qm1 hne λx=>z50.j14 x (rest,below) (a.length:Int),Qti t1 t2 hd hdb (by omega)]
abbrev leap (y:Int):Prop:=y%4=0/\¬y%100=0\/y%400=0
abbrev goodY (y:Int):Prop:=1<=y/\y<=9999
def dDays (y m:Int):Int:=if ¬goodY y\/m<1\/12<m then 0 else if m=2 then (if leap y then 29 else 28) else if m=4\/m=6\/m=9\/m=11 then 30 else 31
abbrev right (y m d:Int):Prop:=1<=d/\d<=dDays y m
theorem Qbl {a b:Int} (hb:0<b):Int.tmod a b=0↔a%b=0:=by
 rw [<-Int.dvd_iff_tmod_eq_zero,<-Int.dvd_iff_emod_eq_zero]
theorem date_good (y:Int):z77.F y=some (decide (goodY y)):=by
 unfold z77.F
 by_cases h:y>=1
 ·rw [bif_t h];congr 1;exact decide_eq_decide.2 (by omega)
 ·rw [Qc h];congr 1;symm;exact Zf (by omega)
theorem date_Leap (y:Int):z78.F y=some (decide (goodY y/\leap y)):=by
 unfold z78.F
 rw [date_good]
 simp only [Zb,Qbl (show (0:Int)<4 by decide),Qbl (show (0:Int)<100 by decide),Qbl (show (0:Int)<400 by decide)]
 by_cases h:goodY y
 ·rw [bif_t h]
  by_cases h4:y%4=0
  ·rw [bif_t h4]
   by_cases h1:y%100=0
   ·rw [Zt h1];simp only [Zn,Zc];congr 1;exact decide_eq_decide.2 (by omega)
   ·rw [Zf h1];simp only [Zo,Zd];congr 1;symm;exact Zt (by omega)
  ·rw [Qc h4];congr 1;exact decide_eq_decide.2 (by omega)
 ·rw [Qc h];congr 1;symm;exact Zf (λhh=>h hh.1)
theorem date_Days (y m:Int):z79.F y m=some (dDays y m):=by
 unfold z79.F dDays
 rw [date_good]
 simp only [Zb]
 by_cases hy:goodY y
 ·rw [Zt hy]
  simp only [Zn,Zc]
  by_cases h1:m<1
  ·rw [bif_t h1,if_pos (by omega)]
  ·rw [Qc h1]
   by_cases h12:m>12
   ·rw [bif_t h12,if_pos (by omega)]
   ·rw [Qc h12,if_neg (by omega)]
    by_cases h2:m=2
    ·subst h2
     rw [bif_t rfl,if_pos rfl,date_Leap]
     simp only [Zb]
     by_cases hl:leap y
     ·rw [Zt ⟨hy,hl⟩,if_pos hl];rfl
     ·rw [Zf (λhh=>hl hh.2),if_neg hl];rfl
    ·rw [Qc h2,if_neg h2]
     have:m=1\/m=3\/m=4\/m=5\/m=6\/m=7\/m=8\/m=9\/m=10\/m=11\/m=12:=by omega
     rcases this with rfl|rfl|rfl|rfl|rfl|rfl|rfl|rfl|rfl|rfl|rfl<;>rfl
 ·rw [Zf hy,if_pos (.inl hy)];rfl
theorem Qql (y:Int):z109.F y=some (decide (goodY y/\leap y)):=by
 unfold z109.F z109.j1
 simp only [Qbl (show (0:Int)<4 by decide),Qbl (show (0:Int)<100 by decide),Qbl (show (0:Int)<400 by decide)]
 by_cases h1:y<1
 ·rw [bif_t h1];congr 1;symm;exact Zf (by omega)
 ·rw [Qc h1]
  by_cases h2:y>9999
  ·rw [bif_t h2];congr 1;symm;exact Zf (by omega)
  ·rw [Qc h2]
   by_cases h4:y%400=0
   ·rw [bif_t h4];congr 1;symm;exact Zt (by omega)
   ·rw [Qc h4]
    by_cases h3:y%4=0
    ·rw [bif_t h3];congr 1
     by_cases h5:y%100=0
     ·rw [Zt h5];symm;exact Zf (by omega)
     ·rw [Zf h5];symm;exact Zt (by omega)
    ·rw [Qc h3];congr 1;symm;exact Zf (by omega)
theorem Qfs (y m:Int):z110.F y m=some (dDays y m):=by
 unfold z110.F z110.j1 dDays
 by_cases h0:y<1
 ·rw [bif_t h0,if_pos (by omega)]
 ·rw [Qc h0]
  by_cases h9:y>9999
  ·rw [bif_t h9,if_pos (by omega)]
  ·rw [Qc h9]
   by_cases h1:m<1
   ·rw [bif_t h1,if_pos (by omega)]
   ·rw [Qc h1]
    by_cases h12:m>12
    ·rw [bif_t h12,if_pos (by omega)]
    ·rw [Qc h12,if_neg (by omega)]
     by_cases h2:m=2
     ·rw [bif_t h2,if_pos h2,Qql]
      simp only [Zb]
      by_cases hl:leap y
      ·rw [Zt ⟨by omega,hl⟩,if_pos hl];rfl
      ·rw [Zf (λhh=>hl hh.2),if_neg hl];rfl
     ·rw [Qc h2,if_neg h2]
      by_cases g4:m=4
      ·rw [bif_t g4,if_pos (.inl g4)]
      ·rw [Qc g4]
       by_cases g6:m=6
       ·rw [bif_t g6,if_pos (by omega)]
       ·rw [Qc g6]
        by_cases g9:m=9
        ·rw [bif_t g9,if_pos (by omega)]
        ·rw [Qc g9]
         by_cases g11:m=11
         ·rw [bif_t g11,if_pos (by omega)]
         ·rw [Qc g11,if_neg (by omega)]
theorem Ql0 (y m:Int):0<=dDays y m/\dDays y m<=31:=by
 unfold dDays;split
 ·omega
 ·split
  ·split<;>omega
  ·split<;>omega
theorem Qgf {y m:Int} (hy:goodY y) (hm:1<=m/\m<=12):28<=dDays y m:=by
 unfold dDays;rw [if_neg (by omega)];split
 ·split<;>omega
 ·split<;>omega
theorem Yt {y m d:Int} (h:right y m d):goodY y/\1<=m/\m<=12/\1<=d/\d<=31:=by
 have h1:=h.2
 have h2:=Ql0 y m
 unfold dDays at h1
 split at h1
 ·have:=h.1;omega
 ·rename_i hn
  have:=h.1
  refine ⟨by omega,by omega,by omega,by omega,by omega⟩
theorem date_Check (y m d:Int):z80.F y m d=some (if right y m d then 0 else 11):=by
 unfold z80.F
 rw [date_Days]
 simp only [Zb]
 by_cases h:d<1
 ·rw [bif_t h,if_neg (by omega)]
 ·rw [Qc h]
  by_cases h':d>dDays y m
  ·rw [bif_t h',if_neg (by omega)]
  ·rw [Qc h',if_pos (by omega)]
def dcmp (a b c a' b' c':Int):Int:=if a<a' then -1 else if a'<a then 1 else if b<b' then -1 else if b'<b then 1 else if c<c' then -1 else if c'<c then 1 else 0
theorem or3 (x y z:Int):z73.F [x,y,z]=some (if x≠0 then x else if y≠0 then y else z):=by
 have e0:wr .i64 (0+1)=1:=by decide
 have e1:wr .i64 (1+1)=2:=by decide
 have e2:wr .i64 (2+1)=3:=by decide
 have r3:Runs (λrec i=>z73.l0P 0 [x,y,z] 3 rec some i) 3 (.inl 3):=.done λrec=>by unfold z73.l0P;rw [Qc (by decide)]
 have r2:Runs (λrec i=>z73.l0P 0 [x,y,z] 3 rec some i) 2 (if z≠0 then .inr z else .inl 3):=by
  by_cases h:z=0
  ·rw [if_neg (by omega)]
   refine .step (λrec=>?_) r3
   unfold z73.l0P
   rw [bif_t (by decide),if_pos (by simp),show [x,y,z].getD (Int.toNat 2) 0=z from rfl,Zt h,e2];rfl
  ·rw [if_pos h]
   refine .done λrec=>?_
   unfold z73.l0P
   rw [bif_t (by decide),if_pos (by simp),show [x,y,z].getD (Int.toNat 2) 0=z from rfl,Zf h];rfl
 have r1:Runs (λrec i=>z73.l0P 0 [x,y,z] 3 rec some i) 1 (if y≠0 then .inr y else if z≠0 then .inr z else .inl 3):=by
  by_cases h:y=0
  ·rw [if_neg (by omega)]
   refine .step (λrec=>?_) r2
   unfold z73.l0P
   rw [bif_t (by decide),if_pos (by simp),show [x,y,z].getD (Int.toNat 1) 0=y from rfl,Zt h,e1];rfl
  ·rw [if_pos h]
   refine .done λrec=>?_
   unfold z73.l0P
   rw [bif_t (by decide),if_pos (by simp),show [x,y,z].getD (Int.toNat 1) 0=y from rfl,Zf h];rfl
 have r0:Runs (λrec i=>z73.l0P 0 [x,y,z] 3 rec some i) 0 (if x≠0 then .inr x else if y≠0 then .inr y else if z≠0 then .inr z else .inl 3):=by
  by_cases h:x=0
  ·rw [if_neg (by omega)]
   refine .step (λrec=>?_) r1
   unfold z73.l0P
   rw [bif_t (by decide),if_pos (by simp),show [x,y,z].getD (Int.toNat 0) 0=x from rfl,Zt h,e0];rfl
  ·rw [if_pos h]
   refine .done λrec=>?_
   unfold z73.l0P
   rw [bif_t (by decide),if_pos (by simp),show [x,y,z].getD (Int.toNat 0) 0=x from rfl,Zf h];rfl
 have e:z73.l0 0 [x,y,z] 3 0=_:=r0.lfp
 unfold z73.F
 show ((z73.l0 0 [x,y,z] 3 0).bind _)=_
 rw [e]
 simp only [Zb]
 by_cases hx:x=0<;>by_cases hy:y=0<;>by_cases hz:z=0<;>simp [hx,hy,hz]
theorem date_Cmp (a b c a' b' c':Int):z74.F a b c a' b' c'=some (dcmp a b c a' b' c'):=by
 unfold z74.F
 rw [Qby]
 simp only [Zb]
 rw [Qby]
 simp only [Zb]
 rw [Qby]
 simp only [Zb]
 rw [or3]
 simp only [Zb]
 congr 1
 unfold cmpI dcmp
 rcases Z88 a a' with h|h|h<;>rcases Z88 b b' with g|g|g<;>rcases Z88 c c' with k|k|k <;>
  (repeat' split)<;>omega
theorem Qmf {s:J1} (h:Qu s):sz (tv 0 s).toNat<=s.length:=Q2 (by have:=Yf h;omega)
theorem Qv0 (s:J1):sz (mDigits s).1<=4096:=by
 have h0:sz 0<=4096:=by rw [Qgh];omega
 unfold mDigits
 split
 ·exact h0
 ·split
  ·rename_i h1 h2
   unfold numOK at h2
   simp only [Z4] at h2
   have:=Qmf (Yn.1 h2.1.2)
   show sz (tv 0 s).toNat<=4096
   omega
  ·exact h0
theorem Qka (s:J1):sz (mWhole s).1.natAbs<=4096:=by
 have h:=Qv0 (cutNeg s).1
 have h0:sz 0<=4096:=by rw [Qgh];omega
 unfold mWhole
 split
 ·exact h0
 ·split
  ·exact h0
  ·show sz (if _ then _ else _:Int).natAbs<=_
   split
   ·rw [Int.natAbs_neg];exact h
   ·exact h
def mMoney (s:J1):Int×Int:=
 if (mWhole s).2≠0 then (0,(mWhole s).2) else if (mWhole s).1<0\/10^30<(mWhole s).1 then (0,19) else ((mWhole s).1,0)
theorem terms_greatest:z46.F=some (lb (Int.natAbs (10^30)),neg (10^30)):=by
 unfold z46.F
 have h:=digits_Ten (t:=30) (by decide)
 rw [show ((30:Nat):Int)=30 from rfl] at h
 rw [h]
 simp only [Zb]
 rw [Ye (z:=10^30) (by decide) (.inr ⟨rfl,by decide⟩)]
 rfl
theorem terms_Money (s:J1):z47.F s=some (lb (mMoney s).1.natAbs,neg (mMoney s).1,(mMoney s).2):=by
 have hz:=Qka s
 unfold z47.F mMoney
 rw [whole_Parse]
 simp only [Zb]
 generalize mWhole s=w at *
 have hn:lb (Int.natAbs 0)=[]:=lb_zero
 by_cases h:w.2=0
 ·rw [Zt h,if_neg (by omega)]
  simp only [Zn,Zc]
  rw [Qar]
  simp only [Zb]
  by_cases h1:w.1<0
  ·rw [bif_t (Qda.2 h1),if_pos (.inl h1),hn];rfl
  ·rw [Qc (λh=>h1 (Qda.1 h)),terms_greatest]
   simp only [Zb]
   have l1:=Q7 w.1.natAbs
   have l2:(lb (Int.natAbs (10^30))).length<=31:=Z46 (Q7 _) (Q2 (by decide))
   have l3:sz w.1.natAbs<=4096:=hz
   rw [Qjk (by omega)]
   simp only [Zb]
   by_cases h2:10^30<w.1
   ·rw [bif_t (Qau.2 h2),if_pos (.inr h2),hn];rfl
   ·rw [Qc (λh=>h2 (Qau.1 h)),if_neg (by omega)]
 ·rw [Zf h,if_pos h,hn];rfl
theorem Qiw (s:J1):(mDec s).2.1<=64/\sz (mDec s).1.natAbs<=4096:=by
 have h0:sz (Int.natAbs 0)<=4096:=by show sz 0<=4096;rw [Qgh];omega
 unfold mDec
 split
 ·exact ⟨Z60 _,h0⟩
 ·rename_i hl
  have hc:=Qmd s
  generalize (cutNeg s).1=t at *
  unfold Y0
  split
  ·exact ⟨Z60 _,h0⟩
  ·rename_i hp
   split
   ·exact ⟨Z60 _,h0⟩
   ·split
    ·exact ⟨Z60 _,h0⟩
    ·rename_i h64
     refine ⟨by show List.length _<=64;omega,?_⟩
     have hd:Qu ((cutDot t).1++(cutDot t).2.getD [])/\((cutDot t).1++(cutDot t).2.getD []).length<=4096:=by
      simp only [Z64,not_or,Z53,Bool.not_eq_false,Z4] at hp
      obtain ⟨⟨p1,p2⟩,p3⟩:=hp
      have q1:=(Jw (by simpa using p1)).1
      cases ho:(cutDot t).2 with
      |
       none=>
       have:=Qes ho
       simp only [Option.getD_none,Z35]
       exact ⟨q1,by rw [this];omega⟩
      |
       some b=>
       have:=Qeq ho
       rw [ho] at p2
       have q2:=(Jw (s:=b) (by simpa using p2)).1
       simp only [Z45]
       refine ⟨λx hx=>(Z32.1 hx).elim (q1 x) (q2 x),?_⟩
       have hlen:t.length=(cutDot t).1.length+(b.length+1):=by
        conv=>lhs;rw [this]
        simp
       rw [Z2];omega
     have h1:=Z46 (Qmf hd.1) hd.2
     have h2:=(Yf hd.1).1
     show sz (if _ then _ else _:Int).natAbs<=_
     have e:∀z:Int,0<=z->z.natAbs=z.toNat:=λz hz=>by omega
     split
     ·rw [Int.natAbs_neg,e _ h2];exact h1
     ·rw [e _ h2];exact h1
theorem dec_ten {t:Nat} (ht:t<=4096):z56.F (t:Int)=some (lb (10^t:Nat),false):=by
 unfold z56.F
 rw [digits_Ten ht]
 simp only [Zb]
 rw [whole_Of];rfl
theorem Qlr {t:Nat} (ht:t<=4096):z56.F (t:Int)=some (lb ((10^t:Nat):Int).natAbs,neg ((10^t:Nat):Int)):=by
 rw [dec_ten ht]
 have:neg ((10^t:Nat):Int)=false:=Zf (Int.not_lt.2 (Int.natCast_nonneg _))
 rw [this];rfl
theorem Qc4 (t:Nat):sz (10^t)<=t+1:=Q2 (by rw [Z42];have:0<10^t:=Nat.pow_pos (by decide);omega)
theorem Qly {c:Int} {s t:Nat} (h:s<=t) (ht:t<=4096) (hc:sz c.natAbs<=100000000):z58.F (lb c.natAbs) (neg c) (s:Int) (t:Int)=some (lb (c*(10^(t-s):Nat)).natAbs,neg (c*(10^(t-s):Nat))):=by
 have l1:=Q7 c.natAbs
 have l2:=Q7 ((10^(t-s):Nat):Int).natAbs
 have l3:=Qc4 (t-s)
 have l4:sz ((10^(t-s):Nat):Int).natAbs=sz (10^(t-s)):=rfl
 unfold z58.F
 rw [Qg (by omega) (by omega),show (t:Int)-s=((t-s:Nat):Int) by omega,Qlr (by omega)]
 simp only [Zb]
 rw [Qha (by omega)]
 rfl
theorem Quj {c c':Int} {s s':Nat} (hs:s<=2000) (hs':s'<=2000) (hc:sz c.natAbs<=100000000) (hc':sz c'.natAbs<=100000000) :
  z59.F (lb c.natAbs) (neg c) (s:Int) (lb c'.natAbs) (neg c') (s':Int)=some (cmpI (c*(10^(max s s'-s):Nat)) (c'*(10^(max s s'-s'):Nat))):=by
 have e:(if (s':Int)>(s:Int) then (s':Int) else (s:Int))=((max s s':Nat):Int):=by split<;>omega
 have m1:=Qbn c.natAbs (10^(max s s'-s))
 have m2:=Qbn c'.natAbs (10^(max s s'-s'))
 have t1:=Qc4 (max s s'-s)
 have t2:=Qc4 (max s s'-s')
 have l1:=Q7 (c*(10^(max s s'-s):Nat)).natAbs
 have l2:=Q7 (c'*(10^(max s s'-s'):Nat)).natAbs
 have e1:(c*(10^(max s s'-s):Nat)).natAbs=c.natAbs*10^(max s s'-s):=by rw [Int.natAbs_mul];rfl
 have e2:(c'*(10^(max s s'-s'):Nat)).natAbs=c'.natAbs*10^(max s s'-s'):=by rw [Int.natAbs_mul];rfl
 have hc1:sz c.natAbs<=100000000:=hc
 have hc2:sz c'.natAbs<=100000000:=hc'
 rw [<-e1] at m1
 rw [<-e2] at m2
 unfold z59.F
 rw [e,Qly (by omega) (by omega) hc]
 simp only [Zb]
 rw [Qly (by omega) (by omega) hc']
 simp only [Zb]
 rw [Qjk (by omega)]
 rfl
theorem Qre (n:Int) {d:Nat} (hd:0<d):(mkRat n d).num.natAbs<=n.natAbs:=by
 rw [Rat.num_mkRat,if_neg (by omega),Nat.gcd_comm]
 have hg:0<Nat.gcd n.natAbs d:=Nat.gcd_pos_of_pos_right _ hd
 rw [(Qi3 (Nat.gcd_dvd_left n.natAbs d) hg).1]
 exact Nat.div_le_self _ _
theorem Qvi (n:Int) {d:Nat} (hd:0<d):(mkRat n d).den<=d:=by
 rw [Rat.den_mkRat,if_neg (by omega)]
 exact Nat.div_le_self _ _
theorem Qvb {M:Nat} (hD:Qas M) {c:Int} {s:Nat} (hs:s<=4096) (hc:c.natAbs<=M) (hM:10^s<=M):z64.F (lb c.natAbs) (neg c) (s:Int)=some (fr (mkRat c (10^s))):=by
 have hp:0<10^s:=Nat.pow_pos (by decide)
 have l:=Qc4 s
 unfold z64.F
 rw [Qlr hs]
 simp only [Zb]
 rw [frac_Of (num:=c) (den:=((10^s:Nat):Int)) hD (by exact_mod_cast (Nat.ne_of_gt hp)) hc (by show 10^s<=M;exact hM) (by show sz (10^s)<=_;omega),Rat.divInt_ofNat]
 rfl
def Ju (s:J1):Rat×Int:=
 if (mDec s).2.2≠0 then (0,(mDec s).2.2)
 else if (mDec s).1<0\/1000*(10^(mDec s).2.1:Nat)<(mDec s).1\/12<(mDec s).2.1 then (0,18)
 else (mkRat (mDec s).1 (10^(mDec s).2.1)/100,0)
theorem Qtv:fr 0=([],false,[]):=by
 show (lb 0,neg 0,lb 0)=_
 rw [lb_zero];rfl
theorem Qc1 (e:Int):some (([]:J0),false,([]:J0),e)=some ((fr (0:Rat)).1,(fr (0:Rat)).2.1,(fr (0:Rat)).2.2,e):=by
 rw [Qtv]
theorem Qoa:fr 100=(lb (Int.natAbs 100),neg 100,[]):=by
 show (lb 100,neg 100,lb 0)=_
 rw [lb_zero];rfl
theorem Qh4:Qas 1000000000000000000:=λx y hx hy h0=>Qv6 (by omega) h0
theorem terms_Rate (s:J1):z69.F s=some ((fr (Ju s).1).1,(fr (Ju s).1).2.1,(fr (Ju s).1).2.2,(Ju s).2):=by
 obtain ⟨hb1,hb2⟩:=Qiw s
 unfold z69.F Ju
 rw [dec_Parse]
 simp only [Zb,decR]
 generalize mDec s=d at *
 obtain ⟨c,sc,e⟩:=d
 simp only at *
 have hcz:sz c.natAbs<=4096:=hb2
 by_cases h:e=0
 ·rw [Zt h,if_neg (by omega)]
  simp only [Zn,Zc]
  rw [whole_From (by omega)]
  simp only [Zb]
  have ho:z52.F (lb (Int.natAbs 1000)) (neg 1000) 0=some (lb (Int.natAbs 1000),neg 1000,0,0):=rfl
  rw [ho]
  simp only [Zb]
  unfold z54.F z53.F
  simp only [Zb]
  rw [Qar]
  simp only [Zb]
  by_cases h1:c<0
  ·rw [bif_t (Qda.2 h1),if_pos (.inl h1)];exact Qc1 18
  ·rw [Qc (λh=>h1 (Qda.1 h))]
   have hk:sz (Int.natAbs 1000)<=4:=Q2 (by decide)
   have hcmp:=Quj (c:=c) (c':=1000) (s:=sc) (s':=0) (by omega) (by omega) (by omega) (by omega)
   rw [show ((0:Nat):Int)=0 from rfl] at hcmp
   rw [hcmp]
   simp only [Zb,Nat.max_zero,Nat.sub_self,Nat.pow_zero,Nat.sub_zero,Int.natCast_one,Int.mul_one]
   by_cases h2:1000*((10^sc:Nat):Int)<c
   ·rw [bif_t (Qau.2 h2),if_pos (.inr (.inl h2))];exact Qc1 18
   ·rw [Qc (λh=>h2 (Qau.1 h))]
    by_cases h3:12<sc
    ·rw [bif_t (by omega),if_pos (.inr (.inr h3))];exact Qc1 18
    ·rw [Qc (by omega),if_neg (by omega)]
     have hp12:10^sc<=10^12:=Z61 (by decide) (by omega)
     have hp0:0<10^sc:=Nat.pow_pos (by decide)
     have n1:=Qre c hp0
     have n2:=Qvi c hp0
     have hd0:=(mkRat c (10^sc)).den_pos
     unfold z69.j8
     rw [Qvb Qh4 (by omega) (by omega) (by omega)]
     simp only [Zb]
     rw [whole_From (by omega)]
     simp only [Zb]
     have hf:z68.F (lb (Int.natAbs 100)) (neg 100)=some (fr 100):=by rw [Qoa];rfl
     rw [hf]
     simp only [Zb]
     generalize mkRat c (10^sc)=q at *
     have hq:=Qr1 Qh4 (q:=q) (r:=100) (by decide)
      (by rw [show (100:Rat).den=1 from rfl];simp;omega)
      (by rw [show (100:Rat).num=100 from rfl,Int.natAbs_mul];show q.den*100<=_;omega)
      (by
        rw [show (100:Rat).den=1 from rfl]
        have a1:sz q.num.natAbs<=20:=Q2 (by omega)
        have a2:sz 1<=1:=Q2 (by decide)
        omega)
      (by
        rw [show (100:Rat).num=100 from rfl]
        have a1:sz q.den<=20:=Q2 (by omega)
        have a2:sz (Int.natAbs 100)<=3:=Q2 (by decide)
        omega)
     rw [hq]
     rfl
 ·rw [Zf h,if_pos h];exact Qc1 e
end Go.Proofs.YtjfipepaaddlmaaGreatDoor.A
end
