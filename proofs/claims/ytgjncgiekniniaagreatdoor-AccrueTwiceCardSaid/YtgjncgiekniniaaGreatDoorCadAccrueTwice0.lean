/- AccrueTwice: part 0 of what is its own. -/
import Derived.Test.YtgjncgiekniniaaGreatDoorCad3
import Derived.Test.YtgjncgiekniniaaGreatDoorRows
import Derived.WalkKit
import Derived.ProofKit
import Derived.OpenShut
import Derived.Carry
import Derived.ChangeSame
import Derived.Deep.Slices
import Derived.Test.YtgjncgiekniniaaGreatDoorCards
import Derived.Test.YtgjncgiekniniaaGreatDoorTie
import Derived.KernelRfl
import Derived.JoinedCond
import Derived.Deep.DeepHandedRow
import Derived.Lib.LaidTab
set_option linter.unusedVariables false
set_option linter.unusedSimpArgs false
section
namespace Go.Proofs.YtgjncgiekniniaaGreatDoor.A
open Go
noncomputable section
def z5.l2P {R:Type} (rec done:((List UInt8)×Int×Int)->Option R):((List UInt8)×Int×Int)->Option R:=λx=>match x with
 |(a,b,c)=>(bif (decide (c<4)) then (if ([(wr .u8 (wr .i64 ((48:Int)+(Int.tmod b 10))))].map λn=>UInt8.ofNat n.toNat).length+a.length<=9223372036854775807 then (rec ((([(wr .u8 (wr .i64 ((48:Int)+(Int.tmod b 10))))].map λn=>UInt8.ofNat n.toNat)++a),(wr .i64 (Int.tdiv b 10)),(wr .i64 (c+1)))) else none) else (done (a,b,c)))
def z5.l2 (x:((List UInt8)×Int×Int)):Option (((List UInt8)×Int×Int)):=lfp (λrec x=>z5.l2P rec some x) x
def z5.l0P (a:List Int) {R:Type} (rec done:((List UInt8)×Int)->Option R):((List UInt8)×Int)->Option R:=λx=>match x with
 |(b,c)=>(bif (decide (c<(((a).length:Nat):Int))) then (if 0<=c/\c<(a.length:Int) then ((z5.l2 (b,(a.getD (c).toNat 0),(0:Int))).bind λd=>(rec (d.1,(wr .i64 (c+1))))) else none) else (done (b,c)))
def z5.l0 (a:List Int) (x:((List UInt8)×Int)):Option (((List UInt8)×Int)):=lfp (λrec x=>z5.l0P a rec some x) x
def z5.l4P (a:List UInt8) {R:Type} (rec:Int->Option R) (done:(Int)->Option R):Int->Option R:=λb=>(if 0<=b/\b<(a.length:Int) then (bif (decide (((a.getD (b).toNat 0).toNat:Int)=48)) then (rec (wr .i64 (b+1))) else (done b)) else none)
def z5.l4 (a:List UInt8) (x:Int):Option ((Int)):=lfp (λrec x=>z5.l4P a rec some x) x
def z5.F (a0:List Int):Option ((List UInt8)):=
 (bif (decide ((((a0).length:Nat):Int)=0)) then (some ([48]:List UInt8)) else ((z5.l0 a0 (([]:List UInt8),(0:Int))).bind λo1=>((z5.l4 o1.1 0).bind λo2=>(if 0<=o2/\o2<=((o1.1).length:Int) then (some (o1.1.drop (o2).toNat)) else none))))
def z5.enc (r:(List UInt8)):V:=(.str r)
def z5.pack:List V->Option Pack
 |[(.ints _ .i64 a0)]=>some ⟨(List UInt8),z5.F a0,z5.enc⟩
 |_=>none
def z6.F (a0:List Int) (a1:Bool):Option ((List UInt8)):=
 ((z5.F a0).bind λr1=>(bif a1 then (if ([45]:List UInt8).length+r1.length<=9223372036854775807 then (some (([45]:List UInt8)++r1)) else none) else (some r1)))
def z6.enc (r:(List UInt8)):V:=(.str r)
def z6.pack:List V->Option Pack
 |[(.agg [(.ints _ .i64 a0),(.bool a1)])]=>some ⟨(List UInt8),z6.F a0 a1,z6.enc⟩
 |_=>none
def z7.F (a0:List Int) (a1:Bool):Option ((List Int)×Bool):=
 (bif a1 then (some (a0,(decide ((((a0).length:Nat):Int)>0)))) else (some (a0,false)))
def z7.enc (r:(List Int)×Bool):V:=(.agg [(.ints false .i64 r.1),(.bool r.2)])
def z7.pack:List V->Option Pack
 |[(.ints _ .i64 a0),(.bool a1)]=>some ⟨(List Int)×Bool,z7.F a0 a1,z7.enc⟩
 |_=>none
def z8.l0P {R:Type} (rec done:(Int×(List Int))->Option R):(Int×(List Int))->Option R:=λx=>match x with
 |(a,b)=>(bif (decide (a>0)) then (if ((b).length+([(Int.tmod a 10000)]).length)*8<=140737488355328 then (rec ((wr .i64 (Int.tdiv a 10000)),(b++[(Int.tmod a 10000)]))) else none) else (done (a,b)))
def z8.l0 (x:(Int×(List Int))):Option ((Int×(List Int))):=lfp (λrec x=>z8.l0P rec some x) x
def z8.F (a0:Int):Option ((List Int)):=
 ((z8.l0 (a0,[])).bind λo1=>(some o1.2))
def z8.enc (r:(List Int)):V:=(.ints false .i64 r)
def z8.pack:List V->Option Pack
 |[(.int .i64 a0)]=>some ⟨(List Int),z8.F a0,z8.enc⟩
 |_=>none
def z9.F (a0:Int):Option ((List Int)×Bool):=
 (bif (decide (a0<0)) then ((z8.F (wr .i64 (0-a0))).bind λr1=>((z7.F r1 true).bind λr2=>(some (r2.1,r2.2)))) else ((z8.F a0).bind λr3=>((z7.F r3 false).bind λr4=>(some (r4.1,r4.2)))))
def z9.enc (r:(List Int)×Bool):V:=(.agg [(.ints false .i64 r.1),(.bool r.2)])
def z9.pack:List V->Option Pack
 |[(.int .i64 a0)]=>some ⟨(List Int)×Bool,z9.F a0,z9.enc⟩
 |_=>none
def z10.j1 (a0:Int):Option (Bool):=
 (bif (decide ((Int.tmod a0 400)=0)) then (some true) else (bif (decide ((Int.tmod a0 4)=0)) then (some (!decide ((Int.tmod a0 100)=0))) else (some false)))
def z10.F (a0:Int):Option (Bool):=
 (bif (decide (a0<1)) then (some false) else (bif (decide (a0>9999)) then (some false) else (z10.j1 a0)))
def z10.enc (r:Bool):V:=(.bool r)
def z10.pack:List V->Option Pack
 |[(.int .i64 a0)]=>some ⟨Bool,z10.F a0,z10.enc⟩
 |_=>none
def z11.j1 (a1 a0:Int):Option (Int):=
 (bif (decide (a1=2)) then ((z10.F a0).bind λr2=>(bif r2 then (some 29) else (some 28))) else (bif (decide (a1=4)) then (some 30) else (bif (decide (a1=6)) then (some 30) else (bif (decide (a1=9)) then (some 30) else (bif (decide (a1=11)) then (some 30) else (some 31))))))
def z11.F (a0 a1:Int):Option (Int):=
 (bif (decide (a0<1)) then (some 0) else (bif (decide (a0>9999)) then (some 0) else (bif (decide (a1<1)) then (some 0) else (bif (decide (a1>12)) then (some 0) else (z11.j1 a1 a0)))))
def z11.enc (r:Int):V:=(.int .i64 r)
def z11.pack:List V->Option Pack
 |[(.int .i64 a0),(.int .i64 a1)]=>some ⟨Int,z11.F a0 a1,z11.enc⟩
 |_=>none
def z12.j7 (a0 a3 j5 j7:Int):Option (Int×Int×Int):=
 (some ((wr .i64 ((wr .i64 ((Int.tmod a0 a3)+a3))+1)),(wr .i64 (j5+1)),(wr .i64 (j7+1))))
def z12.j5 (a0 a3 j5 a2:Int):Option (Int×Int×Int):=
 ((z11.F (wr .i64 ((wr .i64 ((Int.tmod a0 a3)+a3))+1)) (wr .i64 (j5+1))).bind λr6=>(if r6=0 then none else (bif (decide ((Int.tmod a2 r6)<0)) then (z12.j7 a0 a3 j5 (wr .i64 ((Int.tmod a2 r6)+r6))) else (z12.j7 a0 a3 j5 (Int.tmod a2 r6)))))
def z12.j8 (a0 a3 j8 a2:Int):Option (Int×Int×Int):=
 ((z11.F (wr .i64 ((Int.tmod a0 a3)+1)) (wr .i64 (j8+1))).bind λr9=>(if r9=0 then none else (bif (decide ((Int.tmod a2 r9)<0)) then (some ((wr .i64 ((Int.tmod a0 a3)+1)),(wr .i64 (j8+1)),(wr .i64 ((wr .i64 ((Int.tmod a2 r9)+r9))+1)))) else (some ((wr .i64 ((Int.tmod a0 a3)+1)),(wr .i64 (j8+1)),(wr .i64 ((Int.tmod a2 r9)+1)))))))
def z12.F (a0 a1 a2 a3:Int):Option (Int×Int×Int):=
 (if a3=0 then none else (bif (decide ((Int.tmod a0 a3)<0)) then (bif (decide ((Int.tmod a1 12)<0)) then (z12.j5 a0 a3 (wr .i64 ((Int.tmod a1 12)+12)) a2) else (z12.j5 a0 a3 (Int.tmod a1 12) a2)) else (bif (decide ((Int.tmod a1 12)<0)) then (z12.j8 a0 a3 (wr .i64 ((Int.tmod a1 12)+12)) a2) else (z12.j8 a0 a3 (Int.tmod a1 12) a2))))
def z12.enc (r:Int×Int×Int):V:=(.agg [(.int .i64 r.1),(.int .i64 r.2.1),(.int .i64 r.2.2)])
def z12.pack:List V->Option Pack
 |[(.agg [(.int .i64 a0),(.int .i64 a1),(.int .i64 a2)]),(.int .i64 a3)]=>some ⟨Int×Int×Int,z12.F a0 a1 a2 a3,z12.enc⟩
 |_=>none
def z95.enc (r:Int):V:=(.int .i64 r)
def z95.pack:List V->Option Pack
 |[(.ints _ .i64 a0)]=>some ⟨Int,z95.F a0,z95.enc⟩
 |_=>none
def z96.enc (r:Int):V:=(.int .i64 r)
def z96.pack:List V->Option Pack
 |[(.agg [(.int .i64 a0),(.int .i64 a1),(.int .i64 a2)]),(.agg [(.int .i64 a3),(.int .i64 a4),(.int .i64 a5)])]=>some ⟨Int,z96.F a0 a1 a2 a3 a4 a5,z96.enc⟩
 |_=>none
def z97.enc (r:Int):V:=(.int .i64 r)
def z97.pack:List V->Option Pack
 |[(.int .i64 a0)]=>some ⟨Int,z97.F a0,z97.enc⟩
 |_=>none
def z98.enc (r:Int×Int):V:=(.tup [(.int .i64 r.1),(.int .i64 r.2)])
def z98.pack:List V->Option Pack
 |[(.agg [(.int .i64 a0),(.int .i64 a1),(.int .i64 a2)])]=>some ⟨Int×Int,z98.F a0 a1 a2,z98.enc⟩
 |_=>none
def z99.l0P (a:Int) {R:Type} (rec:Int->Option R) (done:(Int)->Option R):Int->Option R:=λb=>((z97.F b).bind λc=>(bif (decide (c>=a)) then (rec (wr .i64 (b-1))) else (done b)))
def z99.l0 (a x:Int):Option ((Int)):=lfp (λrec x=>z99.l0P a rec some x) x
def z99.l2b6P (a:Int) {R:Type} (rec:Int->Option R) (done:(Int)->Option R):Int->Option R:=λb=>(bif (decide (b<9999)) then ((z97.F (wr .i64 (b+1))).bind λc=>(bif (decide (c<a)) then (rec (wr .i64 (b+1))) else (done b))) else (done b))
def z99.l2b6 (a x:Int):Option ((Int)):=lfp (λrec x=>z99.l2b6P a rec some x) x
def z99.l4P (a:Int) {R:Type} (rec done:(Int×Int)->Option R):(Int×Int)->Option R:=λx=>match x with
 |(b,c)=>((z88.F a c).bind λd=>(bif (decide (b>d)) then ((z88.F a c).bind λe=>(rec ((wr .i64 (b-e)),(wr .i64 (c+1))))) else (done (b,c))))
def z99.l4 (a:Int) (x:(Int×Int)):Option ((Int×Int)):=lfp (λrec x=>z99.l4P a rec some x) x
def z99.j1 (a0:Int):Option (Int×Int×Int×Int):=
 ((z99.l0 a0 (if 9999<(wr .i64 ((wr .i64 (Int.tdiv (wr .i64 (a0*400)) 146097))+1)) then 9999 else (wr .i64 ((wr .i64 (Int.tdiv (wr .i64 (a0*400)) 146097))+1)))).bind λo2=>((z99.l2b6 a0 o2).bind λo3=>((z97.F o3).bind λr4=>((z99.l4 o3 ((wr .i64 (a0-r4)),(1:Int))).bind λo5=>(some (o3,o5.2,o5.1,(0:Int)))))))
def z99.F (a0:Int):Option (Int×Int×Int×Int):=
 (bif (decide (a0<1)) then (some ((0:Int),(0:Int),(0:Int),(11:Int))) else (bif (decide (a0>3652059)) then (some ((0:Int),(0:Int),(0:Int),(11:Int))) else (z99.j1 a0)))
def z99.enc (r:Int×Int×Int×Int):V:=(.tup [(.agg [(.int .i64 r.1),(.int .i64 r.2.1),(.int .i64 r.2.2.1)]),(.int .i64 r.2.2.2)])
def z99.pack:List V->Option Pack
 |[(.int .i64 a0)]=>some ⟨Int×Int×Int×Int,z99.F a0,z99.enc⟩
 |_=>none
def z100.F (a0 a1 a2 a3:Int):Option (Int×Int×Int×Int):=
 ((z98.F a0 a1 a2).bind λr1=>(bif (!decide (r1.2=0)) then (some ((0:Int),(0:Int),(0:Int),r1.2)) else (bif (decide (a3<(-3719628:Int))) then (some ((0:Int),(0:Int),(0:Int),(11:Int))) else (bif (decide (a3>3719628)) then (some ((0:Int),(0:Int),(0:Int),(11:Int))) else ((z99.F (wr .i64 (r1.1+a3))).bind λr5=>(some (r5.1,r5.2.1,r5.2.2.1,r5.2.2.2)))))))
def z100.enc (r:Int×Int×Int×Int):V:=(.tup [(.agg [(.int .i64 r.1),(.int .i64 r.2.1),(.int .i64 r.2.2.1)]),(.int .i64 r.2.2.2)])
def z100.pack:List V->Option Pack
 |[(.agg [(.int .i64 a0),(.int .i64 a1),(.int .i64 a2)]),(.int .i64 a3)]=>some ⟨Int×Int×Int×Int,z100.F a0 a1 a2 a3,z100.enc⟩
 |_=>none
def z143.F (a0 a1 a2:Int):Option (Int×Int×Int×Bool):=
 ((z11.F a0 a1).bind λr1=>(bif (decide (a2<r1)) then (some (a0,a1,(wr .i64 (a2+1)),true)) else (bif (decide (a1<12)) then (some (a0,(wr .i64 (a1+1)),(1:Int),true)) else (some ((wr .i64 (a0+1)),(1:Int),(1:Int),(decide (a0<9999)))))))
def z143.enc (r:Int×Int×Int×Bool):V:=(.tup [(.agg [(.int .i64 r.1),(.int .i64 r.2.1),(.int .i64 r.2.2.1)]),(.bool r.2.2.2)])
def z143.pack:List V->Option Pack
 |[(.agg [(.int .i64 a0),(.int .i64 a1),(.int .i64 a2)])]=>some ⟨Int×Int×Int×Bool,z143.F a0 a1 a2,z143.enc⟩
 |_=>none
def z144.l2P (a:Int) (b:List Int) {R:Type} (rec done:(Int×Int×Int×Int)->Option R):(Int×Int×Int×Int)->Option R:=λx=>match x with
 |(c,d,e,g)=>(if 0<=a/\a<(b.length:Int) then (bif (decide (c<(Int.tmod (wr .i64 (b.getD (a).toNat 0)) 61))) then ((z143.F d e g).bind λh=>(rec ((wr .i64 (c+1)),h.1,h.2.1,h.2.2.1))) else (done (c,d,e,g))) else none)
def z144.l2 (a:Int) (b:List Int) (x:(Int×Int×Int×Int)):Option ((Int×Int×Int×Int)):=lfp (λrec x=>z144.l2P a b rec some x) x
def z144.j4015a {R:Type} (rec done:(Int×(List (List V))×Int×Int×Int)->Option R) (a b:Int) (c:List (List V)) (d e g:Int) (h:Int×Int×Int×Int) (j:Int):Option R:=
 ((z9.F a).bind λk=>((z9.F b).bind λm=>((z6.F k.1 k.2).bind λn=>((z6.F m.1 m.2).bind λo=>(if ((c).length+(([[(.int .i64 d),(.int .i64 e),(.int .i64 g),(.int .i64 h.2.1),(.int .i64 h.2.2.1),(.int .i64 h.2.2.2),(.str n),(.str o)]]:List (List V))).length)*80<=140737488355328 then (rec ((wr .i64 (j+1)),(c++([[(.int .i64 d),(.int .i64 e),(.int .i64 g),(.int .i64 h.2.1),(.int .i64 h.2.2.1),(.int .i64 h.2.2.2),(.str n),(.str o)]]:List (List V))),h.2.1,h.2.2.1,h.2.2.2)) else none)))))
def z144.j4014a {R:Type} (rec done:(Int×(List (List V))×Int×Int×Int)->Option R) (a:Int) (b:List Int) (c:Int) (d:List (List V)) (e g h:Int) (j:Int×Int×Int×Int):Option R:=
 (bif (decide (a<(((b).length:Nat):Int))) then (if 0<=a/\a<(b.length:Int) then (z144.j4015a rec done c (Int.tmod (wr .i64 (b.getD (a).toNat 0)) 1000) d e g h j a) else none) else (z144.j4015a rec done c a d e g h j a))
def z144.l0aaP (a b c:List Int) {R:Type} (rec done:(Int×(List (List V))×Int×Int×Int)->Option R):(Int×(List (List V))×Int×Int×Int)->Option R:=λx=>match x with
 |(d,e,g,h,j)=>(bif (decide (d<(((a).length:Nat):Int))) then (bif (decide (d<6)) then ((z144.l2 d a ((0:Int),g,h,j)).bind λk=>(bif (decide (d<(((b).length:Nat):Int))) then (if 0<=d/\d<(b.length:Int) then (z144.j4014a rec done d c (wr .i64 (b.getD (d).toNat 0)) e g h j k) else none) else (z144.j4014a rec done d c (wr .i64 ((1000:Int)*d)) e g h j k))) else (done (d,e,g,h,j))) else (done (d,e,g,h,j)))
def z144.l0aa (a b c:List Int) (x:(Int×(List (List V))×Int×Int×Int)):Option ((Int×(List (List V))×Int×Int×Int)):=lfp (λrec x=>z144.l0aaP a b c rec some x) x
def z145.enc (r:Int):V:=(.int .i64 r)
def z145.pack:List V->Option Pack
 |[(.recs _ 8 a0)]=>some ⟨Int,z145.F a0,z145.enc⟩
 |_=>none
def z146.enc (r:Bool):V:=(.bool r)
def z146.pack:List V->Option Pack
 |[(.int .i64 a0)]=>some ⟨Bool,z146.F a0,z146.enc⟩
 |_=>none
def z147.F (a0:List Int) (a1:Bool) (a2:List Int):Option (Int):=
 ((z20.F a0 a1).bind λr1=>(some r1))
def z147.enc (r:Int):V:=(.int .i64 r)
def z147.pack:List V->Option Pack
 |[(.agg [(.ints _ .u64 a0),(.bool a1),(.ints _ .u64 a2)])]=>some ⟨Int,z147.F a0 a1 a2,z147.enc⟩
 |_=>none
def z148.F (a0:List Int) (a1:Bool) (a2:List Int):Option ((List Int)×Bool):=
 (some (a0,a1))
def z148.enc (r:(List Int)×Bool):V:=(.agg [(.ints false .u64 r.1),(.bool r.2)])
def z148.pack:List V->Option Pack
 |[(.agg [(.ints _ .u64 a0),(.bool a1),(.ints _ .u64 a2)])]=>some ⟨(List Int)×Bool,z148.F a0 a1 a2,z148.enc⟩
 |_=>none
def z149.F (a0:Int) (a1 a2 a3:List Int):Option (Bool):=
 ((z24.F a2 a2).bind λr1=>((z29.F r1 a3).bind λr2=>(bif (decide (a0=1)) then (some true) else (bif (decide (a0=2)) then (some (decide (r2>=0))) else (bif (decide (a0=3)) then (some (decide (r2>0))) else (bif (decide (a0=4)) then ((z60.F a1).bind λr3=>(bif (decide ((((r3).length:Nat):Int)>0)) then ((z60.F a1).bind λr4=>(if (0:Int)<=(0:Int)/\(0:Int)<(r4.length:Int) then (bif (decide (r2>0)) then (some true) else (bif (decide (r2=0)) then (some (decide ((wr .u64 ((BitVec.ofInt (IntKind.bits .u64) (r4.getD 0 0) &&& BitVec.ofInt (IntKind.bits .u64) 1).toNat:Int))=1))) else (some false))) else none)) else (bif (decide (r2>0)) then (some true) else (bif (decide (r2=0)) then (some false) else (some false))))) else (some false)))))))
def z149.enc (r:Bool):V:=(.bool r)
def z149.pack:List V->Option Pack
 |[(.int .i64 a0),(.agg [(.ints _ .u64 a1)]),(.agg [(.ints _ .u64 a2)]),(.agg [(.ints _ .u64 a3)])]=>some ⟨Bool,z149.F a0 a1 a2 a3,z149.enc⟩
 |_=>none
def z150.j14 (a0:List Int) (a1:Bool) (a2 j14:List Int):Option ((List Int)×Bool×Int):=
 ((z147.F a0 a1 a2).bind λr15=>((z21.F j14 (decide (r15<0))).bind λr16=>(some (r16.1,r16.2,(0:Int)))))
def z150.F (a0:List Int) (a1:Bool) (a2:List Int) (a3:Int):Option ((List Int)×Bool×Int):=
 ((z79.F a3).bind λr1=>(bif (!r1) then (some ([],false,(2:Int))) else ((z148.F a0 a1 a2).bind λr2=>((z59.F r2.1 r2.2).bind λr3=>((z73.F a0 a1 a2).bind λr4=>((z68.F r3 r4).bind λr5=>((z19.F r5.2.1).bind λr6=>(bif (!r6) then ((z73.F a0 a1 a2).bind λr7=>((z149.F a3 r5.1 r5.2.1 r7).bind λr8=>(bif r8 then ((z38.F [(1:Int)]).bind λr12=>((z24.F r5.1 r12).bind λr13=>(z150.j14 a0 a1 a2 r13))) else (z150.j14 a0 a1 a2 r5.1)))) else (z150.j14 a0 a1 a2 r5.1)))))))))
def z150.enc (r:(List Int)×Bool×Int):V:=(.tup [(.agg [(.ints false .u64 r.1),(.bool r.2.1)]),(.int .i64 r.2.2)])
def z150.pack:List V->Option Pack
 |[(.agg [(.ints _ .u64 a0),(.bool a1),(.ints _ .u64 a2)]),(.int .i64 a3)]=>some ⟨(List Int)×Bool×Int,z150.F a0 a1 a2 a3,z150.enc⟩
 |_=>none
def z151.enc (r:(List Int)×Bool×(List Int)):V:=(.agg [(.ints false .u64 r.1),(.bool r.2.1),(.ints false .u64 r.2.2)])
def z151.pack:List V->Option Pack
 |[(.agg [(.ints _ .u64 a0),(.bool a1),(.ints _ .u64 a2)]),(.agg [(.ints _ .u64 a3),(.bool a4),(.ints _ .u64 a5)])]=>some ⟨(List Int)×Bool×(List Int),z151.F a0 a1 a2 a3 a4 a5,z151.enc⟩
 |_=>none
def z152.enc (r:(List Int)×Bool×(List Int)):V:=(.agg [(.ints false .u64 r.1),(.bool r.2.1),(.ints false .u64 r.2.2)])
def z152.pack:List V->Option Pack
 |[(.agg [(.ints _ .u64 a0),(.bool a1),(.ints _ .u64 a2)]),(.agg [(.ints _ .u64 a3),(.bool a4),(.ints _ .u64 a5)])]=>some ⟨(List Int)×Bool×(List Int),z152.F a0 a1 a2 a3 a4 a5,z152.enc⟩
 |_=>none
def z153.enc (r:(List Int)×Bool×(List Int)):V:=(.agg [(.ints false .u64 r.1),(.bool r.2.1),(.ints false .u64 r.2.2)])
def z153.pack:List V->Option Pack
 |[(.int .i64 a0),(.int .i64 a1)]=>some ⟨(List Int)×Bool×(List Int),z153.F a0 a1,z153.enc⟩
 |_=>none
def z154.enc (r:(List Int)×Bool×(List Int)):V:=(.agg [(.ints false .u64 r.1),(.bool r.2.1),(.ints false .u64 r.2.2)])
def z154.pack:List V->Option Pack
 |[(.agg [(.int .i64 a0),(.int .i64 a1),(.int .i64 a2)]),(.agg [(.int .i64 a3),(.int .i64 a4),(.int .i64 a5)])]=>some ⟨(List Int)×Bool×(List Int),z154.F a0 a1 a2 a3 a4 a5,z154.enc⟩
 |_=>none
def z155.enc (r:Int×Int):V:=(.tup [(.int .i64 r.1),(.int .i64 r.2)])
def z155.pack:List V->Option Pack
 |[(.agg [(.int .i64 a0),(.int .i64 a1),(.int .i64 a2)]),(.agg [(.int .i64 a3),(.int .i64 a4),(.int .i64 a5)])]=>some ⟨Int×Int,z155.F a0 a1 a2 a3 a4 a5,z155.enc⟩
 |_=>none
def z156.enc (r:Int):V:=(.int .i64 r)
def z156.pack:List V->Option Pack
 |[(.agg [(.int .i64 a0),(.int .i64 a1),(.int .i64 a2)]),(.agg [(.int .i64 a3),(.int .i64 a4),(.int .i64 a5)])]=>some ⟨Int,z156.F a0 a1 a2 a3 a4 a5,z156.enc⟩
 |_=>none
def z157.enc (r:Int):V:=(.int .i64 r)
def z157.pack:List V->Option Pack
 |[(.int .i64 a0)]=>some ⟨Int,z157.F a0,z157.enc⟩
 |_=>none
def z158.enc (r:(List Int)×Bool×(List Int)):V:=(.agg [(.ints false .u64 r.1),(.bool r.2.1),(.ints false .u64 r.2.2)])
def z158.pack:List V->Option Pack
 |[(.agg [(.int .i64 a0),(.int .i64 a1),(.int .i64 a2)]),(.agg [(.int .i64 a3),(.int .i64 a4),(.int .i64 a5)])]=>some ⟨(List Int)×Bool×(List Int),z158.F a0 a1 a2 a3 a4 a5,z158.enc⟩
 |_=>none
def z159.enc (r:(List Int)×Bool×(List Int)×Int):V:=(.tup [(.agg [(.ints false .u64 r.1),(.bool r.2.1),(.ints false .u64 r.2.2.1)]),(.int .i64 r.2.2.2)])
def z159.pack:List V->Option Pack
 |[(.int .i64 a0),(.agg [(.int .i64 a1),(.int .i64 a2),(.int .i64 a3)]),(.agg [(.int .i64 a4),(.int .i64 a5),(.int .i64 a6)])]=>some ⟨(List Int)×Bool×(List Int)×Int,z159.F a0 a1 a2 a3 a4 a5 a6,z159.enc⟩
 |_=>none
def z160.enc (r:Int×Int×Int):V:=(.agg [(.int .i64 r.1),(.int .i64 r.2.1),(.int .i64 r.2.2)])
def z160.pack:List V->Option Pack
 |[(.agg [(.int .i64 a0),(.int .i64 a1),(.int .i64 a2)]),(.agg [(.int .i64 a3),(.int .i64 a4),(.int .i64 a5)])]=>some ⟨Int×Int×Int,z160.F a0 a1 a2 a3 a4 a5,z160.enc⟩
 |_=>none
def z161.enc (r:(List Int)×Bool×(List Int)):V:=(.agg [(.ints false .u64 r.1),(.bool r.2.1),(.ints false .u64 r.2.2)])
def z161.pack:List V->Option Pack
 |[(.int .i64 a0),(.recs _ 8 a1),(.agg [(.int .i64 a2),(.int .i64 a3),(.int .i64 a4)])]=>some ⟨(List Int)×Bool×(List Int),z161.F a0 a1 a2 a3 a4,z161.enc⟩
 |_=>none
def z162.l0P (a b:Int) (c:List (List V)) {R:Type} (rec done:((List (List V))×(List Int)×Bool×Int×Int×Int)->Option R):((List (List V))×(List Int)×Bool×Int×Int×Int)->Option R:=λx=>match x with
 |(d,e,g,h,j,k)=>(if 0<=(wr .i64 ((((c).length:Nat):Int)-1))/\(wr .i64 ((((c).length:Nat):Int)-1))<(c.length:Int) then (V.asInt .i64 (((c.getD ((wr .i64 ((((c).length:Nat):Int)-1))).toNat [])).getD 0 .undef) λm=>(V.asInt .i64 (((c.getD ((wr .i64 ((((c).length:Nat):Int)-1))).toNat [])).getD 1 .undef) λn=>(V.asInt .i64 (((c.getD ((wr .i64 ((((c).length:Nat):Int)-1))).toNat [])).getD 2 .undef) λo=>(V.asInt .i64 (((c.getD ((wr .i64 ((((c).length:Nat):Int)-1))).toNat [])).getD 3 .undef) λp=>(V.asInt .i64 (((c.getD ((wr .i64 ((((c).length:Nat):Int)-1))).toNat [])).getD 4 .undef) λq=>(V.asInt .i64 (((c.getD ((wr .i64 ((((c).length:Nat):Int)-1))).toNat [])).getD 5 .undef) λr=>(V.asStr (((c.getD ((wr .i64 ((((c).length:Nat):Int)-1))).toNat [])).getD 6 .undef) λs=>(V.asStr (((c.getD ((wr .i64 ((((c).length:Nat):Int)-1))).toNat [])).getD 7 .undef) λt=>(bif (!(decide (h=p)&&(decide (j=q)&&decide (k=r)))) then ((z100.F h j k 1).bind λu=>((z161.F a c u.1 u.2.1 u.2.2.1).bind λv=>((z150.F v.1 v.2.1 v.2.2 b).bind λw=>((z33.F w.1 w.2.1 e g).bind λy=>(if ((d).length+(([[(.ints false .u64 y.1),(.bool y.2)]]:List (List V))).length)*32<=140737488355328 then (rec ((d++([[(.ints false .u64 y.1),(.bool y.2)]]:List (List V))),w.1,w.2.1,u.1,u.2.1,u.2.2.1)) else none))))) else (done (d,e,g,h,j,k))))))))))) else none)
def z162.l0 (a b:Int) (c:List (List V)) (x:((List (List V))×(List Int)×Bool×Int×Int×Int)):Option (((List (List V))×(List Int)×Bool×Int×Int×Int)):=lfp (λrec x=>z162.l0P a b c rec some x) x
def z162.j4 (a2:List (List V)) (a0 a1:Int):Option ((List (List V))×Int):=
 (bif (decide ((((a2).length:Nat):Int)=0)) then (some ([],(0:Int))) else (if (0:Int)<=(0:Int)/\(0:Int)<(a2.length:Int) then (V.asInt .i64 (((a2.getD 0 [])).getD 0 .undef) λc5=>(V.asInt .i64 (((a2.getD 0 [])).getD 1 .undef) λc6=>(V.asInt .i64 (((a2.getD 0 [])).getD 2 .undef) λc7=>(V.asInt .i64 (((a2.getD 0 [])).getD 3 .undef) λc8=>(V.asInt .i64 (((a2.getD 0 [])).getD 4 .undef) λc9=>(V.asInt .i64 (((a2.getD 0 [])).getD 5 .undef) λc10=>(V.asStr (((a2.getD 0 [])).getD 6 .undef) λc11=>(V.asStr (((a2.getD 0 [])).getD 7 .undef) λc12=>((z162.l0 a0 a1 a2 ([],[],false,c5,c6,c7)).bind λo13=>(some (o13.1,(0:Int)))))))))))) else none))
def z162.F (a0 a1:Int) (a2:List (List V)):Option ((List (List V))×Int):=
 ((z145.F a2).bind λr1=>(bif (!decide (r1=0)) then (some ([],r1)) else ((z146.F a0).bind λr2=>(bif (!r2) then (some ([],(2:Int))) else ((z81.F a1).bind λr3=>(bif (decide (r3=([]:List UInt8))) then (some ([],(2:Int))) else (z162.j4 a2 a0 a1)))))))
def z162.enc (r:(List (List V))×Int):V:=(.tup [(.recs false 2 r.1),(.int .i64 r.2)])
def z162.pack:List V->Option Pack
 |[(.int .i64 a0),(.int .i64 a1),(.recs _ 8 a2)]=>some ⟨(List (List V))×Int,z162.F a0 a1 a2,z162.enc⟩
 |_=>none
def z171.enc (r:(List Int)×Bool×(List Int)×Int):V:=(.tup [(.agg [(.ints false .u64 r.1),(.bool r.2.1),(.ints false .u64 r.2.2.1)]),(.int .i64 r.2.2.2)])
def z171.pack:List V->Option Pack
 |[(.int .i64 a0),(.recs _ 8 a1),(.agg [(.int .i64 a2),(.int .i64 a3),(.int .i64 a4)])]=>some ⟨(List Int)×Bool×(List Int)×Int,z171.F a0 a1 a2 a3 a4,z171.enc⟩
 |_=>none
def z172.F (a0 a1:Int) (a2:List (List V)) (a3 a4 a5:Int):Option ((List Int)×Bool×Int):=
 ((z171.F a0 a2 a3 a4 a5).bind λr1=>(bif (!decide (r1.2.2.2=0)) then (some ([],false,r1.2.2.2)) else ((z150.F r1.1 r1.2.1 r1.2.2.1 a1).bind λr2=>(some (r2.1,r2.2.1,r2.2.2)))))
def z172.enc (r:(List Int)×Bool×Int):V:=(.tup [(.agg [(.ints false .u64 r.1),(.bool r.2.1)]),(.int .i64 r.2.2)])
def z172.pack:List V->Option Pack
 |[(.int .i64 a0),(.int .i64 a1),(.recs _ 8 a2),(.agg [(.int .i64 a3),(.int .i64 a4),(.int .i64 a5)])]=>some ⟨(List Int)×Bool×Int,z172.F a0 a1 a2 a3 a4 a5,z172.enc⟩
 |_=>none
def z173.F:Option (Bool):=
 ((z162.F 1 2 ([[(.int .i64 2024),(.int .i64 1),(.int .i64 1),(.int .i64 2024),(.int .i64 1),(.int .i64 4),(.str ([49,48,48,48,48,48]:List UInt8)),(.str ([51,46,54,53]:List UInt8))]]:List (List V))).bind λr1=>((z172.F 1 2 ([[(.int .i64 2024),(.int .i64 1),(.int .i64 1),(.int .i64 2024),(.int .i64 1),(.int .i64 4),(.str ([49,48,48,48,48,48]:List UInt8)),(.str ([51,46,54,53]:List UInt8))]]:List (List V)) 2024 1 3).bind λr2=>(bif (decide (r1.2=0)) then (bif (decide ((((r1.1).length:Nat):Int)=3)) then (if (0:Int)<=(1:Int)/\(1:Int)<(r1.1.length:Int) then (V.asInts .u64 (((r1.1.getD 1 [])).getD 0 .undef) λc3=>(V.asBool (((r1.1.getD 1 [])).getD 1 .undef) λc4=>((z135.F c3 c4).bind λr5=>(bif (decide (r5=([49,48]:List UInt8))) then ((z135.F r2.1 r2.2.1).bind λr6=>(bif (decide (r6=([50,48]:List UInt8))) then (bif (decide (r2.2.2=0)) then ((z145.F ([[(.int .i64 0),(.int .i64 0),(.int .i64 0),(.int .i64 0),(.int .i64 0),(.int .i64 0),(.str ([]:List UInt8)),(.str ([]:List UInt8))]]:List (List V))).bind λr7=>(some (decide (r7=11)))) else (some false)) else (some false))) else (some false))))) else none) else (some false)) else (some false))))
def z173.enc (r:Bool):V:=(.bool r)
def z173.pack:List V->Option Pack
 |[]=>some ⟨Bool,z173.F,z173.enc⟩
 |_=>none
def z175.F (a0:List Int) (a1:Bool) (a2 a3:List Int) (a4:Bool) (a5:List Int):Option (Int):=
 ((z74.F a3 a4 a5).bind λr1=>((z54.F a0 a1 r1.1 r1.2).bind λr2=>((z74.F a0 a1 a2).bind λr3=>((z54.F a3 a4 r3.1 r3.2).bind λr4=>((z34.F r2.1 r2.2 r4.1 r4.2).bind λr5=>(some r5))))))
def z175.enc (r:Int):V:=(.int .i64 r)
def z175.pack:List V->Option Pack
 |[(.agg [(.ints _ .u64 a0),(.bool a1),(.ints _ .u64 a2)]),(.agg [(.ints _ .u64 a3),(.bool a4),(.ints _ .u64 a5)])]=>some ⟨Int,z175.F a0 a1 a2 a3 a4 a5,z175.enc⟩
 |_=>none
def z183.j8 (j7:List Int) (j8:Bool) (a2:List Int) (a3:Bool) (a0:List Int) (a1:Bool):Option ((List Int)×Bool×(List Int)×Bool×Int):=
 ((z54.F j7 j8 a2 a3).bind λr9=>((z33.F a0 a1 r9.1 r9.2).bind λr10=>(some (j7,j8,r10.1,r10.2,(0:Int)))))
def z183.j4 (j4:Bool) (r2:(List Int)×Bool) (a2:List Int) (a3:Bool) (a0:List Int) (a1:Bool):Option ((List Int)×Bool×(List Int)×Bool×Int):=
 (bif j4 then ((z48.F 1).bind λr5=>((z33.F r2.1 r2.2 r5.1 r5.2).bind λr6=>(z183.j8 r6.1 r6.2 a2 a3 a0 a1))) else (z183.j8 r2.1 r2.2 a2 a3 a0 a1))
def z183.F (a0:List Int) (a1:Bool) (a2:List Int) (a3:Bool):Option ((List Int)×Bool×(List Int)×Bool×Int):=
 ((z68.F a0 a2).bind λr1=>(bif (!decide (r1.2.2=0)) then (some ([],false,[],false,r1.2.2)) else ((z21.F r1.1 (!decide (a1=a3))).bind λr2=>(bif (!decide (a1=a3)) then ((z19.F r1.2.1).bind λr3=>(z183.j4 (!r3) r2 a2 a3 a0 a1)) else (z183.j4 false r2 a2 a3 a0 a1)))))
def z183.enc (r:(List Int)×Bool×(List Int)×Bool×Int):V:=(.tup [(.agg [(.ints false .u64 r.1),(.bool r.2.1)]),(.agg [(.ints false .u64 r.2.2.1),(.bool r.2.2.2.1)]),(.int .i64 r.2.2.2.2)])
def z183.pack:List V->Option Pack
 |[(.agg [(.ints _ .u64 a0),(.bool a1)]),(.agg [(.ints _ .u64 a2),(.bool a3)])]=>some ⟨(List Int)×Bool×(List Int)×Bool×Int,z183.F a0 a1 a2 a3,z183.enc⟩
 |_=>none
def z184.l2P (a:Int) (b:List Int) {R:Type} (rec done:(Int×Int×Int×Int)->Option R):(Int×Int×Int×Int)->Option R:=λx=>match x with
 |(c,d,e,g)=>(if 0<=a/\a<(b.length:Int) then (bif (decide (c<(Int.tmod (wr .i64 (b.getD (a).toNat 0)) 61))) then ((z143.F d e g).bind λh=>(rec ((wr .i64 (c+1)),h.1,h.2.1,h.2.2.1))) else (done (c,d,e,g))) else none)
def z184.l2 (a:Int) (b:List Int) (x:(Int×Int×Int×Int)):Option ((Int×Int×Int×Int)):=lfp (λrec x=>z184.l2P a b rec some x) x
def z184.j4023a {R:Type} (rec done:(Int×(List (List V))×Int×Int×Int)->Option R) (a b:Int) (c:List (List V)) (d e g:Int) (h:Int×Int×Int×Int) (j:Int):Option R:=
 ((z9.F a).bind λk=>((z9.F b).bind λm=>((z6.F k.1 k.2).bind λn=>((z6.F m.1 m.2).bind λo=>(if ((c).length+(([[(.int .i64 d),(.int .i64 e),(.int .i64 g),(.int .i64 h.2.1),(.int .i64 h.2.2.1),(.int .i64 h.2.2.2),(.str n),(.str o)]]:List (List V))).length)*80<=140737488355328 then (rec ((wr .i64 (j+1)),(c++([[(.int .i64 d),(.int .i64 e),(.int .i64 g),(.int .i64 h.2.1),(.int .i64 h.2.2.1),(.int .i64 h.2.2.2),(.str n),(.str o)]]:List (List V))),h.2.1,h.2.2.1,h.2.2.2)) else none)))))
def z184.j4022a {R:Type} (rec done:(Int×(List (List V))×Int×Int×Int)->Option R) (a:Int) (b:List Int) (c:Int) (d:List (List V)) (e g h:Int) (j:Int×Int×Int×Int):Option R:=
 (bif (decide (a<(((b).length:Nat):Int))) then (if 0<=a/\a<(b.length:Int) then (z184.j4023a rec done c (Int.tmod (wr .i64 (b.getD (a).toNat 0)) 1000) d e g h j a) else none) else (z184.j4023a rec done c a d e g h j a))
def z184.l0aaP (a b c:List Int) {R:Type} (rec done:(Int×(List (List V))×Int×Int×Int)->Option R):(Int×(List (List V))×Int×Int×Int)->Option R:=λx=>match x with
 |(d,e,g,h,j)=>(bif (decide (d<(((a).length:Nat):Int))) then (bif (decide (d<6)) then ((z184.l2 d a ((0:Int),g,h,j)).bind λk=>(bif (decide (d<(((b).length:Nat):Int))) then (if 0<=d/\d<(b.length:Int) then (z184.j4022a rec done d c (wr .i64 (b.getD (d).toNat 0)) e g h j k) else none) else (z184.j4022a rec done d c (wr .i64 ((1000:Int)*d)) e g h j k))) else (done (d,e,g,h,j))) else (done (d,e,g,h,j)))
def z184.l0aa (a b c:List Int) (x:(Int×(List (List V))×Int×Int×Int)):Option ((Int×(List (List V))×Int×Int×Int)):=lfp (λrec x=>z184.l0aaP a b c rec some x) x
def z184.l0b3P (a:Int) {R:Type} (rec done:(Int×(List (List V))×(List (List V))×(List (List V)))->Option R):(Int×(List (List V))×(List (List V))×(List (List V)))->Option R:=λx=>match x with
 |(b,c,d,e)=>(bif (decide (b<a)) then (if 0<=b/\b<(c.length:Int) then (if (b).toNat<c.length then (V.asStr ((c.getD (b).toNat []).getD 6 .undef) λg=>((z42.F g).bind λh=>(if 0<=b/\b<(c.length:Int) then (if (b).toNat<c.length then (V.asStr ((c.getD (b).toNat []).getD 7 .undef) λj=>((z42.F j).bind λk=>((z48.F 2).bind λm=>((z183.F k.1 k.2.1 m.1 m.2).bind λn=>((z135.F n.1 n.2.1).bind λo=>((z135.F n.1 n.2.1).bind λp=>(if 0<=b/\b<(c.length:Int) then (if (b).toNat<c.length then (if 0<=b/\b<(e.length:Int) then (if (b).toNat<e.length then ((z31.F n.1 n.2.1 n.1 n.2.1).bind λq=>((z135.F q.1 q.2).bind λr=>(if 0<=b/\b<(d.length:Int) then (if (b).toNat<d.length then ((z31.F h.1 h.2.1 h.1 h.2.1).bind λs=>((z135.F s.1 s.2).bind λt=>(if 0<=b/\b<((e.set (b).toNat ((e.getD (b).toNat []).set 7 (.str p))).length:Int) then (if (b).toNat<(e.set (b).toNat ((e.getD (b).toNat []).set 7 (.str p))).length then (rec ((wr .i64 (b+1)),(c.set (b).toNat ((c.getD (b).toNat []).set 7 (.str o))),(d.set (b).toNat ((d.getD (b).toNat []).set 7 (.str r))),((e.set (b).toNat ((e.getD (b).toNat []).set 7 (.str p))).set (b).toNat (((e.set (b).toNat ((e.getD (b).toNat []).set 7 (.str p))).getD (b).toNat []).set 6 (.str t))))) else none) else none))) else none) else none))) else none) else none) else none) else none))))))) else none) else none))) else none) else none) else (done (b,c,d,e)))
def z184.l0b3 (a:Int) (x:(Int×(List (List V))×(List (List V))×(List (List V)))):Option ((Int×(List (List V))×(List (List V))×(List (List V)))):=lfp (λrec x=>z184.l0b3P a rec some x) x
def z184.l2aP (a b c:List (List V)) (d e g h j k:Int) {R:Type} (rec:Int->Option R) (done:((Int)⊕(Bool))->Option R):Int->Option R:=λm=>(bif (decide (m<3)) then ((z171.F m a d e g).bind λn=>((z171.F m b d e g).bind λo=>((z171.F m c d e g).bind λp=>((z171.F m a h j k).bind λq=>(bif (!decide (n.2.2.2=0)) then (done (.inr false)) else (bif (!decide (o.2.2.2=0)) then (done (.inr false)) else (bif (!decide (p.2.2.2=0)) then (done (.inr false)) else (bif (!decide (q.2.2.2=0)) then (done (.inr false)) else ((z151.F n.1 n.2.1 n.2.2.1 n.1 n.2.1 n.2.2.1).bind λr=>((z175.F r.1 r.2.1 r.2.2 o.1 o.2.1 o.2.2.1).bind λs=>(bif (!decide (s=0)) then (done (.inr false)) else ((z175.F o.1 o.2.1 o.2.2.1 p.1 p.2.1 p.2.2.1).bind λt=>(bif (!decide (t=0)) then (done (.inr false)) else ((z147.F n.1 n.2.1 n.2.2.1).bind λu=>(bif (decide (u<0)) then (done (.inr false)) else (bif (decide (m>0)) then ((z175.F q.1 q.2.1 q.2.2.1 n.1 n.2.1 n.2.2.1).bind λv=>(bif (decide (v<0)) then (done (.inr false)) else (rec (wr .i64 (m+1))))) else (rec (wr .i64 (m+1))))))))))))))))))) else (done (.inl m)))
def z184.l2a (a b c:List (List V)) (d e g h j k x:Int):Option (((Int)⊕(Bool))):=lfp (λrec x=>z184.l2aP a b c d e g h j k rec some x) x
def z184.j18 (o4:Int×(List (List V))×(List (List V))×(List (List V))) (r8 r9:Int×Int×Int×Int):Option (Bool):=
 ((z184.l2a o4.2.1 o4.2.2.1 o4.2.2.2 r8.1 r8.2.1 r8.2.2.1 r9.1 r9.2.1 r9.2.2.1 1).bind λo19=>match o19 with | .inl p20=>(z173.F.bind λr22=>(some r22)) | .inr q21=>(some q21))
def z184.F (a0 a1 a2:Int) (a3 a4 a5:List Int) (a6 a7:Int):Option (Bool):=
 ((z12.F a0 a1 a2 9990).bind λr1=>((z184.l0aa a3 a4 a5 ((0:Int),[],r1.1,r1.2.1,r1.2.2)).bind λo2=>(bif (decide ((((o2.2.1).length:Nat):Int)=0)) then (z173.F.bind λr3=>(some r3)) else (if (([]:List (List V)).length+(o2.2.1).length)*80<=140737488355328 then (if (([]:List (List V)).length+(o2.2.1).length)*80<=140737488355328 then ((z184.l0b3 (((o2.2.1).length:Nat):Int) ((0:Int),o2.2.1,([]++o2.2.1),([]++o2.2.1))).bind λo4=>(if (0:Int)<=(0:Int)/\(0:Int)<(o4.2.1.length:Int) then (if 0<o4.2.1.length then (V.asInt .i64 (((o4.2.1.getD 0 [])).getD 0 .undef) λc5=>(V.asInt .i64 (((o4.2.1.getD 0 [])).getD 1 .undef) λc6=>(V.asInt .i64 (((o4.2.1.getD 0 [])).getD 2 .undef) λc7=>((z100.F c5 c6 c7 (wr .i64 a6)).bind λr8=>((z100.F r8.1 r8.2.1 r8.2.2.1 (wr .i64 a7)).bind λr9=>((z171.F 0 o4.2.1 r8.1 r8.2.1 r8.2.2.1).bind λr10=>((z171.F 0 o4.2.2.1 r8.1 r8.2.1 r8.2.2.1).bind λr11=>((z171.F 0 o4.2.2.2 r8.1 r8.2.1 r8.2.2.1).bind λr12=>((z171.F 0 o4.2.1 r9.1 r9.2.1 r9.2.2.1).bind λr13=>(bif (!decide (r10.2.2.2=0)) then (some false) else (bif (!decide (r11.2.2.2=0)) then (some false) else (bif (!decide (r12.2.2.2=0)) then (some false) else (bif (!decide (r13.2.2.2=0)) then (some false) else ((z151.F r10.1 r10.2.1 r10.2.2.1 r10.1 r10.2.1 r10.2.2.1).bind λr14=>((z175.F r14.1 r14.2.1 r14.2.2 r11.1 r11.2.1 r11.2.2.1).bind λr15=>(bif (!decide (r15=0)) then (some false) else ((z175.F r11.1 r11.2.1 r11.2.2.1 r12.1 r12.2.1 r12.2.2.1).bind λr16=>(bif (!decide (r16=0)) then (some false) else ((z147.F r10.1 r10.2.1 r10.2.2.1).bind λr17=>(bif (decide (r17<0)) then (some false) else (z184.j18 o4 r8 r9))))))))))))))))))))) else none) else none)) else none) else none))))
def z184.enc (r:Bool):V:=(.bool r)
def z184.pack:List V->Option Pack
 |[(.agg [(.int .i64 a0),(.int .i64 a1),(.int .i64 a2),(.ints _ .u8 a3),(.ints _ .u32 a4),(.ints _ .u16 a5)]),(.agg [(.int .u8 a6),(.int .u8 a7)])]=>some ⟨Bool,z184.F a0 a1 a2 a3 a4 a5 a6 a7,z184.enc⟩
 |_=>none
end
end Go.Proofs.YtgjncgiekniniaaGreatDoor.A
end
section
set_option maxRecDepth 100000
namespace Go.Proofs.YtgjncgiekniniaaGreatDoor.A
open Go
noncomputable section
def z10.C:Ctx where
 T:=tab
def z10.dec:V->Option (Bool)
 |(.bool x0)=>some x0
 |_=>none
theorem z10.link (a0:Int):z10.C.evTop 219 (ifun Tryz.f219) [(.int .i64 a0)] z10.dec=z10.F a0:=by kernel_rfl
def z95.l0sh:Env×Store:=(.undef :: .undef::(.int .i64 0)::(.int .i64 0) :: .undef :: .undef::(.ints false .i64 [])::(.int .i64 0)::(.int .i64 0)::un 9 [],[])
def z95.l0so1:Env×Store:=(.undef :: .undef::(.int .i64 0)::un 15 [],[])
def z95.l0out0 (a b:Int) (c:List Int) (d e o:Int):X×Env×Store:=((.exit 0),Qb z95.l0sh [.i a,.i b,.li c,.i d,.i o])
def z95.l0out1 (a b:Int) (c:List Int) (d e o:Int):X×Env×Store:=(.ret,Qb z95.l0so1 [.i o])
def z95.l0pack:List Leaf->Option LPack
 |[.i a,.i b,.li c,.i d,.i e]=>some (.two _ _ (z95.l0 b c d e) (z95.l0out0 a b c d e) (z95.l0out1 a b c d e))
 |_=>none
def z95.C:Ctx where
 T:=tab
 keep:=λf i=>match f,i with|145,0=>([2,3,6,7,8],[],[])|_,_=>([],[],[])
 keepE:=λf i=>match f,i with|145,0=>([2,3,6,7,8],[],[])|_,_=>([],[],[])
 keepR:=λf i=>match f,i with|145,0=>([2],[],[2])|_,_=>([],[],[])
 L:=λf i b st=>match f,i,b with|145,0,0=>(matchSt z95.l0sh st).bind z95.l0pack|_,_,_=>none
def z95.dec:V->Option (Int)
 |(.int .i64 x0)=>some x0
 |_=>none
theorem z95.l0_link (R:Type) (k:Env×Store->Option R) (d:X×Env×Store->Option R) (a b:Int) (c:List Int) (e g:Int) :
  z95.C.loopP 145 0 (Qf 0 (ifun Tryz.f145).body) 0 k d (Qb z95.l0sh [.i a,.i b,.li c,.i e,.i g]) =
  z95.l0P b c e (λx'=>k (Qb z95.l0sh [.i a,.i b,.li c,.i e,.i x'])) (λo=>match o with | .inl o=>d (z95.l0out0 a b c e g o) | .inr o=>d (z95.l0out1 a b c e g o)) g:=by kernel_rfl
theorem z95.link (a0:List Int):z95.C.evTop 145 (ifun Tryz.f145) [(.ints false .i64 a0)] z95.dec=z95.F a0:=by kernel_rfl
def z96.C:Ctx where
 T:=tab
 draws:=λf i=>match f,i with|57,1=>([(6,[(2,0)],0),(7,[(5,1)],1),(8,[(3,0)],0),(9,[(7,3)],4),(10,[(6,2),(8,4)],15),(11,[(2,0)],0),(12,[(10,6)],32),(13,[(3,0)],0),(14,[(12,8)],128),(15,[(11,7),(13,9)],511),(16,[(2,0)],0),(17,[(15,11)],1024),(18,[(3,0)],0),(19,[(17,13)],4096),(20,[(16,12),(18,14)],16383),(21,[(9,5),(14,10),(19,15)],32767),(22,[(20,16)],65535),(5,[(21,17)],131071)],4194288)|_,_=>([],0)
 call:=λg args=>match g with|146=>z26.pack args|145=>z95.pack args|_=>none
def z96.dec:V->Option (Int)
 |(.int .i64 x0)=>some x0
 |_=>none
theorem z96.link (a0 a1 a2 a3 a4 a5:Int):z96.C.evTop 57 (ifun Tryz.f57) [(.agg [(.int .i64 a0),(.int .i64 a1),(.int .i64 a2)]),(.agg [(.int .i64 a3),(.int .i64 a4),(.int .i64 a5)])] z96.dec=z96.F a0 a1 a2 a3 a4 a5:=by kernel_rfl
def z145.l0sh:Env×Store:=((.recs false 8 []) :: .undef::(.int .i64 0)::(.cptr [(.int .i64 0),(.int .i64 0),(.int .i64 0),(.int .i64 0),(.int .i64 0),(.int .i64 0),(.str ([]:List UInt8)),(.str ([]:List UInt8))])::un 3 ((.recs false 8 [])::(.int .i64 0)::(.int .i64 0)::un 14 []),[.dead,.dead,.dead])
def z145.l0so1:Env×Store:=(.undef :: .undef::(.int .i64 0)::un 21 [],[.dead,.dead,.dead])
def z145.l0out0 (a:List (List V)) (b c d e g h j:Int) (k m:List UInt8) (n:List (List V)) (p q:Int) (o:Int×Int×Int×Int×Int×Int×(List UInt8)×(List UInt8)×Int):X×Env×Store:=((.exit 0),Qb z145.l0sh [.lr a,.i b,.i o.1,.i o.2.1,.i o.2.2.1,.i o.2.2.2.1,.i o.2.2.2.2.1,.i o.2.2.2.2.2.1,.s o.2.2.2.2.2.2.1,.s o.2.2.2.2.2.2.2.1,.lr n,.i p,.i o.2.2.2.2.2.2.2.2])
def z145.l0out1 (a:List (List V)) (b c d e g h j:Int) (k m:List UInt8) (n:List (List V)) (p q o:Int):X×Env×Store:=(.ret,Qb z145.l0so1 [.i o])
def z145.l0pack:List Leaf->Option LPack
 |[.lr a,.i b,.i c,.i d,.i e,.i g,.i h,.i j,.s k,.s m,.lr n,.i o,.i p]=>some (.two _ _ (z145.l0 a n o (c,d,e,g,h,j,k,m,p)) (z145.l0out0 a b c d e g h j k m n o p) (z145.l0out1 a b c d e g h j k m n o p))
 |_=>none
def z145.l0ash:Env×Store:=((.recs false 8 []) :: .undef::(.int .i64 0)::(.cptr [(.int .i64 0),(.int .i64 0),(.int .i64 0),(.int .i64 0),(.int .i64 0),(.int .i64 0),(.str ([]:List UInt8)),(.str ([]:List UInt8))])::un 3 ((.recs false 8 [])::(.int .i64 0)::(.int .i64 0)::un 14 []),[.dead,.dead,.dead,.dead])
def z145.l0aso1:Env×Store:=(.undef :: .undef::(.int .i64 0)::un 21 [],[.dead,.dead,.dead,.dead])
def z145.l0aout0 (a:List (List V)) (b c d e g h j:Int) (k m:List UInt8) (n:List (List V)) (p q:Int) (o:Int×Int×Int×Int×Int×Int×(List UInt8)×(List UInt8)×Int):X×Env×Store:=((.exit 0),Qb z145.l0ash [.lr a,.i b,.i o.1,.i o.2.1,.i o.2.2.1,.i o.2.2.2.1,.i o.2.2.2.2.1,.i o.2.2.2.2.2.1,.s o.2.2.2.2.2.2.1,.s o.2.2.2.2.2.2.2.1,.lr n,.i p,.i o.2.2.2.2.2.2.2.2])
def z145.l0aout1 (a:List (List V)) (b c d e g h j:Int) (k m:List UInt8) (n:List (List V)) (p q o:Int):X×Env×Store:=(.ret,Qb z145.l0aso1 [.i o])
def z145.l0apack:List Leaf->Option LPack
 |[.lr a,.i b,.i c,.i d,.i e,.i g,.i h,.i j,.s k,.s m,.lr n,.i o,.i p]=>some (.two _ _ (z145.l0a a n o (c,d,e,g,h,j,k,m,p)) (z145.l0aout0 a b c d e g h j k m n o p) (z145.l0aout1 a b c d e g h j k m n o p))
 |_=>none
def z145.C:Ctx where
 T:=tab
 draws:=λf i=>match f,i with|213,3=>([(22,[(2,0)],0),(23,[(21,1)],1),(24,[(2,0)],0),(25,[(23,3)],4),(26,[(22,2),(24,4)],15),(27,[(25,5)],31),(28,[(26,6)],63),(29,[(1,0),(27,7)],127),(30,[(28,8),(27,7)],255),(31,[(29,9),(27,7)],511),(32,[(2,0),(30,10)],1023),(33,[(31,11),(30,10)],2047),(34,[(1,0),(30,10)],1023),(35,[(33,13),(30,10)],5119),(36,[(34,14),(30,10)],13311),(37,[(35,15),(30,10)],29695),(38,[(32,12),(36,16),(30,10)],65535),(39,[(30,10),(37,17),(27,7)],131071),(40,[(27,7),(38,18)],262143),(21,[(39,19)],524287)],1099510579200)|_,_=>([],0)
 call:=λg args=>match g with|142=>z89.pack args|57=>z96.pack args|36=>z46.pack args|38=>z76.pack args|_=>none
 inl:=λg=>match g with|213=>some (ifun Tryz.f213)|_=>none
 keep:=λf i=>match f,i with|147,0=>([0,2,3,7,8,9],[],[])|_,_=>([],[],[])
 keepE:=λf i=>match f,i with|147,0=>([0,2,3,7,8,9],[],[])|_,_=>([],[],[])
 keepR:=λf i=>match f,i with|147,0=>([2],[],[2])|_,_=>([],[],[])
 unroll:=λf i=>match f,i with|147,0=>1|_,_=>0
 L:=λf i b st=>match f,i,b with|147,0,0=>(orP ((matchSt z145.l0sh st).bind z145.l0pack) ((matchSt z145.l0ash st).bind z145.l0apack))|_,_,_=>none
def z145.dec:V->Option (Int)
 |(.int .i64 x0)=>some x0
 |_=>none
theorem z145.l0_link (R:Type) (k:Env×Store->Option R) (d:X×Env×Store->Option R) (a:List (List V)) (b c e g h j m:Int) (n p:List UInt8) (q:List (List V)) (r t:Int) :
  z145.C.loopP 147 0 (Qf 0 (ifun Tryz.f147).body) 3 k d (Qb z145.l0sh [.lr a,.i b,.i c,.i e,.i g,.i h,.i j,.i m,.s n,.s p,.lr q,.i r,.i t]) =
  z145.l0P a q r (λx'=>k (Qb z145.l0sh [.lr a,.i b,.i x'.1,.i x'.2.1,.i x'.2.2.1,.i x'.2.2.2.1,.i x'.2.2.2.2.1,.i x'.2.2.2.2.2.1,.s x'.2.2.2.2.2.2.1,.s x'.2.2.2.2.2.2.2.1,.lr q,.i r,.i x'.2.2.2.2.2.2.2.2])) (λo=>match o with | .inl o=>d (z145.l0out0 a b c e g h j m n p q r t o) | .inr o=>d (z145.l0out1 a b c e g h j m n p q r t o)) (c,e,g,h,j,m,n,p,t):=by kernel_rfl
theorem z145.l0a_link (R:Type) (k:Env×Store->Option R) (d:X×Env×Store->Option R) (a:List (List V)) (b c e g h j m:Int) (n p:List UInt8) (q:List (List V)) (r t:Int) :
  z145.C.loopP 147 0 (Qf 0 (ifun Tryz.f147).body) 4 k d (Qb z145.l0ash [.lr a,.i b,.i c,.i e,.i g,.i h,.i j,.i m,.s n,.s p,.lr q,.i r,.i t]) =
  z145.l0aP a q r (λx'=>k (Qb z145.l0ash [.lr a,.i b,.i x'.1,.i x'.2.1,.i x'.2.2.1,.i x'.2.2.2.1,.i x'.2.2.2.2.1,.i x'.2.2.2.2.2.1,.s x'.2.2.2.2.2.2.1,.s x'.2.2.2.2.2.2.2.1,.lr q,.i r,.i x'.2.2.2.2.2.2.2.2])) (λo=>match o with | .inl o=>d (z145.l0aout0 a b c e g h j m n p q r t o) | .inr o=>d (z145.l0aout1 a b c e g h j m n p q r t o)) (c,e,g,h,j,m,n,p,t):=by kernel_rfl
theorem z145.link (a0:List (List V)):z145.C.evTop 147 (ifun Tryz.f147) [(.recs false 8 a0)] z145.dec=z145.F a0:=by kernel_rfl
def z146.C:Ctx where
 T:=tab
 call:=λg args=>match g with|209=>z84.pack args|_=>none
def z146.dec:V->Option (Bool)
 |(.bool x0)=>some x0
 |_=>none
theorem z146.link (a0:Int):z146.C.evTop 148 (ifun Tryz.f148) [(.int .i64 a0)] z146.dec=z146.F a0:=by kernel_rfl
def z147.C:Ctx where
 T:=tab
 call:=λg args=>match g with|28=>z20.pack args|_=>none
def z147.dec:V->Option (Int)
 |(.int .i64 x0)=>some x0
 |_=>none
theorem z147.link (a0:List Int) (a1:Bool) (a2:List Int):z147.C.evTop 71 (ifun Tryz.f71) [(.agg [(.ints false .u64 a0),(.bool a1),(.ints false .u64 a2)])] z147.dec=z147.F a0 a1 a2:=by kernel_rfl
def z148.C:Ctx where
 T:=tab
def z148.dec:V->Option ((List Int)×Bool)
 |(.agg [(.ints _ .u64 x0),(.bool x1)])=>some (x0,x1)
 |_=>none
theorem z148.link (a0:List Int) (a1:Bool) (a2:List Int):z148.C.evTop 216 (ifun Tryz.f216) [(.agg [(.ints false .u64 a0),(.bool a1),(.ints false .u64 a2)])] z148.dec=z148.F a0 a1 a2:=by kernel_rfl
def z149.C:Ctx where
 T:=tab
 draws:=λf i=>match f,i with|217,1=>([(12,[(6,0)],0),(13,[(6,0)],0),(14,[(11,1),(12,2)],3),(15,[(7,0)],0),(16,[(13,3),(14,4)],15),(10,[(15,5)],31)],64000)|_,_=>([],0)
 call:=λg args=>match g with|99=>z24.pack args|186=>z29.pack args|188=>z60.pack args|_=>none
def z149.dec:V->Option (Bool)
 |(.bool x0)=>some x0
 |_=>none
theorem z149.link (a0:Int) (a1 a2 a3:List Int):z149.C.evTop 217 (ifun Tryz.f217) [(.int .i64 a0),(.agg [(.ints false .u64 a1)]),(.agg [(.ints false .u64 a2)]),(.agg [(.ints false .u64 a3)])] z149.dec=z149.F a0 a1 a2 a3:=by kernel_rfl
def z150.C:Ctx where
 T:=tab
 draws:=λf i=>match f,i with|150,3=>([(15,[(2,0)],0),(16,[(14,1)],1),(17,[(15,2)],3),(18,[(2,0)],0),(19,[(17,4)],15),(20,[(16,3),(18,5)],31),(14,[(19,6)],63),(21,[(13,7)],127),(22,[(13,7)],127),(23,[(13,7)],127),(7,[],0),(8,[],0),(0,[(6,11),(20,8)],3327),(0,[(7,12),(21,9)],7679),(9,[(22,10)],16383)],8380864)|150,4=>([(24,[(7,0)],0),(25,[(23,1)],1),(26,[(24,2)],3),(27,[(25,3)],7),(28,[(1,0),(26,4)],15),(29,[(6,0),(26,4)],15),(30,[(7,0),(26,4)],15),(31,[(2,0),(26,4)],15),(32,[(30,8),(26,4)],143),(33,[(27,5),(28,6),(29,7),(31,9),(26,4)],511),(34,[(26,4),(32,10)],1023)],17171480576)|150,5=>([(35,[(6,0)],0),(36,[],0),(37,[(35,2)],2),(38,[(34,1),(36,3)],7),(0,[(6,0),(37,4)],15)],257698037760)|150,6=>([(39,[(6,0)],0),(40,[(2,0)],0),(41,[(39,2)],2),(42,[(40,3)],6),(43,[(38,1),(41,4)],15),(0,[(4,0),(42,5)],31),(6,[],63)],8521215115296)|_,_=>([],0)
 call:=λg args=>match g with|214=>z79.pack args|216=>z148.pack args|92=>z59.pack args|130=>z73.pack args|162=>z68.pack args|104=>z19.pack args|217=>z149.pack args|158=>z38.pack args|99=>z24.pack args|71=>z147.pack args|91=>z21.pack args|_=>none
def z150.dec:V->Option ((List Int)×Bool×Int)
 |(.tup [(.agg [(.ints _ .u64 x0),(.bool x1)]),(.int .i64 x2)])=>some (x0,x1,x2)
 |_=>none
theorem z150.link (a0:List Int) (a1:Bool) (a2:List Int) (a3:Int):z150.C.evTop 150 (ifun Tryz.f150) [(.agg [(.ints false .u64 a0),(.bool a1),(.ints false .u64 a2)]),(.int .i64 a3)] z150.dec=z150.F a0 a1 a2 a3:=by kernel_rfl
def z153.C:Ctx where
 T:=tab
 call:=λg args=>match g with|69=>z48.pack args|176=>z71.pack args|_=>none
def z153.dec:V->Option ((List Int)×Bool×(List Int))
 |(.agg [(.ints _ .u64 x0),(.bool x1),(.ints _ .u64 x2)])=>some (x0,x1,x2)
 |_=>none
theorem z153.link (a0 a1:Int):z153.C.evTop 230 (ifun Tryz.f230) [(.int .i64 a0),(.int .i64 a1)] z153.dec=z153.F a0 a1:=by kernel_rfl
def z171.C:Ctx where
 T:=tab
 call:=λg args=>match g with|147=>z145.pack args|142=>z89.pack args|148=>z146.pack args|151=>z161.pack args|_=>none
def z171.dec:V->Option ((List Int)×Bool×(List Int)×Int)
 |(.tup [(.agg [(.ints _ .u64 x0),(.bool x1),(.ints _ .u64 x2)]),(.int .i64 x3)])=>some (x0,x1,x2,x3)
 |_=>none
theorem z171.link (a0:Int) (a1:List (List V)) (a2 a3 a4:Int):z171.C.evTop 66 (ifun Tryz.f66) [(.int .i64 a0),(.recs false 8 a1),(.agg [(.int .i64 a2),(.int .i64 a3),(.int .i64 a4)])] z171.dec=z171.F a0 a1 a2 a3 a4:=by kernel_rfl
def z183.C:Ctx where
 T:=tab
 draws:=λf i=>match f,i with|77,6=>([(43,[(10,0)],0),(44,[],0),(45,[(42,1),(43,2)],3),(0,[(10,0),(44,3)],7)],30786325577728)|77,7=>([(46,[(10,0)],0),(47,[(2,0)],0),(48,[(10,0)],0),(49,[(3,0)],0),(50,[(47,3),(48,4)],12),(51,[(46,2),(49,5)],30),(0,[(4,0),(45,1)],63),(0,[(5,0),(50,6)],127),(7,[],255)],2216615441596480)|_,_=>([],0)
 call:=λg args=>match g with|162=>z68.pack args|91=>z21.pack args|104=>z19.pack args|69=>z48.pack args|90=>z33.pack args|156=>z54.pack args|_=>none
def z183.dec:V->Option ((List Int)×Bool×(List Int)×Bool×Int)
 |(.tup [(.agg [(.ints _ .u64 x0),(.bool x1)]),(.agg [(.ints _ .u64 x2),(.bool x3)]),(.int .i64 x4)])=>some (x0,x1,x2,x3,x4)
 |_=>none
theorem z183.link (a0:List Int) (a1:Bool) (a2:List Int) (a3:Bool):z183.C.evTop 77 (ifun Tryz.f77) [(.agg [(.ints false .u64 a0),(.bool a1)]),(.agg [(.ints false .u64 a2),(.bool a3)])] z183.dec=z183.F a0 a1 a2 a3:=by kernel_rfl
end
noncomputable section
def z6.C:Ctx where
 T:=tab
 call:=λg args=>match g with|102=>z5.pack args|_=>none
def z6.dec:V->Option ((List UInt8))
 |(.str x0)=>some x0
 |_=>none
theorem z6.link (a0:List Int) (a1:Bool):z6.C.evTop 26 (ifun Tryz.f26) [(.agg [(.ints false .i64 a0),(.bool a1)])] z6.dec=z6.F a0 a1:=by kernel_rfl
def z9.C:Ctx where
 T:=tab
 call:=λg args=>match g with|152=>z8.pack args|113=>z7.pack args|_=>none
def z9.dec:V->Option ((List Int)×Bool)
 |(.agg [(.ints _ .i64 x0),(.bool x1)])=>some (x0,x1)
 |_=>none
theorem z9.link (a0:Int):z9.C.evTop 60 (ifun Tryz.f60) [(.int .i64 a0)] z9.dec=z9.F a0:=by kernel_rfl
def z98.l0sh:Env×Store:=(.undef::(.ptr 0 0)::(.int .i64 0)::(.int .i64 0) :: .undef::(.int .i64 0)::(.int .i64 0)::un 24 [],[(.cells 41 [(.int .i64 0),(.int .i64 0),(.int .i64 0)])])
def z98.l0out0 (a b c d e g h:Int) (o:Int×Int):X×Env×Store:=((.exit 0),Qb z98.l0sh [.i a,.i b,.i o.1,.i o.2,.i e,.i g,.i h])
def z98.l0pack:List Leaf->Option LPack
 |[.i a,.i b,.i c,.i d,.i e,.i g,.i h]=>some (.one _ (z98.l0 e g (c,d)) (z98.l0out0 a b c d e g h))
 |_=>none
def z98.C:Ctx where
 T:=tab
 call:=λg args=>match g with|142=>z89.pack args|211=>z97.pack args|210=>z88.pack args|_=>none
 keep:=λf i=>match f,i with|140,0=>([1,2,3,5,6],[0],[])|_,_=>([],[],[])
 keepE:=λf i=>match f,i with|140,0=>([1,2,3,5,6],[0],[])|_,_=>([],[],[])
 keepR:=λf i=>match f,i with|140,0=>([2,3],[0],[2,3])|_,_=>([],[],[])
 L:=λf i b st=>match f,i,b with|140,0,0=>(matchSt z98.l0sh st).bind z98.l0pack|_,_,_=>none
def z98.dec:V->Option (Int×Int)
 |(.tup [(.int .i64 x0),(.int .i64 x1)])=>some (x0,x1)
 |_=>none
theorem z98.l0_link (R:Type) (k:Env×Store->Option R) (d:X×Env×Store->Option R) (a b c e g h j:Int) :
  z98.C.loopP 140 0 (Qf 0 (ifun Tryz.f140).body) 1 k d (Qb z98.l0sh [.i a,.i b,.i c,.i e,.i g,.i h,.i j]) =
  z98.l0P g h (λx'=>k (Qb z98.l0sh [.i a,.i b,.i x'.1,.i x'.2,.i g,.i h,.i j])) (λo=>d (z98.l0out0 a b c e g h j o)) (c,e):=by kernel_rfl
theorem z98.link (a0 a1 a2:Int):z98.C.evTop 140 (ifun Tryz.f140) [(.agg [(.int .i64 a0),(.int .i64 a1),(.int .i64 a2)])] z98.dec=z98.F a0 a1 a2:=by kernel_rfl
def z99.l0sh:Env×Store:=((.int .i64 0) :: .undef::(.ptr 0 0)::(.int .i64 0)::(.ptr 1 0)::un 63 [],[(.cells 41 [(.int .i64 0),(.int .i64 0),(.int .i64 0)]),(.cells 41 [(.int .i64 0),(.int .i64 0),(.int .i64 0)])])
def z99.l0out0 (a b c d e g h j o:Int):X×Env×Store:=((.exit 0),Qb z99.l0sh [.i a,.i b,.i c,.i d,.i e,.i o,.i h,.i j])
def z99.l0pack:List Leaf->Option LPack
 |[.i a,.i b,.i c,.i d,.i e,.i g,.i h,.i j]=>some (.one _ (z99.l0 a g) (z99.l0out0 a b c d e g h j))
 |_=>none
def z99.l2b6sh:Env×Store:=((.int .i64 0) :: .undef::(.ptr 0 0)::(.int .i64 0)::(.ptr 1 0)::un 63 [],[(.cells 41 [(.int .i64 0),(.int .i64 0),(.int .i64 0)]),(.cells 41 [(.int .i64 0),(.int .i64 0),(.int .i64 0)])])
def z99.l2b6out0 (a b c d e g h j o:Int):X×Env×Store:=((.exit 2),Qb z99.l2b6sh [.i a,.i b,.i c,.i d,.i e,.i o,.i h,.i j])
def z99.l2b6pack:List Leaf->Option LPack
 |[.i a,.i b,.i c,.i d,.i e,.i g,.i h,.i j]=>some (.one _ (z99.l2b6 a g) (z99.l2b6out0 a b c d e g h j))
 |_=>none
def z99.l4sh:Env×Store:=((.int .i64 0) :: .undef::(.ptr 0 0)::(.int .i64 0)::(.ptr 1 0)::un 63 [],[(.cells 41 [(.int .i64 0),(.int .i64 0),(.int .i64 0)]),(.cells 41 [(.int .i64 0),(.int .i64 0),(.int .i64 0)])])
def z99.l4out0 (a b c d e g h j:Int) (o:Int×Int):X×Env×Store:=((.exit 4),Qb z99.l4sh [.i o.1,.i b,.i c,.i d,.i e,.i g,.i o.2,.i j])
def z99.l4pack:List Leaf->Option LPack
 |[.i a,.i b,.i c,.i d,.i e,.i g,.i h,.i j]=>some (.one _ (z99.l4 g (a,h)) (z99.l4out0 a b c d e g h j))
 |_=>none
def z99.C:Ctx where
 T:=tab
 call:=λg args=>match g with|211=>z97.pack args|210=>z88.pack args|_=>none
 keep:=λf i=>match f,i with|141,0=>([0,2,3,4,31,32,33,34,35,36],[0,1],[])|141,2=>([0,2,3,4],[0,1],[])|141,4=>([0,2,3,4],[0,1],[])|_,_=>([],[],[])
 keepE:=λf i=>match f,i with|141,0=>([0,2,3,4,31,32,33,34,35,36],[0,1],[])|141,2=>([0,2,3,4],[0,1],[])|141,4=>([0,2,3,4],[0,1],[])|_,_=>([],[],[])
 keepR:=λf i=>match f,i with|141,0=>([2,3],[0,1],[2,3])|141,2=>([2,3],[0,1],[2,3])|141,4=>([2,3],[0,1],[2,3])|_,_=>([],[],[])
 L:=λf i b st=>match f,i,b with|141,0,0=>(matchSt z99.l0sh st).bind z99.l0pack|141,2,0=>(matchSt z99.l2b6sh st).bind z99.l2b6pack|141,4,0=>(matchSt z99.l4sh st).bind z99.l4pack|_,_,_=>none
def z99.dec:V->Option (Int×Int×Int×Int)
 |(.tup [(.agg [(.int .i64 x0),(.int .i64 x1),(.int .i64 x2)]),(.int .i64 x3)])=>some (x0,x1,x2,x3)
 |_=>none
theorem z99.l0_link (R:Type) (k:Env×Store->Option R) (d:X×Env×Store->Option R) (a b c e g h j m:Int) :
  z99.C.loopP 141 0 (Qf 0 (ifun Tryz.f141).body) 2 k d (Qb z99.l0sh [.i a,.i b,.i c,.i e,.i g,.i h,.i j,.i m]) =
  z99.l0P a (λx'=>k (Qb z99.l0sh [.i a,.i b,.i c,.i e,.i g,.i x',.i j,.i m])) (λo=>d (z99.l0out0 a b c e g h j m o)) h:=by kernel_rfl
theorem z99.l2b6_link (R:Type) (k:Env×Store->Option R) (d:X×Env×Store->Option R) (a b c e g h j m:Int) :
  z99.C.loopP 141 2 (Qf 2 (ifun Tryz.f141).body) 2 k d (Qb z99.l2b6sh [.i a,.i b,.i c,.i e,.i g,.i h,.i j,.i m]) =
  z99.l2b6P a (λx'=>k (Qb z99.l2b6sh [.i a,.i b,.i c,.i e,.i g,.i x',.i j,.i m])) (λo=>d (z99.l2b6out0 a b c e g h j m o)) h:=by kernel_rfl
theorem z99.l4_link (R:Type) (k:Env×Store->Option R) (d:X×Env×Store->Option R) (a b c e g h j m:Int) :
  z99.C.loopP 141 4 (Qf 4 (ifun Tryz.f141).body) 2 k d (Qb z99.l4sh [.i a,.i b,.i c,.i e,.i g,.i h,.i j,.i m]) =
  z99.l4P h (λx'=>k (Qb z99.l4sh [.i x'.1,.i b,.i c,.i e,.i g,.i h,.i x'.2,.i m])) (λo=>d (z99.l4out0 a b c e g h j m o)) (a,j):=by kernel_rfl
theorem z99.link (a0:Int):z99.C.evTop 141 (ifun Tryz.f141) [(.int .i64 a0)] z99.dec=z99.F a0:=by kernel_rfl
def z143.C:Ctx where
 T:=tab
 draws:=λf i=>match f,i with|61,6=>([(32,[(1,0)],0),(33,[(31,1)],1),(34,[(32,2)],3),(35,[(33,3)],7),(36,[(1,0)],0),(37,[(35,5)],16),(38,[(36,6)],48),(0,[(2,0),(34,4)],15),(4,[(37,7)],255)],272730423304)|_,_=>([],0)
 call:=λg args=>match g with|153=>z11.pack args|_=>none
def z143.dec:V->Option (Int×Int×Int×Bool)
 |(.tup [(.agg [(.int .i64 x0),(.int .i64 x1),(.int .i64 x2)]),(.bool x3)])=>some (x0,x1,x2,x3)
 |_=>none
theorem z143.link (a0 a1 a2:Int):z143.C.evTop 61 (ifun Tryz.f61) [(.agg [(.int .i64 a0),(.int .i64 a1),(.int .i64 a2)])] z143.dec=z143.F a0 a1 a2:=by kernel_rfl
def z151.C:Ctx where
 T:=tab
 draws:=λf i=>match f,i with|78,1=>([(6,[(2,0)],0),(7,[(5,1)],1),(8,[(3,0)],0),(9,[(7,3)],4),(10,[(6,2),(8,4)],15),(11,[(3,0)],0),(12,[(10,6)],32),(13,[(2,0)],0),(14,[(12,8)],159),(15,[(11,7),(13,9)],511),(16,[(9,5),(14,10)],1023),(17,[(2,0)],0),(18,[(16,12)],4095),(19,[(3,0)],0),(20,[(18,14)],16383),(21,[(17,13),(19,15)],32767),(22,[(15,11),(20,16)],65535),(0,[(4,0),(21,17)],131071)],4194272)|_,_=>([],0)
 call:=λg args=>match g with|157=>z74.pack args|156=>z54.pack args|24=>z31.pack args|130=>z73.pack args|164=>z40.pack args|163=>z70.pack args|_=>none
def z151.dec:V->Option ((List Int)×Bool×(List Int))
 |(.agg [(.ints _ .u64 x0),(.bool x1),(.ints _ .u64 x2)])=>some (x0,x1,x2)
 |_=>none
theorem z151.link (a0:List Int) (a1:Bool) (a2 a3:List Int) (a4:Bool) (a5:List Int):z151.C.evTop 78 (ifun Tryz.f78) [(.agg [(.ints false .u64 a0),(.bool a1),(.ints false .u64 a2)]),(.agg [(.ints false .u64 a3),(.bool a4),(.ints false .u64 a5)])] z151.dec=z151.F a0 a1 a2 a3 a4 a5:=by kernel_rfl
def z161.l0sh:Env×Store:=((.int .i64 0)::un 4 ((.ptr 0 0)::(.ptr 1 0)::(.ptr 2 0)::un 8 ((.recs false 8 [])::(.int .i64 0)::(.int .i64 0)::un 41 [])),[(.cells 41 [(.int .i64 0),(.int .i64 0),(.int .i64 0)]),(.cells 68 [(.ints false .u64 []),(.bool false),(.ints false .u64 [])]),(.cells 68 [(.ints false .u64 []),(.bool false),(.ints false .u64 [])])])
def z161.l0out0 (a:Int) (c:List (List V)) (d e g h j:Int) (k:List Int) (m:Bool) (n p:List Int) (q:Bool) (r:List Int) (o:Int×(List Int)×Bool×(List Int)):X×Env×Store:=((.exit 0),Qb z161.l0sh [.i a,.lr c,.i d,.i o.1,.i g,.i h,.i j,.li k,.b m,.li n,.li o.2.1,.b o.2.2.1,.li o.2.2.2])
def z161.l0pack:List Leaf->Option LPack
 |[.i a,.lr c,.i d,.i e,.i g,.i h,.i j,.li k,.b m,.li n,.li o,.b p,.li q]=>some (.one _ (z161.l0 a c d g h j (e,o,p,q)) (z161.l0out0 a c d e g h j k m n o p q))
 |_=>none
def z161.C:Ctx where
 T:=tab
 draws:=λf i=>match f,i with|151,8=>([(41,[(0,0)],0),(42,[(9,0)],0),(43,[(41,2)],2),(44,[(9,0)],0),(45,[(43,4)],8),(46,[(5,0)],0),(47,[(44,5),(45,6)],56),(48,[(40,1),(42,3),(46,7)],127),(40,[(47,8)],255),(49,[(39,9)],511),(50,[(39,9)],511),(15,[],0),(0,[(14,12),(48,10)],3071),(16,[(49,11)],8191)],1125350151077888)|151,9=>([(51,[(7,0)],0),(52,[(10,0)],0),(53,[(51,2)],2),(54,[(12,0)],0),(55,[(52,3),(53,4)],14),(56,[(14,0)],0),(57,[(54,5),(55,6)],62),(58,[(50,1),(56,7)],127),(0,[(7,0),(57,8)],255)],287104476244869120)|_,_=>([],0)
 call:=λg args=>match g with|57=>z96.pack args|36=>z46.pack args|38=>z76.pack args|218=>z160.pack args|165=>z159.pack args|68=>z47.pack args|89=>z152.pack args|78=>z151.pack args|_=>none
 keep:=λf i=>match f,i with|151,0=>([0,5,6,7,16,17,18],[0,1,2],[])|_,_=>([],[],[])
 keepE:=λf i=>match f,i with|151,0=>([0,5,6,7,16,17,18],[0,1,2],[])|_,_=>([],[],[])
 keepR:=λf i=>match f,i with|151,0=>([6],[0,1,2],[6])|_,_=>([],[],[])
 L:=λf i b st=>match f,i,b with|151,0,0=>(matchSt z161.l0sh st).bind z161.l0pack|_,_,_=>none
def z161.dec:V->Option ((List Int)×Bool×(List Int))
 |(.agg [(.ints _ .u64 x0),(.bool x1),(.ints _ .u64 x2)])=>some (x0,x1,x2)
 |_=>none
theorem z161.l0_link (R:Type) (k:Env×Store->Option R) (d:X×Env×Store->Option R) (a:Int) (c:List (List V)) (e g h j m:Int) (n:List Int) (p:Bool) (q r:List Int) (s:Bool) (t:List Int) :
  z161.C.loopP 151 0 (Qf 0 (ifun Tryz.f151).body) 3 k d (Qb z161.l0sh [.i a,.lr c,.i e,.i g,.i h,.i j,.i m,.li n,.b p,.li q,.li r,.b s,.li t]) =
  z161.l0P a c e h j m (λx'=>k (Qb z161.l0sh [.i a,.lr c,.i e,.i x'.1,.i h,.i j,.i m,.li n,.b p,.li q,.li x'.2.1,.b x'.2.2.1,.li x'.2.2.2])) (λo=>d (z161.l0out0 a c e g h j m n p q r s t o)) (g,r,s,t):=by kernel_rfl
theorem z161.link (a0:Int) (a1:List (List V)) (a2 a3 a4:Int):z161.C.evTop 151 (ifun Tryz.f151) [(.int .i64 a0),(.recs false 8 a1),(.agg [(.int .i64 a2),(.int .i64 a3),(.int .i64 a4)])] z161.dec=z161.F a0 a1 a2 a3 a4:=by kernel_rfl
def z172.C:Ctx where
 T:=tab
 call:=λg args=>match g with|66=>z171.pack args|150=>z150.pack args|_=>none
def z172.dec:V->Option ((List Int)×Bool×Int)
 |(.tup [(.agg [(.ints _ .u64 x0),(.bool x1)]),(.int .i64 x2)])=>some (x0,x1,x2)
 |_=>none
theorem z172.link (a0 a1:Int) (a2:List (List V)) (a3 a4 a5:Int):z172.C.evTop 73 (ifun Tryz.f73) [(.int .i64 a0),(.int .i64 a1),(.recs false 8 a2),(.agg [(.int .i64 a3),(.int .i64 a4),(.int .i64 a5)])] z172.dec=z172.F a0 a1 a2 a3 a4 a5:=by kernel_rfl
def z175.C:Ctx where
 T:=tab
 draws:=λf i=>match f,i with|67,1=>([(6,[(2,0)],0),(7,[(5,1)],1),(8,[(3,0)],0),(9,[(7,3)],4),(10,[(6,2),(8,4)],15),(11,[(3,0)],0),(12,[(10,6)],32),(13,[(2,0)],0),(14,[(12,8)],159),(15,[(11,7),(13,9)],511),(16,[(9,5),(14,10)],1023),(5,[(15,11)],2047)],65520)|_,_=>([],0)
 call:=λg args=>match g with|157=>z74.pack args|156=>z54.pack args|74=>z34.pack args|_=>none
def z175.dec:V->Option (Int)
 |(.int .i64 x0)=>some x0
 |_=>none
theorem z175.link (a0:List Int) (a1:Bool) (a2 a3:List Int) (a4:Bool) (a5:List Int):z175.C.evTop 67 (ifun Tryz.f67) [(.agg [(.ints false .u64 a0),(.bool a1),(.ints false .u64 a2)]),(.agg [(.ints false .u64 a3),(.bool a4),(.ints false .u64 a5)])] z175.dec=z175.F a0 a1 a2 a3 a4 a5:=by kernel_rfl
def z184.l2sh:Env×Store:=(.undef::(.ptr 2 0)::(.sref 3 0)::(.sref 4 0)::(.ptr 5 0)::(.int .i64 0)::(.ptr 6 0)::(.int .i64 0)::un 15 ((.int .i64 0)::(.bool false)::un 64 []),[(.cells 124 [(.int .i64 0),(.int .i64 0),(.int .i64 0),(.ints false .u8 []),(.ints false .u32 []),(.ints false .u16 [])]),(.cells 152 [(.int .u8 0),(.int .u8 0)]),(.cells 124 [(.int .i64 0),(.int .i64 0),(.int .i64 0),(.ints false .u8 []),(.ints false .u32 []),(.ints false .u16 [])]),(.arr 0 true 130 (.recs false 8 [])),(.arr 0 true 130 (.recs false 8 [])),(.cells 41 [(.int .i64 0),(.int .i64 0),(.int .i64 0)]),(.cells 41 [(.int .i64 0),(.int .i64 0),(.int .i64 0)])])
def z184.l2out0 (a c d:Int) (e:Bool) (g h j:Int) (k m n:List Int) (p q r s t:Int) (u v w:List Int) (x y:List (List V)) (z A B C D E:Int) (o:Int×Int×Int×Int):X×Env×Store:=((.exit 2),Qb z184.l2sh [.i a,.i o.1,.i d,.b e,.i g,.i h,.i j,.li k,.li m,.li n,.i p,.i q,.i r,.i s,.i t,.li u,.li v,.li w,.lr x,.lr y,.i z,.i A,.i B,.i o.2.1,.i o.2.2.1,.i o.2.2.2])
def z184.l2pack:List Leaf->Option LPack
 |[.i a,.i c,.i d,.b e,.i g,.i h,.i j,.li k,.li m,.li n,.i o,.i p,.i q,.i r,.i s,.li t,.li u,.li v,.lr w,.lr x,.i y,.i z,.i A,.i B,.i C,.i D]=>some (.one _ (z184.l2 a t (c,B,C,D)) (z184.l2out0 a c d e g h j k m n o p q r s t u v w x y z A B C D))
 |_=>none
def z184.l0aash:Env×Store:=(.undef::(.ptr 2 0)::(.sref 3 0)::(.sref 4 0)::(.ptr 5 0)::(.int .i64 0)::un 83 [],[(.cells 124 [(.int .i64 0),(.int .i64 0),(.int .i64 0),(.ints false .u8 []),(.ints false .u32 []),(.ints false .u16 [])]),(.cells 152 [(.int .u8 0),(.int .u8 0)]),(.cells 124 [(.int .i64 0),(.int .i64 0),(.int .i64 0),(.ints false .u8 []),(.ints false .u32 []),(.ints false .u16 [])]),(.arr 0 true 130 (.recs false 8 [])),(.arr 0 true 130 (.recs false 8 [])),(.cells 41 [(.int .i64 0),(.int .i64 0),(.int .i64 0)])])
def z184.l0aaout0 (a b c d:Int) (e g h:List Int) (j k m n p:Int) (q r s:List Int) (t u:List (List V)) (v w x:Int) (o:Int×(List (List V))×Int×Int×Int):X×Env×Store:=((.exit 0),Qb z184.l0aash [.i o.1,.i b,.i c,.i d,.li e,.li g,.li h,.i j,.i k,.i m,.i n,.i p,.li q,.li r,.li s,.lr t,.lr o.2.1,.i o.2.2.1,.i o.2.2.2.1,.i o.2.2.2.2])
def z184.l0aapack:List Leaf->Option LPack
 |[.i a,.i b,.i c,.i d,.li e,.li g,.li h,.i j,.i k,.i m,.i n,.i o,.li p,.li q,.li r,.lr s,.lr t,.i u,.i v,.i w]=>some (.one _ (z184.l0aa p q r (a,t,u,v,w)) (z184.l0aaout0 a b c d e g h j k m n o p q r s t u v w))
 |_=>none
def z184.l0b3sh:Env×Store:=(un 3 ((.ptr 1 0)::(.bool false)::(.sref 4 0)::(.sref 6 0)::(.sref 7 0)::un 32 ((.int .i64 0)::(.int .i64 0)::un 151 [])),[.dead,(.cells 152 [(.int .u8 0),(.int .u8 0)]),.dead,.dead,(.arr 0 true 130 (.recs false 8 [])),.dead,(.arr 0 true 130 (.recs false 8 [])),(.arr 0 true 130 (.recs false 8 []))])
def z184.l0b3out0 (a:Bool) (c d e g:Int) (h j k:List (List V)) (o:Int×(List (List V))×(List (List V))×(List (List V))):X×Env×Store:=((.exit 0),Qb z184.l0b3sh [.b a,.i c,.i o.1,.i e,.i g,.lr o.2.1,.lr o.2.2.1,.lr o.2.2.2])
def z184.l0b3pack:List Leaf->Option LPack
 |[.b a,.i c,.i d,.i e,.i g,.lr h,.lr j,.lr k]=>some (.one _ (z184.l0b3 c (d,h,j,k)) (z184.l0b3out0 a c d e g h j k))
 |_=>none
def z184.l2ash:Env×Store:=(un 4 ((.bool false)::(.sref 4 0)::(.sref 6 0)::(.sref 7 0)::un 8 ((.ptr 8 0) :: .undef::(.ptr 9 0)::un 98 ((.int .i64 0)::un 75 []))),[.dead,.dead,.dead,.dead,(.imm 0 (.recs false 8 [])),.dead,(.imm 0 (.recs false 8 [])),(.imm 0 (.recs false 8 [])),(.cells 41 [(.int .i64 0),(.int .i64 0),(.int .i64 0)]),(.cells 41 [(.int .i64 0),(.int .i64 0),(.int .i64 0)]),.dead,.dead,.dead,.dead])
def z184.l2aso1:Env×Store:=(un 4 ((.bool false)::un 188 []),[.dead,.dead,.dead,.dead,(.imm 0 (.recs false 8 [])),.dead,(.imm 0 (.recs false 8 [])),(.imm 0 (.recs false 8 [])),(.cells 41 [(.int .i64 0),(.int .i64 0),(.int .i64 0)]),(.cells 41 [(.int .i64 0),(.int .i64 0),(.int .i64 0)]),.dead,.dead,.dead,.dead])
def z184.l2aout0 (a:Bool) (c:Int) (d e g:List (List V)) (h j k m n p o:Int):X×Env×Store:=((.exit 2),Qb z184.l2ash [.b a,.i o,.lr d,.lr e,.lr g,.i h,.i j,.i k,.i m,.i n,.i p])
def z184.l2aout1 (a:Bool) (c:Int) (d e g:List (List V)) (h j k m n p:Int) (o:Bool):X×Env×Store:=(.ret,Qb z184.l2aso1 [.b o,.lr d,.lr e,.lr g,.i h,.i j,.i k,.i m,.i n,.i p])
def z184.l2apack:List Leaf->Option LPack
 |[.b a,.i c,.lr d,.lr e,.lr g,.i h,.i j,.i k,.i m,.i n,.i o]=>some (.two _ _ (z184.l2a d e g h j k m n o c) (z184.l2aout0 a c d e g h j k m n o) (z184.l2aout1 a c d e g h j k m n o))
 |_=>none
def z184.C:Ctx where
 T:=tab
 draws:=λf i=>match f,i with|17,10=>([(64,[(11,0)],0),(65,[],0),(66,[(63,1),(64,2)],3),(63,[(65,3)],7),(67,[(62,4)],15),(68,[(62,4)],15),(69,[(62,4)],15),(14,[],0),(15,[],0),(0,[(13,8),(66,5)],415),(0,[(14,9),(67,6)],959),(16,[(68,7)],2047)],585684124340278321152)|17,11=>([(70,[(5,0)],0),(71,[(8,0)],0),(72,[(7,0)],0),(73,[(8,0)],0),(74,[(13,0)],0),(75,[(73,5)],16),(76,[(13,0)],0),(77,[(75,7)],112),(78,[(69,1),(70,2)],243),(79,[(77,9)],499),(0,[(78,10),(74,6)],1011),(80,[(71,3),(72,4)],2047),(81,[(79,12)],4095),(0,[(80,13),(76,8)],8191)],2417261343418899643760640)|17,15=>([(100,[(5,0)],0),(101,[(99,1)],1),(102,[(100,2)],3),(103,[(101,3)],7),(104,[(3,0)],0),(105,[(103,5)],16),(106,[(104,6)],48),(107,[(102,4),(105,7)],127),(99,[(106,8)],255),(108,[(98,9)],511),(109,[(98,9)],511),(17,[],0),(0,[(16,12),(107,10)],3071),(18,[(108,11)],8191)],648720194666796396215937865547776)|17,24=>([(149,[(22,0)],0),(150,[(148,1)],1),(151,[(149,2)],3),(152,[(24,0),(150,3)],7),(153,[(151,4),(150,3)],15),(154,[(150,3),(152,5)],31),(155,[(153,6)],63),(156,[(26,0),(154,7)],127),(157,[(155,8),(154,7)],255),(158,[(154,7),(156,9)],511),(159,[(157,10)],1023),(160,[(28,0),(158,11)],2047),(161,[(159,12),(158,11)],4095),(162,[(158,11),(160,13)],8191),(163,[(161,14)],16383),(164,[(21,0),(162,15)],32767),(165,[(21,0),(162,15)],32767),(166,[(163,16),(164,17),(162,15)],131071),(167,[(23,0),(162,15)],32767),(168,[(165,18),(166,19),(162,15)],524287),(169,[(167,20),(162,15)],1048575),(170,[(162,15),(168,21)],2097151),(171,[(169,22)],4194303),(172,[(23,0),(170,23)],8388607),(173,[(25,0),(170,23)],8388607),(174,[(171,24),(172,25),(170,23)],33554431),(175,[(173,26),(170,23)],67108863),(176,[(170,23),(174,27)],134217727),(177,[(175,28)],268435455),(178,[(21,0),(176,29)],536870911),(179,[(177,30),(176,29)],1073741823),(180,[(178,31),(176,29)],2147483647),(181,[(176,29),(179,32)],4294967295),(182,[(180,33)],8589934591),(183,[(20,0),(181,34)],17179869183),(184,[(182,35),(181,34)],34359738367),(185,[(183,36),(181,34)],68719476735),(186,[(27,0),(184,37)],137438953471),(187,[(21,0),(184,37)],137438953471),(188,[(185,38),(186,39),(184,37)],549755813887),(189,[(187,40),(184,37)],1099511627775),(190,[(184,37),(188,41),(181,34)],2199023255551),(191,[(181,34),(189,42)],4398046511103)],3138550867692983569994718221633568636558815348447921569792)|_,_=>([],0)
 call:=λg args=>match g with|95=>z12.pack args|61=>z143.pack args|60=>z9.pack args|26=>z6.pack args|64=>z173.pack args|76=>z42.pack args|69=>z48.pack args|77=>z183.pack args|25=>z135.pack args|24=>z31.pack args|54=>z100.pack args|66=>z171.pack args|78=>z151.pack args|67=>z175.pack args|71=>z147.pack args|_=>none
 inl:=λg=>match g with|58=>some (ifun Tryz.f58)|_=>none
 keep:=λf i=>match f,i with|58,2=>([1,2,3,4,5,6,7,23,24],List.range 64,[])|58,0=>([1,2,3,4,5],List.range 64,[])|17,0=>([3,4,5,6,7,40,41],[1,4,6,7],[])|17,2=>([4,5,6,7,16,18,117],[4,6,7,8,9],[])|_,_=>([],[],[])
 keepE:=λf i=>match f,i with|58,2=>([1,2,3,4,5,6,7,23,24],List.range 64,[])|58,0=>([1,2,3,4,5],List.range 64,[])|17,0=>([3,4,5,6,7,40,41],[1,4,6,7],[])|17,2=>([4,5,6,7,16,18,117],[4,6,7,8,9],[])|_,_=>([],[],[])
 keepR:=λf i=>match f,i with|58,2=>([2],List.range 64,[])|58,0=>([2],List.range 64,[])|17,0=>([4],[1,4,6,7],[4])|17,2=>([4],[4,6,7,8,9],[4])|_,_=>([],[],[])
 unroll:=λf i=>match f,i with|17,2=>1|_,_=>0
 L:=λf i b st=>match f,i,b with|58,2,2=>(matchSt z184.l2sh st).bind z184.l2pack|58,0,2=>(matchSt z184.l0aash st).bind z184.l0aapack|17,0,0=>(matchSt z184.l0b3sh st).bind z184.l0b3pack|17,2,0=>(matchSt z184.l2ash st).bind z184.l2apack|_,_,_=>none
def z184.dec:V->Option (Bool)
 |(.bool x0)=>some x0
 |_=>none
theorem z184.l2_link (R:Type) (k:Env×Store->Option R) (d:X×Env×Store->Option R) (a c e:Int) (g:Bool) (h j m:Int) (n p q:List Int) (r s t u v:Int) (w x y:List Int) (z A:List (List V)) (B D E G H I:Int) :
  z184.C.loopPI (z184.C.inlK 0) 58 2 2 (Qf 2 (ifun Tryz.f58).body) 7 k d (Qb z184.l2sh [.i a,.i c,.i e,.b g,.i h,.i j,.i m,.li n,.li p,.li q,.i r,.i s,.i t,.i u,.i v,.li w,.li x,.li y,.lr z,.lr A,.i B,.i D,.i E,.i G,.i H,.i I]) =
  z184.l2P a w (λx'=>k (Qb z184.l2sh [.i a,.i x'.1,.i e,.b g,.i h,.i j,.i m,.li n,.li p,.li q,.i r,.i s,.i t,.i u,.i v,.li w,.li x,.li y,.lr z,.lr A,.i B,.i D,.i E,.i x'.2.1,.i x'.2.2.1,.i x'.2.2.2])) (λo=>d (z184.l2out0 a c e g h j m n p q r s t u v w x y z A B D E G H I o)) (c,G,H,I):=by kernel_rfl
theorem z184.l0aa_link (R:Type) (k:Env×Store->Option R) (d:X×Env×Store->Option R) (a b c e:Int) (g h j:List Int) (m n p q r:Int) (s t u:List Int) (v w:List (List V)) (x y z:Int) :
  z184.C.loopPI (z184.C.inlK 0) 58 0 2 (Qf 0 (ifun Tryz.f58).body) 6 k d (Qb z184.l0aash [.i a,.i b,.i c,.i e,.li g,.li h,.li j,.i m,.i n,.i p,.i q,.i r,.li s,.li t,.li u,.lr v,.lr w,.i x,.i y,.i z]) =
  z184.l0aaP s t u (λx'=>k (Qb z184.l0aash [.i x'.1,.i b,.i c,.i e,.li g,.li h,.li j,.i m,.i n,.i p,.i q,.i r,.li s,.li t,.li u,.lr v,.lr x'.2.1,.i x'.2.2.1,.i x'.2.2.2.1,.i x'.2.2.2.2])) (λo=>d (z184.l0aaout0 a b c e g h j m n p q r s t u v w x y z o)) (a,w,x,y,z):=by kernel_rfl
theorem z184.l0b3_link (R:Type) (k:Env×Store->Option R) (d:X×Env×Store->Option R) (a:Bool) (c e g h:Int) (j m n:List (List V)) :
  z184.C.loopP 17 0 (Qf 0 (ifun Tryz.f17).body) 8 k d (Qb z184.l0b3sh [.b a,.i c,.i e,.i g,.i h,.lr j,.lr m,.lr n]) =
  z184.l0b3P c (λx'=>k (Qb z184.l0b3sh [.b a,.i c,.i x'.1,.i g,.i h,.lr x'.2.1,.lr x'.2.2.1,.lr x'.2.2.2])) (λo=>d (z184.l0b3out0 a c e g h j m n o)) (e,j,m,n):=by kernel_rfl
theorem z184.l2a_link (R:Type) (k:Env×Store->Option R) (d:X×Env×Store->Option R) (a:Bool) (c:Int) (e g h:List (List V)) (j m n p q r:Int) :
  z184.C.loopP 17 2 (Qf 2 (ifun Tryz.f17).body) 14 k d (Qb z184.l2ash [.b a,.i c,.lr e,.lr g,.lr h,.i j,.i m,.i n,.i p,.i q,.i r]) =
  z184.l2aP e g h j m n p q r (λx'=>k (Qb z184.l2ash [.b a,.i x',.lr e,.lr g,.lr h,.i j,.i m,.i n,.i p,.i q,.i r])) (λo=>match o with | .inl o=>d (z184.l2aout0 a c e g h j m n p q r o) | .inr o=>d (z184.l2aout1 a c e g h j m n p q r o)) c:=by kernel_rfl
theorem z184.link (a0 a1 a2:Int) (a3 a4 a5:List Int) (a6 a7:Int):z184.C.evTop 17 (ifun Tryz.f17) [(.agg [(.int .i64 a0),(.int .i64 a1),(.int .i64 a2),(.ints false .u8 a3),(.ints false .u32 a4),(.ints false .u16 a5)]),(.agg [(.int .u8 a6),(.int .u8 a7)])] z184.dec=z184.F a0 a1 a2 a3 a4 a5 a6 a7:=by kernel_rfl
end
noncomputable section
def z5.l2sh:Env×Store:=((.ints false .i64 []) :: .undef::(.str ([]:List UInt8))::(.str ([]:List UInt8))::(.int .i64 0)::(.int .i64 0)::(.int .i64 0)::un 37 [],[])
def z5.l2out0 (a:List Int) (b c:List UInt8) (d e g:Int) (o:(List UInt8)×Int×Int):X×Env×Store:=((.exit 2),Qb z5.l2sh [.li a,.s b,.s o.1,.i d,.i o.2.1,.i o.2.2])
def z5.l2pack:List Leaf->Option LPack
 |[.li a,.s b,.s c,.i d,.i e,.i g]=>some (.one _ (z5.l2 (c,e,g)) (z5.l2out0 a b c d e g))
 |_=>none
def z5.l0sh:Env×Store:=((.ints false .i64 []) :: .undef::(.str ([]:List UInt8))::(.str ([]:List UInt8))::(.int .i64 0)::un 39 [],[])
def z5.l0out0 (a:List Int) (b c:List UInt8) (d:Int) (o:(List UInt8)×Int):X×Env×Store:=((.exit 0),Qb z5.l0sh [.li a,.s b,.s o.1,.i o.2])
def z5.l0pack:List Leaf->Option LPack
 |[.li a,.s b,.s c,.i d]=>some (.one _ (z5.l0 a (c,d)) (z5.l0out0 a b c d))
 |_=>none
def z5.l4sh:Env×Store:=(.undef :: .undef::(.str ([]:List UInt8))::(.str ([]:List UInt8))::un 3 ((.int .i64 0)::un 36 []),[])
def z5.l4out0 (a b:List UInt8) (c o:Int):X×Env×Store:=((.exit 4),Qb z5.l4sh [.s a,.s b,.i o])
def z5.l4pack:List Leaf->Option LPack
 |[.s a,.s b,.i c]=>some (.one _ (z5.l4 b c) (z5.l4out0 a b c))
 |_=>none
def z5.C:Ctx where
 T:=tab
 keep:=λf i=>match f,i with|102,2=>([0,2,3,4,5,6],[],[])|102,0=>([0,2,3,4],[],[])|102,4=>([2,3,7],[],[])|_,_=>([],[],[])
 keepE:=λf i=>match f,i with|102,2=>([0,2,3,4,5,6],[],[])|102,0=>([0,2,3,4],[],[])|102,4=>([2,3,7],[],[])|_,_=>([],[],[])
 keepR:=λf i=>match f,i with|102,2=>([2],[],[2])|102,0=>([2],[],[2])|102,4=>([2],[],[2])|_,_=>([],[],[])
 L:=λf i b st=>match f,i,b with|102,2,0=>(matchSt z5.l2sh st).bind z5.l2pack|102,0,0=>(matchSt z5.l0sh st).bind z5.l0pack|102,4,0=>(matchSt z5.l4sh st).bind z5.l4pack|_,_,_=>none
def z5.dec:V->Option ((List UInt8))
 |(.str x0)=>some x0
 |_=>none
theorem z5.l2_link (R:Type) (k:Env×Store->Option R) (d:X×Env×Store->Option R) (a:List Int) (b c:List UInt8) (e g h:Int) :
  z5.C.loopP 102 2 (Qf 2 (ifun Tryz.f102).body) 0 k d (Qb z5.l2sh [.li a,.s b,.s c,.i e,.i g,.i h]) =
  z5.l2P (λx'=>k (Qb z5.l2sh [.li a,.s b,.s x'.1,.i e,.i x'.2.1,.i x'.2.2])) (λo=>d (z5.l2out0 a b c e g h o)) (c,g,h):=by kernel_rfl
theorem z5.l0_link (R:Type) (k:Env×Store->Option R) (d:X×Env×Store->Option R) (a:List Int) (b c:List UInt8) (e:Int) :
  z5.C.loopP 102 0 (Qf 0 (ifun Tryz.f102).body) 0 k d (Qb z5.l0sh [.li a,.s b,.s c,.i e]) =
  z5.l0P a (λx'=>k (Qb z5.l0sh [.li a,.s b,.s x'.1,.i x'.2])) (λo=>d (z5.l0out0 a b c e o)) (c,e):=by kernel_rfl
theorem z5.l4_link (R:Type) (k:Env×Store->Option R) (d:X×Env×Store->Option R) (a b:List UInt8) (c:Int) :
  z5.C.loopP 102 4 (Qf 4 (ifun Tryz.f102).body) 0 k d (Qb z5.l4sh [.s a,.s b,.i c]) =
  z5.l4P b (λx'=>k (Qb z5.l4sh [.s a,.s b,.i x'])) (λo=>d (z5.l4out0 a b c o)) c:=by kernel_rfl
theorem z5.link (a0:List Int):z5.C.evTop 102 (ifun Tryz.f102) [(.ints false .i64 a0)] z5.dec=z5.F a0:=by kernel_rfl
def z8.l0sh:Env×Store:=((.int .i64 0) :: .undef::(.sref 0 0)::(.sref 1 0)::un 10 [],[(.arr 0 true 3 (.ints false .i64 [])),(.arr 0 true 3 (.ints false .i64 []))])
def z8.l0out0 (a:Int) (b c:List Int) (o:Int×(List Int)):X×Env×Store:=((.exit 0),Qb z8.l0sh [.i o.1,.li b,.li o.2])
def z8.l0pack:List Leaf->Option LPack
 |[.i a,.li b,.li c]=>some (.one _ (z8.l0 (a,c)) (z8.l0out0 a b c))
 |_=>none
def z8.C:Ctx where
 T:=tab
 keep:=λf i=>match f,i with|152,0=>([0,2,3],[0,1],[])|_,_=>([],[],[])
 keepE:=λf i=>match f,i with|152,0=>([0,2,3],[0,1],[])|_,_=>([],[],[])
 keepR:=λf i=>match f,i with|152,0=>([2],[0,1],[2])|_,_=>([],[],[])
 L:=λf i b st=>match f,i,b with|152,0,0=>(matchSt z8.l0sh st).bind z8.l0pack|_,_,_=>none
def z8.dec:V->Option ((List Int))
 |(.ints _ .i64 x0)=>some x0
 |_=>none
theorem z8.l0_link (R:Type) (k:Env×Store->Option R) (d:X×Env×Store->Option R) (a:Int) (b c:List Int) :
  z8.C.loopP 152 0 (Qf 0 (ifun Tryz.f152).body) 2 k d (Qb z8.l0sh [.i a,.li b,.li c]) =
  z8.l0P (λx'=>k (Qb z8.l0sh [.i x'.1,.li b,.li x'.2])) (λo=>d (z8.l0out0 a b c o)) (a,c):=by kernel_rfl
theorem z8.link (a0:Int):z8.C.evTop 152 (ifun Tryz.f152) [(.int .i64 a0)] z8.dec=z8.F a0:=by kernel_rfl
def z11.C:Ctx where
 T:=tab
 call:=λg args=>match g with|219=>z10.pack args|_=>none
def z11.dec:V->Option (Int)
 |(.int .i64 x0)=>some x0
 |_=>none
theorem z11.link (a0 a1:Int):z11.C.evTop 153 (ifun Tryz.f153) [(.int .i64 a0),(.int .i64 a1)] z11.dec=z11.F a0 a1:=by kernel_rfl
def z97.C:Ctx where
 T:=tab
def z97.dec:V->Option (Int)
 |(.int .i64 x0)=>some x0
 |_=>none
theorem z97.link (a0:Int):z97.C.evTop 211 (ifun Tryz.f211) [(.int .i64 a0)] z97.dec=z97.F a0:=by kernel_rfl
def z100.C:Ctx where
 T:=tab
 call:=λg args=>match g with|140=>z98.pack args|141=>z99.pack args|_=>none
def z100.dec:V->Option (Int×Int×Int×Int)
 |(.tup [(.agg [(.int .i64 x0),(.int .i64 x1),(.int .i64 x2)]),(.int .i64 x3)])=>some (x0,x1,x2,x3)
 |_=>none
theorem z100.link (a0 a1 a2 a3:Int):z100.C.evTop 54 (ifun Tryz.f54) [(.agg [(.int .i64 a0),(.int .i64 a1),(.int .i64 a2)]),(.int .i64 a3)] z100.dec=z100.F a0 a1 a2 a3:=by kernel_rfl
def z152.C:Ctx where
 T:=tab
 draws:=λf i=>match f,i with|89,1=>([(6,[(2,0)],0),(7,[(5,1)],1),(8,[(3,0)],0),(9,[(7,3)],4),(10,[(6,2),(8,4)],15),(11,[(2,0)],0),(12,[(10,6)],63),(13,[(3,0)],0),(14,[(12,8)],255),(15,[(11,7),(13,9)],511),(16,[(9,5),(14,10)],1023),(0,[(4,0),(15,11)],2047)],65504)|_,_=>([],0)
 call:=λg args=>match g with|156=>z54.pack args|130=>z73.pack args|164=>z40.pack args|163=>z70.pack args|_=>none
def z152.dec:V->Option ((List Int)×Bool×(List Int))
 |(.agg [(.ints _ .u64 x0),(.bool x1),(.ints _ .u64 x2)])=>some (x0,x1,x2)
 |_=>none
theorem z152.link (a0:List Int) (a1:Bool) (a2 a3:List Int) (a4:Bool) (a5:List Int):z152.C.evTop 89 (ifun Tryz.f89) [(.agg [(.ints false .u64 a0),(.bool a1),(.ints false .u64 a2)]),(.agg [(.ints false .u64 a3),(.bool a4),(.ints false .u64 a5)])] z152.dec=z152.F a0 a1 a2 a3 a4 a5:=by kernel_rfl
def z154.C:Ctx where
 T:=tab
 call:=λg args=>match g with|230=>z153.pack args|_=>none
def z154.dec:V->Option ((List Int)×Bool×(List Int))
 |(.agg [(.ints _ .u64 x0),(.bool x1),(.ints _ .u64 x2)])=>some (x0,x1,x2)
 |_=>none
theorem z154.link (a0 a1 a2 a3 a4 a5:Int):z154.C.evTop 229 (ifun Tryz.f229) [(.agg [(.int .i64 a0),(.int .i64 a1),(.int .i64 a2)]),(.agg [(.int .i64 a3),(.int .i64 a4),(.int .i64 a5)])] z154.dec=z154.F a0 a1 a2 a3 a4 a5:=by kernel_rfl
def z156.C:Ctx where
 T:=tab
 call:=λg args=>match g with|65=>z155.pack args|_=>none
def z156.dec:V->Option (Int)
 |(.int .i64 x0)=>some x0
 |_=>none
theorem z156.link (a0 a1 a2 a3 a4 a5:Int):z156.C.evTop 231 (ifun Tryz.f231) [(.agg [(.int .i64 a0),(.int .i64 a1),(.int .i64 a2)]),(.agg [(.int .i64 a3),(.int .i64 a4),(.int .i64 a5)])] z156.dec=z156.F a0 a1 a2 a3 a4 a5:=by kernel_rfl
def z157.C:Ctx where
 T:=tab
 call:=λg args=>match g with|259=>z87.pack args|_=>none
def z157.dec:V->Option (Int)
 |(.int .i64 x0)=>some x0
 |_=>none
theorem z157.link (a0:Int):z157.C.evTop 269 (ifun Tryz.f269) [(.int .i64 a0)] z157.dec=z157.F a0:=by kernel_rfl
def z158.C:Ctx where
 T:=tab
 draws:=λf i=>match f,i with|232,2=>([(13,[(2,0)],0),(14,[(3,0)],0),(15,[(12,1),(13,2)],3),(16,[(2,0)],0),(17,[(15,4)],8),(18,[(16,5)],31),(19,[(14,3),(17,6)],63),(0,[(4,0),(18,7)],127)],520192)|232,5=>([(31,[(5,0)],0),(32,[(2,0)],0),(33,[(31,2)],2),(34,[(32,3)],6),(35,[(30,1),(33,4)],15),(36,[(3,0)],0),(37,[(35,6)],32),(38,[(2,0)],0),(39,[(37,8)],128),(40,[(36,7),(38,9)],480),(41,[(39,10)],992),(42,[(40,11)],2047),(43,[(34,5),(41,12)],4095),(44,[(6,0)],0),(45,[(3,0)],0),(46,[(44,15)],16384),(47,[(45,16)],57343),(48,[(43,14),(46,17)],131071),(49,[(42,13),(47,18)],262143),(0,[(4,0),(48,19)],524287)],562948879679488)|_,_=>([],0)
 call:=λg args=>match g with|231=>z156.pack args|269=>z157.pack args|230=>z153.pack args|78=>z151.pack args|_=>none
def z158.dec:V->Option ((List Int)×Bool×(List Int))
 |(.agg [(.ints _ .u64 x0),(.bool x1),(.ints _ .u64 x2)])=>some (x0,x1,x2)
 |_=>none
theorem z158.link (a0 a1 a2 a3 a4 a5:Int):z158.C.evTop 232 (ifun Tryz.f232) [(.agg [(.int .i64 a0),(.int .i64 a1),(.int .i64 a2)]),(.agg [(.int .i64 a3),(.int .i64 a4),(.int .i64 a5)])] z158.dec=z158.F a0 a1 a2 a3 a4 a5:=by kernel_rfl
def z160.C:Ctx where
 T:=tab
 call:=λg args=>match g with|57=>z96.pack args|_=>none
def z160.dec:V->Option (Int×Int×Int)
 |(.agg [(.int .i64 x0),(.int .i64 x1),(.int .i64 x2)])=>some (x0,x1,x2)
 |_=>none
theorem z160.link (a0 a1 a2 a3 a4 a5:Int):z160.C.evTop 218 (ifun Tryz.f218) [(.agg [(.int .i64 a0),(.int .i64 a1),(.int .i64 a2)]),(.agg [(.int .i64 a3),(.int .i64 a4),(.int .i64 a5)])] z160.dec=z160.F a0 a1 a2 a3 a4 a5:=by kernel_rfl
def z173.C:Ctx where
 T:=tab
 call:=λg args=>match g with|59=>z162.pack args|73=>z172.pack args|25=>z135.pack args|147=>z145.pack args|_=>none
def z173.dec:V->Option (Bool)
 |(.bool x0)=>some x0
 |_=>none
theorem z173.link:z173.C.evTop 64 (ifun Tryz.f64) [] z173.dec=z173.F:=by kernel_rfl
end
noncomputable section
def z7.C:Ctx where
 T:=tab
def z7.dec:V->Option ((List Int)×Bool)
 |(.agg [(.ints _ .i64 x0),(.bool x1)])=>some (x0,x1)
 |_=>none
theorem z7.link (a0:List Int) (a1:Bool):z7.C.evTop 113 (ifun Tryz.f113) [(.ints false .i64 a0),(.bool a1)] z7.dec=z7.F a0 a1:=by kernel_rfl
def z12.C:Ctx where
 T:=tab
 call:=λg args=>match g with|153=>z11.pack args|_=>none
def z12.dec:V->Option (Int×Int×Int)
 |(.agg [(.int .i64 x0),(.int .i64 x1),(.int .i64 x2)])=>some (x0,x1,x2)
 |_=>none
theorem z12.link (a0 a1 a2 a3:Int):z12.C.evTop 95 (ifun Tryz.f95) [(.agg [(.int .i64 a0),(.int .i64 a1),(.int .i64 a2)]),(.int .i64 a3)] z12.dec=z12.F a0 a1 a2 a3:=by kernel_rfl
def z155.C:Ctx where
 T:=tab
 call:=λg args=>match g with|140=>z98.pack args|_=>none
def z155.dec:V->Option (Int×Int)
 |(.tup [(.int .i64 x0),(.int .i64 x1)])=>some (x0,x1)
 |_=>none
theorem z155.link (a0 a1 a2 a3 a4 a5:Int):z155.C.evTop 65 (ifun Tryz.f65) [(.agg [(.int .i64 a0),(.int .i64 a1),(.int .i64 a2)]),(.agg [(.int .i64 a3),(.int .i64 a4),(.int .i64 a5)])] z155.dec=z155.F a0 a1 a2 a3 a4 a5:=by kernel_rfl
def z159.C:Ctx where
 T:=tab
 call:=λg args=>match g with|228=>z82.pack args|142=>z89.pack args|57=>z96.pack args|229=>z154.pack args|231=>z156.pack args|230=>z153.pack args|232=>z158.pack args|_=>none
def z159.dec:V->Option ((List Int)×Bool×(List Int)×Int)
 |(.tup [(.agg [(.ints _ .u64 x0),(.bool x1),(.ints _ .u64 x2)]),(.int .i64 x3)])=>some (x0,x1,x2,x3)
 |_=>none
theorem z159.link (a0 a1 a2 a3 a4 a5 a6:Int):z159.C.evTop 165 (ifun Tryz.f165) [(.int .i64 a0),(.agg [(.int .i64 a1),(.int .i64 a2),(.int .i64 a3)]),(.agg [(.int .i64 a4),(.int .i64 a5),(.int .i64 a6)])] z159.dec=z159.F a0 a1 a2 a3 a4 a5 a6:=by kernel_rfl
def z162.l0sh:Env×Store:=((.int .i64 0)::(.int .i64 0)::(.recs false 8 [])::un 3 ((.sref 0 0)::(.int .i64 0) :: .undef::(.sref 1 0)::(.ptr 2 0)::(.ptr 3 0)::un 54 []),[(.arr 0 true 39 (.recs false 2 [])),(.arr 0 true 39 (.recs false 2 [])),(.cells 39 [(.ints false .u64 []),(.bool false)]),(.cells 41 [(.int .i64 0),(.int .i64 0),(.int .i64 0)])])
def z162.l0out0 (a c:Int) (d:List (List V)) (e:Int) (g h:List (List V)) (j:List Int) (k:Bool) (m n p:Int) (o:(List (List V))×(List Int)×Bool×Int×Int×Int):X×Env×Store:=((.exit 0),Qb z162.l0sh [.i a,.i c,.lr d,.i e,.lr g,.lr o.1,.li o.2.1,.b o.2.2.1,.i o.2.2.2.1,.i o.2.2.2.2.1,.i o.2.2.2.2.2])
def z162.l0pack:List Leaf->Option LPack
 |[.i a,.i c,.lr d,.i e,.lr g,.lr h,.li j,.b k,.i m,.i n,.i o]=>some (.one _ (z162.l0 a c d (h,j,k,m,n,o)) (z162.l0out0 a c d e g h j k m n o))
 |_=>none
def z162.C:Ctx where
 T:=tab
 draws:=λf i=>match f,i with|59,11=>([(35,[(11,0)],0),(36,[(2,0)],0),(37,[(2,0)],0),(38,[(36,3)],4),(39,[(37,4)],12),(40,[(35,2),(38,5)],30),(41,[(39,6)],62),(42,[(40,7)],126),(43,[(34,1),(41,8)],255)],8778913153024)|_,_=>([],0)
 call:=λg args=>match g with|147=>z145.pack args|148=>z146.pack args|149=>z81.pack args|54=>z100.pack args|151=>z161.pack args|150=>z150.pack args|90=>z33.pack args|_=>none
 moves:=λf i=>match f,i with|59,0=>[(11,3)]|_,_=>[]
 keep:=λf i=>match f,i with|59,0=>([0,1,2,6,7,9,10,11],[0,1,2,3],[])|_,_=>([],[],[])
 keepE:=λf i=>match f,i with|59,0=>([0,1,2,6,7,9,10,11],[0,1,2,3],[])|_,_=>([],[],[])
 keepR:=λf i=>match f,i with|59,0=>([6,7],[0,1,2,3],[6,7])|_,_=>([],[],[])
 L:=λf i b st=>match f,i,b with|59,0,0=>(matchSt z162.l0sh st).bind z162.l0pack|_,_,_=>none
def z162.dec:V->Option ((List (List V))×Int)
 |(.tup [(.recs _ 2 x0),(.int .i64 x1)])=>some (x0,x1)
 |_=>none
theorem z162.l0_link (R:Type) (k:Env×Store->Option R) (d:X×Env×Store->Option R) (a c:Int) (e:List (List V)) (g:Int) (h j:List (List V)) (m:List Int) (n:Bool) (p q r:Int) :
  z162.C.loopP 59 0 (Qf 0 (ifun Tryz.f59).body) 4 k d (Qb z162.l0sh [.i a,.i c,.lr e,.i g,.lr h,.lr j,.li m,.b n,.i p,.i q,.i r]) =
  z162.l0P a c e (λx'=>k (Qb z162.l0sh [.i a,.i c,.lr e,.i g,.lr h,.lr x'.1,.li x'.2.1,.b x'.2.2.1,.i x'.2.2.2.1,.i x'.2.2.2.2.1,.i x'.2.2.2.2.2])) (λo=>d (z162.l0out0 a c e g h j m n p q r o)) (j,m,n,p,q,r):=by kernel_rfl
theorem z162.link (a0 a1:Int) (a2:List (List V)):z162.C.evTop 59 (ifun Tryz.f59) [(.int .i64 a0),(.int .i64 a1),(.recs false 8 a2)] z162.dec=z162.F a0 a1 a2:=by kernel_rfl
end
noncomputable section
theorem z5.l2_sound (hI:InlOK Tryz.prog z5.C λR=>z5.C.inlK 6):Qh z5.C 6 102 2 0 (Qf 2 (ifun Tryz.f102).body) z5.l2sh z5.l2pack:=by
 refine Qi λls p h=>?_
 unfold z5.l2pack at h;split at h<;>cases h
 rename_i a b c e g j
 exact Qm hI (sh:=z5.l2sh) (so:=z5.l2sh) (F:=λR rec done x=>z5.l2P rec done x) (enc:=λ(x':((List UInt8)×Int×Int))=>Qb z5.l2sh [.li a,.s b,.s x'.1,.i e,.i x'.2.1,.i x'.2.2]) [2,4,5] [2,4,5] (c,g,j) (by kernel_rfl) (by kernel_rfl) (λx=>by kernel_rfl) (λo=>by kernel_rfl) λR k d x'=>z5.l2_link R k d a b (x'.1) e (x'.2.1) (x'.2.2)
theorem z5.l0_sound (hI:InlOK Tryz.prog z5.C λR=>z5.C.inlK 6):Qh z5.C 6 102 0 0 (Qf 0 (ifun Tryz.f102).body) z5.l0sh z5.l0pack:=by
 refine Qi λls p h=>?_
 unfold z5.l0pack at h;split at h<;>cases h
 rename_i a b c e
 exact Qm hI (sh:=z5.l0sh) (so:=z5.l0sh) (F:=λR rec done x=>z5.l0P a rec done x) (enc:=λ(x':((List UInt8)×Int))=>Qb z5.l0sh [.li a,.s b,.s x'.1,.i x'.2]) [2,3] [2,3] (c,e) (by kernel_rfl) (by kernel_rfl) (λx=>by kernel_rfl) (λo=>by kernel_rfl) λR k d x'=>z5.l0_link R k d a b (x'.1) (x'.2)
theorem z5.l4_sound (hI:InlOK Tryz.prog z5.C λR=>z5.C.inlK 6):Qh z5.C 6 102 4 0 (Qf 4 (ifun Tryz.f102).body) z5.l4sh z5.l4pack:=by
 refine Qi λls p h=>?_
 unfold z5.l4pack at h;split at h<;>cases h
 rename_i a b c
 exact Qm hI (sh:=z5.l4sh) (so:=z5.l4sh) (F:=λR rec done x=>z5.l4P b rec done x) (enc:=λ(x':Int)=>Qb z5.l4sh [.s a,.s b,.i x']) [2] [2] c (by kernel_rfl) (by kernel_rfl) (λx=>by kernel_rfl) (λo=>by kernel_rfl) λR k d x'=>z5.l4_link R k d a b (x')
theorem Q1y:Qk (ifun Tryz.f102).body=true:=by kernel_rfl
theorem z5.loopsT (hI:InlOK Tryz.prog z5.C λR=>z5.C.inlK 6):LoopsOK z5.C (λR=>z5.C.inlK 6) 102 0 (ifun Tryz.f102).body:=by
 intro id b hm st p hp
 obtain rfl:=Ql Q1y hm
 unfold z5.C at hp
 simp only at hp
 try split at hp
 all_goals first
  |(simp at hp;done)
  |(exfalso;omega)
  |exact z5.l2_sound hI st p hp
  |exact z5.l0_sound hI st p hp
  |exact z5.l4_sound hI st p hp
theorem z5.sound:Sn z5.pack 102:=by
 intro vs p h;unfold z5.pack at h;split at h<;>cases h
 exact Qo Qd Qe rfl rfl rfl (λg vs p h=>by simp [z5.C] at h) ⟨Tryz.func102,rfl,by kernel_rfl⟩ z5.loopsT rfl (z5.link _) (by intro v r h;unfold z5.dec at h;split at h<;>cases h;exact ⟨rfl,rfl⟩)
theorem z6.sound:Sn z6.pack 26:=by
 intro vs p h;unfold z6.pack at h;split at h<;>cases h
 exact Qg Qd Qe rfl rfl rfl rfl (λg vs p h=>by unfold z6.C at h;simp only at h;split at h;exact z5.sound vs p h;simp at h) ⟨Tryz.func26,rfl,by kernel_rfl⟩ rfl (z6.link _ _) (by intro v r h;unfold z6.dec at h;split at h<;>cases h;exact ⟨rfl,rfl⟩)
theorem z7.sound:Sn z7.pack 113:=by
 intro vs p h;unfold z7.pack at h;split at h<;>cases h
 exact Qg Qd Qe rfl rfl rfl rfl (λg vs p h=>by simp [z7.C] at h) ⟨Tryz.func113,rfl,by kernel_rfl⟩ rfl (z7.link _ _) (by intro v r h;unfold z7.dec at h;split at h<;>cases h;exact ⟨rfl,rfl⟩)
theorem z8.l0_sound (hI:InlOK Tryz.prog z8.C λR=>z8.C.inlK 6):Qh z8.C 6 152 0 0 (Qf 0 (ifun Tryz.f152).body) z8.l0sh z8.l0pack:=by
 refine Qi λls p h=>?_
 unfold z8.l0pack at h;split at h<;>cases h
 rename_i a b c
 exact Qm hI (sh:=z8.l0sh) (so:=z8.l0sh) (F:=λR rec done x=>z8.l0P rec done x) (enc:=λ(x':(Int×(List Int)))=>Qb z8.l0sh [.i x'.1,.li b,.li x'.2]) [0,2] [0,2] (a,c) (by kernel_rfl) (by kernel_rfl) (λx=>by kernel_rfl) (λo=>by kernel_rfl) λR k d x'=>z8.l0_link R k d (x'.1) b (x'.2)
theorem Qzi:Qk (ifun Tryz.f152).body=true:=by kernel_rfl
theorem z8.loopsT (hI:InlOK Tryz.prog z8.C λR=>z8.C.inlK 6):LoopsOK z8.C (λR=>z8.C.inlK 6) 152 0 (ifun Tryz.f152).body:=by
 intro id b hm st p hp
 obtain rfl:=Ql Qzi hm
 unfold z8.C at hp
 simp only at hp
 try split at hp
 all_goals first
  |(simp at hp;done)
  |(exfalso;omega)
  |exact z8.l0_sound hI st p hp
theorem z8.sound:Sn z8.pack 152:=by
 intro vs p h;unfold z8.pack at h;split at h<;>cases h
 exact Qo Qd Qe rfl rfl rfl (λg vs p h=>by simp [z8.C] at h) ⟨Tryz.func152,rfl,by kernel_rfl⟩ z8.loopsT rfl (z8.link _) (by intro v r h;unfold z8.dec at h;split at h<;>cases h;exact ⟨rfl,rfl⟩)
theorem z9.sound:Sn z9.pack 60:=by
 intro vs p h;unfold z9.pack at h;split at h<;>cases h
 exact Qg Qd Qe rfl rfl rfl rfl (λg vs p h=>by unfold z9.C at h;simp only at h;split at h;exact z8.sound vs p h;exact z7.sound vs p h;simp at h) ⟨Tryz.func60,rfl,by kernel_rfl⟩ rfl (z9.link _) (by intro v r h;unfold z9.dec at h;split at h<;>cases h;exact ⟨rfl,rfl⟩)
theorem z10.sound:Sn z10.pack 219:=by
 intro vs p h;unfold z10.pack at h;split at h<;>cases h
 exact Qg Qd Qe rfl rfl rfl rfl (λg vs p h=>by simp [z10.C] at h) ⟨Tryz.func219,rfl,by kernel_rfl⟩ rfl (z10.link _) (by intro v r h;unfold z10.dec at h;split at h<;>cases h;exact ⟨rfl,rfl⟩)
theorem z11.sound:Sn z11.pack 153:=by
 intro vs p h;unfold z11.pack at h;split at h<;>cases h
 exact Qg Qd Qe rfl rfl rfl rfl (λg vs p h=>by unfold z11.C at h;simp only at h;split at h;exact z10.sound vs p h;simp at h) ⟨Tryz.func153,rfl,by kernel_rfl⟩ rfl (z11.link _ _) (by intro v r h;unfold z11.dec at h;split at h<;>cases h;exact ⟨rfl,rfl⟩)
theorem z12.sound:Sn z12.pack 95:=by
 intro vs p h;unfold z12.pack at h;split at h<;>cases h
 exact Qg Qd Qe rfl rfl rfl rfl (λg vs p h=>by unfold z12.C at h;simp only at h;split at h;exact z11.sound vs p h;simp at h) ⟨Tryz.func95,rfl,by kernel_rfl⟩ rfl (z12.link _ _ _ _) (by intro v r h;unfold z12.dec at h;split at h<;>cases h;exact ⟨rfl,rfl⟩)
theorem z95.l0_sound (hI:InlOK Tryz.prog z95.C λR=>z95.C.inlK 6):Qh z95.C 6 145 0 0 (Qf 0 (ifun Tryz.f145).body) z95.l0sh z95.l0pack:=by
 refine Qi λls p h=>?_
 unfold z95.l0pack at h;split at h<;>cases h
 rename_i a b c e g
 exact Q4 hI (sh:=z95.l0sh) (so:=z95.l0sh) (so':=z95.l0so1) (F:=λR rec done x=>z95.l0P b c e rec done x) (enc:=λ(x':Int)=>Qb z95.l0sh [.i a,.i b,.li c,.i e,.i x']) (.exit 0) [4] [4] [0] g (by kernel_rfl) (by kernel_rfl) (λx=>by kernel_rfl) (λo=>by kernel_rfl) (λo=>by kernel_rfl) λR k d x'=>z95.l0_link R k d a b c e (x')
theorem Q1m:Qk (ifun Tryz.f145).body=true:=by kernel_rfl
theorem z95.loopsT (hI:InlOK Tryz.prog z95.C λR=>z95.C.inlK 6):LoopsOK z95.C (λR=>z95.C.inlK 6) 145 0 (ifun Tryz.f145).body:=by
 intro id b hm st p hp
 obtain rfl:=Ql Q1m hm
 unfold z95.C at hp
 simp only at hp
 try split at hp
 all_goals first
  |(simp at hp;done)
  |(exfalso;omega)
  |exact z95.l0_sound hI st p hp
theorem z95.sound:Sn z95.pack 145:=by
 intro vs p h;unfold z95.pack at h;split at h<;>cases h
 exact Qo Qd Qe rfl rfl rfl (λg vs p h=>by simp [z95.C] at h) ⟨Tryz.func145,rfl,by kernel_rfl⟩ z95.loopsT rfl (z95.link _) (by intro v r h;unfold z95.dec at h;split at h<;>cases h;exact ⟨rfl,rfl⟩)
theorem z96.sound:Sn z96.pack 57:=by
 intro vs p h;unfold z96.pack at h;split at h<;>cases h
 exact Qg Qd Qe rfl rfl rfl rfl (λg vs p h=>by unfold z96.C at h;simp only at h;split at h;exact z26.sound vs p h;exact z95.sound vs p h;simp at h) ⟨Tryz.func57,rfl,by kernel_rfl⟩ rfl (z96.link _ _ _ _ _ _) (by intro v r h;unfold z96.dec at h;split at h<;>cases h;exact ⟨rfl,rfl⟩)
theorem z97.sound:Sn z97.pack 211:=by
 intro vs p h;unfold z97.pack at h;split at h<;>cases h
 exact Qg Qd Qe rfl rfl rfl rfl (λg vs p h=>by simp [z97.C] at h) ⟨Tryz.func211,rfl,by kernel_rfl⟩ rfl (z97.link _) (by intro v r h;unfold z97.dec at h;split at h<;>cases h;exact ⟨rfl,rfl⟩)
theorem z98.l0_sound (hI:InlOK Tryz.prog z98.C λR=>z98.C.inlK 6):Qh z98.C 6 140 0 0 (Qf 0 (ifun Tryz.f140).body) z98.l0sh z98.l0pack:=by
 refine Qi λls p h=>?_
 unfold z98.l0pack at h;split at h<;>cases h
 rename_i a b c e g j m
 exact Qm hI (sh:=z98.l0sh) (so:=z98.l0sh) (F:=λR rec done x=>z98.l0P g j rec done x) (enc:=λ(x':(Int×Int))=>Qb z98.l0sh [.i a,.i b,.i x'.1,.i x'.2,.i g,.i j,.i m]) [2,3] [2,3] (c,e) (by kernel_rfl) (by kernel_rfl) (λx=>by kernel_rfl) (λo=>by kernel_rfl) λR k d x'=>z98.l0_link R k d a b (x'.1) (x'.2) g j m
theorem Qz2:Qk (ifun Tryz.f140).body=true:=by kernel_rfl
theorem z98.loopsT (hI:InlOK Tryz.prog z98.C λR=>z98.C.inlK 6):LoopsOK z98.C (λR=>z98.C.inlK 6) 140 0 (ifun Tryz.f140).body:=by
 intro id b hm st p hp
 obtain rfl:=Ql Qz2 hm
 unfold z98.C at hp
 simp only at hp
 try split at hp
 all_goals first
  |(simp at hp;done)
  |(exfalso;omega)
  |exact z98.l0_sound hI st p hp
theorem z98.sound:Sn z98.pack 140:=by
 intro vs p h;unfold z98.pack at h;split at h<;>cases h
 exact Qo Qd Qe rfl rfl rfl (λg vs p h=>by unfold z98.C at h;simp only at h;split at h;exact z89.sound vs p h;exact z97.sound vs p h;exact z88.sound vs p h;simp at h) ⟨Tryz.func140,rfl,by kernel_rfl⟩ z98.loopsT rfl (z98.link _ _ _) (by intro v r h;unfold z98.dec at h;split at h<;>cases h;exact ⟨rfl,rfl⟩)
theorem z99.l0_sound (hI:InlOK Tryz.prog z99.C λR=>z99.C.inlK 6):Qh z99.C 6 141 0 0 (Qf 0 (ifun Tryz.f141).body) z99.l0sh z99.l0pack:=by
 refine Qi λls p h=>?_
 unfold z99.l0pack at h;split at h<;>cases h
 rename_i a b c e g j m n
 exact Qm hI (sh:=z99.l0sh) (so:=z99.l0sh) (F:=λR rec done x=>z99.l0P a rec done x) (enc:=λ(x':Int)=>Qb z99.l0sh [.i a,.i b,.i c,.i e,.i g,.i x',.i m,.i n]) [5] [5] j (by kernel_rfl) (by kernel_rfl) (λx=>by kernel_rfl) (λo=>by kernel_rfl) λR k d x'=>z99.l0_link R k d a b c e g (x') m n
theorem z99.l2b6_sound (hI:InlOK Tryz.prog z99.C λR=>z99.C.inlK 6):Qh z99.C 6 141 2 0 (Qf 2 (ifun Tryz.f141).body) z99.l2b6sh z99.l2b6pack:=by
 refine Qi λls p h=>?_
 unfold z99.l2b6pack at h;split at h<;>cases h
 rename_i a b c e g j m n
 exact Qm hI (sh:=z99.l2b6sh) (so:=z99.l2b6sh) (F:=λR rec done x=>z99.l2b6P a rec done x) (enc:=λ(x':Int)=>Qb z99.l2b6sh [.i a,.i b,.i c,.i e,.i g,.i x',.i m,.i n]) [5] [5] j (by kernel_rfl) (by kernel_rfl) (λx=>by kernel_rfl) (λo=>by kernel_rfl) λR k d x'=>z99.l2b6_link R k d a b c e g (x') m n
theorem z99.l4_sound (hI:InlOK Tryz.prog z99.C λR=>z99.C.inlK 6):Qh z99.C 6 141 4 0 (Qf 4 (ifun Tryz.f141).body) z99.l4sh z99.l4pack:=by
 refine Qi λls p h=>?_
 unfold z99.l4pack at h;split at h<;>cases h
 rename_i a b c e g j m n
 exact Qm hI (sh:=z99.l4sh) (so:=z99.l4sh) (F:=λR rec done x=>z99.l4P j rec done x) (enc:=λ(x':(Int×Int))=>Qb z99.l4sh [.i x'.1,.i b,.i c,.i e,.i g,.i j,.i x'.2,.i n]) [0,6] [0,6] (a,m) (by kernel_rfl) (by kernel_rfl) (λx=>by kernel_rfl) (λo=>by kernel_rfl) λR k d x'=>z99.l4_link R k d (x'.1) b c e g j (x'.2) n
theorem Qxx:Qk (ifun Tryz.f141).body=true:=by kernel_rfl
theorem z99.loopsT (hI:InlOK Tryz.prog z99.C λR=>z99.C.inlK 6):LoopsOK z99.C (λR=>z99.C.inlK 6) 141 0 (ifun Tryz.f141).body:=by
 intro id b hm st p hp
 obtain rfl:=Ql Qxx hm
 unfold z99.C at hp
 simp only at hp
 try split at hp
 all_goals first
  |(simp at hp;done)
  |(exfalso;omega)
  |exact z99.l0_sound hI st p hp
  |exact z99.l2b6_sound hI st p hp
  |exact z99.l4_sound hI st p hp
theorem z99.sound:Sn z99.pack 141:=by
 intro vs p h;unfold z99.pack at h;split at h<;>cases h
 exact Qo Qd Qe rfl rfl rfl (λg vs p h=>by unfold z99.C at h;simp only at h;split at h;exact z97.sound vs p h;exact z88.sound vs p h;simp at h) ⟨Tryz.func141,rfl,by kernel_rfl⟩ z99.loopsT rfl (z99.link _) (by intro v r h;unfold z99.dec at h;split at h<;>cases h;exact ⟨rfl,rfl⟩)
theorem z100.sound:Sn z100.pack 54:=by
 intro vs p h;unfold z100.pack at h;split at h<;>cases h
 exact Qg Qd Qe rfl rfl rfl rfl (λg vs p h=>by unfold z100.C at h;simp only at h;split at h;exact z98.sound vs p h;exact z99.sound vs p h;simp at h) ⟨Tryz.func54,rfl,by kernel_rfl⟩ rfl (z100.link _ _ _ _) (by intro v r h;unfold z100.dec at h;split at h<;>cases h;exact ⟨rfl,rfl⟩)
theorem z143.sound:Sn z143.pack 61:=by
 intro vs p h;unfold z143.pack at h;split at h<;>cases h
 exact Qg Qd Qe rfl rfl rfl rfl (λg vs p h=>by unfold z143.C at h;simp only at h;split at h;exact z11.sound vs p h;simp at h) ⟨Tryz.func61,rfl,by kernel_rfl⟩ rfl (z143.link _ _ _) (by intro v r h;unfold z143.dec at h;split at h<;>cases h;exact ⟨rfl,rfl⟩)
theorem fun58:FunOK Tryz.prog 58 Tryz.f58 (ifun Tryz.f58).body:=⟨Tryz.func58,rfl,by kernel_rfl⟩
theorem Qq3:Qk (ifun Tryz.f58).body=true:=by kernel_rfl
theorem z145.l0_sound (hI:InlOK Tryz.prog z145.C λR=>z145.C.inlK 6):Qh z145.C 6 147 0 0 (Qf 0 (ifun Tryz.f147).body) z145.l0sh z145.l0pack:=by
 refine Qi λls p h=>?_
 unfold z145.l0pack at h;split at h<;>cases h
 rename_i a b c e g j m n q r t u v
 exact Q4 hI (sh:=z145.l0sh) (so:=z145.l0sh) (so':=z145.l0so1) (F:=λR rec done x=>z145.l0P a t u rec done x) (enc:=λ(x':(Int×Int×Int×Int×Int×Int×(List UInt8)×(List UInt8)×Int))=>Qb z145.l0sh [.lr a,.i b,.i x'.1,.i x'.2.1,.i x'.2.2.1,.i x'.2.2.2.1,.i x'.2.2.2.2.1,.i x'.2.2.2.2.2.1,.s x'.2.2.2.2.2.2.1,.s x'.2.2.2.2.2.2.2.1,.lr t,.i u,.i x'.2.2.2.2.2.2.2.2]) (.exit 0) [2,3,4,5,6,7,8,9,12] [2,3,4,5,6,7,8,9,12] [0] (c,e,g,j,m,n,q,r,v) (by kernel_rfl) (by kernel_rfl) (λx=>by kernel_rfl) (λo=>by kernel_rfl) (λo=>by kernel_rfl) λR k d x'=>z145.l0_link R k d a b (x'.1) (x'.2.1) (x'.2.2.1) (x'.2.2.2.1) (x'.2.2.2.2.1) (x'.2.2.2.2.2.1) (x'.2.2.2.2.2.2.1) (x'.2.2.2.2.2.2.2.1) t u (x'.2.2.2.2.2.2.2.2)
theorem z145.l0a_sound (hI:InlOK Tryz.prog z145.C λR=>z145.C.inlK 6):Qh z145.C 6 147 0 0 (Qf 0 (ifun Tryz.f147).body) z145.l0ash z145.l0apack:=by
 refine Qi λls p h=>?_
 unfold z145.l0apack at h;split at h<;>cases h
 rename_i a b c e g j m n q r t u v
 exact Q4 hI (sh:=z145.l0ash) (so:=z145.l0ash) (so':=z145.l0aso1) (F:=λR rec done x=>z145.l0aP a t u rec done x) (enc:=λ(x':(Int×Int×Int×Int×Int×Int×(List UInt8)×(List UInt8)×Int))=>Qb z145.l0ash [.lr a,.i b,.i x'.1,.i x'.2.1,.i x'.2.2.1,.i x'.2.2.2.1,.i x'.2.2.2.2.1,.i x'.2.2.2.2.2.1,.s x'.2.2.2.2.2.2.1,.s x'.2.2.2.2.2.2.2.1,.lr t,.i u,.i x'.2.2.2.2.2.2.2.2]) (.exit 0) [2,3,4,5,6,7,8,9,12] [2,3,4,5,6,7,8,9,12] [0] (c,e,g,j,m,n,q,r,v) (by kernel_rfl) (by kernel_rfl) (λx=>by kernel_rfl) (λo=>by kernel_rfl) (λo=>by kernel_rfl) λR k d x'=>z145.l0a_link R k d a b (x'.1) (x'.2.1) (x'.2.2.1) (x'.2.2.2.1) (x'.2.2.2.2.1) (x'.2.2.2.2.2.1) (x'.2.2.2.2.2.2.1) (x'.2.2.2.2.2.2.2.1) t u (x'.2.2.2.2.2.2.2.2)
theorem Qxm:Qk (ifun Tryz.f147).body=true:=by kernel_rfl
theorem z145.loopsT (hI:InlOK Tryz.prog z145.C λR=>z145.C.inlK 6):LoopsOK z145.C (λR=>z145.C.inlK 6) 147 0 (ifun Tryz.f147).body:=by
 intro id b hm st p hp
 obtain rfl:=Ql Qxm hm
 unfold z145.C at hp
 simp only at hp
 try split at hp
 all_goals first
  |(simp at hp;done)
  |(exfalso;omega)
  |exact (orP_some hp).elim (λh=>z145.l0_sound hI st p h) (λh=>z145.l0a_sound hI st p h)
theorem z145.loops213 (hI:InlOK Tryz.prog z145.C λR=>z145.C.inlK 0) (base:Nat):LoopsOK z145.C (λR=>z145.C.inlK 0) 213 base (ifun Tryz.f213).body:=by
 intro id b hm st p hp
 exfalso
 unfold z145.C at hp
 simp only at hp
 try split at hp
 all_goals first|(simp at hp;done)|omega
theorem z145.inlF:InlF Tryz.prog z145.C where
 prim g h hp:=by simp [z145.C] at hp
 fn g fn h:=by
  unfold z145.C at h;simp only at h;split at h
  ·simp only [Option.some.injEq] at h;subst h;exact ⟨_,_,⟨Tryz.func213,rfl,by kernel_rfl⟩,rfl⟩
  ·simp at h
 loops g fn h:=by
  unfold z145.C at h;simp only at h;split at h
  ·simp only [Option.some.injEq] at h;subst h;exact λhI base=>z145.loops213 hI base
  ·simp at h
theorem z145.sound:Sn z145.pack 147:=by
 intro vs p h;unfold z145.pack at h;split at h<;>cases h
 exact J0 Qd Qe rfl (λg vs p h=>by unfold z145.C at h;simp only at h;split at h;exact z89.sound vs p h;exact z96.sound vs p h;exact z46.sound vs p h;exact z76.sound vs p h;simp at h) z145.inlF ⟨Tryz.func147,rfl,by kernel_rfl⟩ z145.loopsT rfl (z145.link _) (by intro v r h;unfold z145.dec at h;split at h<;>cases h;exact ⟨rfl,rfl⟩)
theorem z146.sound:Sn z146.pack 148:=by
 intro vs p h;unfold z146.pack at h;split at h<;>cases h
 exact Qg Qd Qe rfl rfl rfl rfl (λg vs p h=>by unfold z146.C at h;simp only at h;split at h;exact z84.sound vs p h;simp at h) ⟨Tryz.func148,rfl,by kernel_rfl⟩ rfl (z146.link _) (by intro v r h;unfold z146.dec at h;split at h<;>cases h;exact ⟨rfl,rfl⟩)
theorem z147.sound:Sn z147.pack 71:=by
 intro vs p h;unfold z147.pack at h;split at h<;>cases h
 exact Qg Qd Qe rfl rfl rfl rfl (λg vs p h=>by unfold z147.C at h;simp only at h;split at h;exact z20.sound vs p h;simp at h) ⟨Tryz.func71,rfl,by kernel_rfl⟩ rfl (z147.link _ _ _) (by intro v r h;unfold z147.dec at h;split at h<;>cases h;exact ⟨rfl,rfl⟩)
theorem z148.sound:Sn z148.pack 216:=by
 intro vs p h;unfold z148.pack at h;split at h<;>cases h
 exact Qg Qd Qe rfl rfl rfl rfl (λg vs p h=>by simp [z148.C] at h) ⟨Tryz.func216,rfl,by kernel_rfl⟩ rfl (z148.link _ _ _) (by intro v r h;unfold z148.dec at h;split at h<;>cases h;exact ⟨rfl,rfl⟩)
theorem z149.sound:Sn z149.pack 217:=by
 intro vs p h;unfold z149.pack at h;split at h<;>cases h
 exact Qg Qd Qe rfl rfl rfl rfl (λg vs p h=>by unfold z149.C at h;simp only at h;split at h;exact z24.sound vs p h;exact z29.sound vs p h;exact z60.sound vs p h;simp at h) ⟨Tryz.func217,rfl,by kernel_rfl⟩ rfl (z149.link _ _ _ _) (by intro v r h;unfold z149.dec at h;split at h<;>cases h;exact ⟨rfl,rfl⟩)
theorem z150.sound:Sn z150.pack 150:=by
 intro vs p h;unfold z150.pack at h;split at h<;>cases h
 exact Qg Qd Qe rfl rfl rfl rfl (λg vs p h=>by unfold z150.C at h;simp only at h;split at h;exact z79.sound vs p h;exact z148.sound vs p h;exact z59.sound vs p h;exact z73.sound vs p h;exact z68.sound vs p h;exact z19.sound vs p h;exact z149.sound vs p h;exact z38.sound vs p h;exact z24.sound vs p h;exact z147.sound vs p h;exact z21.sound vs p h;simp at h) ⟨Tryz.func150,rfl,by kernel_rfl⟩ rfl (z150.link _ _ _ _) (by intro v r h;unfold z150.dec at h;split at h<;>cases h;exact ⟨rfl,rfl⟩)
theorem z151.sound:Sn z151.pack 78:=by
 intro vs p h;unfold z151.pack at h;split at h<;>cases h
 exact Qg Qd Qe rfl rfl rfl rfl (λg vs p h=>by unfold z151.C at h;simp only at h;split at h;exact z74.sound vs p h;exact z54.sound vs p h;exact z31.sound vs p h;exact z73.sound vs p h;exact z40.sound vs p h;exact z70.sound vs p h;simp at h) ⟨Tryz.func78,rfl,by kernel_rfl⟩ rfl (z151.link _ _ _ _ _ _) (by intro v r h;unfold z151.dec at h;split at h<;>cases h;exact ⟨rfl,rfl⟩)
theorem z152.sound:Sn z152.pack 89:=by
 intro vs p h;unfold z152.pack at h;split at h<;>cases h
 exact Qg Qd Qe rfl rfl rfl rfl (λg vs p h=>by unfold z152.C at h;simp only at h;split at h;exact z54.sound vs p h;exact z73.sound vs p h;exact z40.sound vs p h;exact z70.sound vs p h;simp at h) ⟨Tryz.func89,rfl,by kernel_rfl⟩ rfl (z152.link _ _ _ _ _ _) (by intro v r h;unfold z152.dec at h;split at h<;>cases h;exact ⟨rfl,rfl⟩)
theorem z153.sound:Sn z153.pack 230:=by
 intro vs p h;unfold z153.pack at h;split at h<;>cases h
 exact Qg Qd Qe rfl rfl rfl rfl (λg vs p h=>by unfold z153.C at h;simp only at h;split at h;exact z48.sound vs p h;exact z71.sound vs p h;simp at h) ⟨Tryz.func230,rfl,by kernel_rfl⟩ rfl (z153.link _ _) (by intro v r h;unfold z153.dec at h;split at h<;>cases h;exact ⟨rfl,rfl⟩)
theorem z154.sound:Sn z154.pack 229:=by
 intro vs p h;unfold z154.pack at h;split at h<;>cases h
 exact Qg Qd Qe rfl rfl rfl rfl (λg vs p h=>by unfold z154.C at h;simp only at h;split at h;exact z153.sound vs p h;simp at h) ⟨Tryz.func229,rfl,by kernel_rfl⟩ rfl (z154.link _ _ _ _ _ _) (by intro v r h;unfold z154.dec at h;split at h<;>cases h;exact ⟨rfl,rfl⟩)
theorem z155.sound:Sn z155.pack 65:=by
 intro vs p h;unfold z155.pack at h;split at h<;>cases h
 exact Qg Qd Qe rfl rfl rfl rfl (λg vs p h=>by unfold z155.C at h;simp only at h;split at h;exact z98.sound vs p h;simp at h) ⟨Tryz.func65,rfl,by kernel_rfl⟩ rfl (z155.link _ _ _ _ _ _) (by intro v r h;unfold z155.dec at h;split at h<;>cases h;exact ⟨rfl,rfl⟩)
theorem z156.sound:Sn z156.pack 231:=by
 intro vs p h;unfold z156.pack at h;split at h<;>cases h
 exact Qg Qd Qe rfl rfl rfl rfl (λg vs p h=>by unfold z156.C at h;simp only at h;split at h;exact z155.sound vs p h;simp at h) ⟨Tryz.func231,rfl,by kernel_rfl⟩ rfl (z156.link _ _ _ _ _ _) (by intro v r h;unfold z156.dec at h;split at h<;>cases h;exact ⟨rfl,rfl⟩)
theorem z157.sound:Sn z157.pack 269:=by
 intro vs p h;unfold z157.pack at h;split at h<;>cases h
 exact Qg Qd Qe rfl rfl rfl rfl (λg vs p h=>by unfold z157.C at h;simp only at h;split at h;exact z87.sound vs p h;simp at h) ⟨Tryz.func269,rfl,by kernel_rfl⟩ rfl (z157.link _) (by intro v r h;unfold z157.dec at h;split at h<;>cases h;exact ⟨rfl,rfl⟩)
theorem z158.sound:Sn z158.pack 232:=by
 intro vs p h;unfold z158.pack at h;split at h<;>cases h
 exact Qg Qd Qe rfl rfl rfl rfl (λg vs p h=>by unfold z158.C at h;simp only at h;split at h;exact z156.sound vs p h;exact z157.sound vs p h;exact z153.sound vs p h;exact z151.sound vs p h;simp at h) ⟨Tryz.func232,rfl,by kernel_rfl⟩ rfl (z158.link _ _ _ _ _ _) (by intro v r h;unfold z158.dec at h;split at h<;>cases h;exact ⟨rfl,rfl⟩)
theorem z159.sound:Sn z159.pack 165:=by
 intro vs p h;unfold z159.pack at h;split at h<;>cases h
 exact Qg Qd Qe rfl rfl rfl rfl (λg vs p h=>by unfold z159.C at h;simp only at h;split at h;exact z82.sound vs p h;exact z89.sound vs p h;exact z96.sound vs p h;exact z154.sound vs p h;exact z156.sound vs p h;exact z153.sound vs p h;exact z158.sound vs p h;simp at h) ⟨Tryz.func165,rfl,by kernel_rfl⟩ rfl (z159.link _ _ _ _ _ _ _) (by intro v r h;unfold z159.dec at h;split at h<;>cases h;exact ⟨rfl,rfl⟩)
theorem z160.sound:Sn z160.pack 218:=by
 intro vs p h;unfold z160.pack at h;split at h<;>cases h
 exact Qg Qd Qe rfl rfl rfl rfl (λg vs p h=>by unfold z160.C at h;simp only at h;split at h;exact z96.sound vs p h;simp at h) ⟨Tryz.func218,rfl,by kernel_rfl⟩ rfl (z160.link _ _ _ _ _ _) (by intro v r h;unfold z160.dec at h;split at h<;>cases h;exact ⟨rfl,rfl⟩)
theorem z161.l0_sound (hI:InlOK Tryz.prog z161.C λR=>z161.C.inlK 6):Qh z161.C 6 151 0 0 (Qf 0 (ifun Tryz.f151).body) z161.l0sh z161.l0pack:=by
 refine Qi λls p h=>?_
 unfold z161.l0pack at h;split at h<;>cases h
 rename_i a c e g j m n q r s t u v
 exact Qm hI (sh:=z161.l0sh) (so:=z161.l0sh) (F:=λR rec done x=>z161.l0P a c e j m n rec done x) (enc:=λ(x':(Int×(List Int)×Bool×(List Int)))=>Qb z161.l0sh [.i a,.lr c,.i e,.i x'.1,.i j,.i m,.i n,.li q,.b r,.li s,.li x'.2.1,.b x'.2.2.1,.li x'.2.2.2]) [3,10,11,12] [3,10,11,12] (g,t,u,v) (by kernel_rfl) (by kernel_rfl) (λx=>by kernel_rfl) (λo=>by kernel_rfl) λR k d x'=>z161.l0_link R k d a c e (x'.1) j m n q r s (x'.2.1) (x'.2.2.1) (x'.2.2.2)
theorem Qxy:Qk (ifun Tryz.f151).body=true:=by kernel_rfl
theorem z161.loopsT (hI:InlOK Tryz.prog z161.C λR=>z161.C.inlK 6):LoopsOK z161.C (λR=>z161.C.inlK 6) 151 0 (ifun Tryz.f151).body:=by
 intro id b hm st p hp
 obtain rfl:=Ql Qxy hm
 unfold z161.C at hp
 simp only at hp
 try split at hp
 all_goals first
  |(simp at hp;done)
  |(exfalso;omega)
  |exact z161.l0_sound hI st p hp
theorem z161.sound:Sn z161.pack 151:=by
 intro vs p h;unfold z161.pack at h;split at h<;>cases h
 exact Qo Qd Qe rfl rfl rfl (λg vs p h=>by unfold z161.C at h;simp only at h;split at h;exact z96.sound vs p h;exact z46.sound vs p h;exact z76.sound vs p h;exact z160.sound vs p h;exact z159.sound vs p h;exact z47.sound vs p h;exact z152.sound vs p h;exact z151.sound vs p h;simp at h) ⟨Tryz.func151,rfl,by kernel_rfl⟩ z161.loopsT rfl (z161.link _ _ _ _ _) (by intro v r h;unfold z161.dec at h;split at h<;>cases h;exact ⟨rfl,rfl⟩)
theorem z162.l0_sound (hI:InlOK Tryz.prog z162.C λR=>z162.C.inlK 6):Qh z162.C 6 59 0 0 (Qf 0 (ifun Tryz.f59).body) z162.l0sh z162.l0pack:=by
 refine Qi λls p h=>?_
 unfold z162.l0pack at h;split at h<;>cases h
 rename_i a c e g j m n q r s t
 exact Qm hI (sh:=z162.l0sh) (so:=z162.l0sh) (F:=λR rec done x=>z162.l0P a c e rec done x) (enc:=λ(x':((List (List V))×(List Int)×Bool×Int×Int×Int))=>Qb z162.l0sh [.i a,.i c,.lr e,.i g,.lr j,.lr x'.1,.li x'.2.1,.b x'.2.2.1,.i x'.2.2.2.1,.i x'.2.2.2.2.1,.i x'.2.2.2.2.2]) [5,6,7,8,9,10] [5,6,7,8,9,10] (m,n,q,r,s,t) (by kernel_rfl) (by kernel_rfl) (λx=>by kernel_rfl) (λo=>by kernel_rfl) λR k d x'=>z162.l0_link R k d a c e g j (x'.1) (x'.2.1) (x'.2.2.1) (x'.2.2.2.1) (x'.2.2.2.2.1) (x'.2.2.2.2.2)
theorem Q4a:Qk (ifun Tryz.f59).body=true:=by kernel_rfl
theorem z162.loopsT (hI:InlOK Tryz.prog z162.C λR=>z162.C.inlK 6):LoopsOK z162.C (λR=>z162.C.inlK 6) 59 0 (ifun Tryz.f59).body:=by
 intro id b hm st p hp
 obtain rfl:=Ql Q4a hm
 unfold z162.C at hp
 simp only at hp
 try split at hp
 all_goals first
  |(simp at hp;done)
  |(exfalso;omega)
  |exact z162.l0_sound hI st p hp
theorem z162.sound:Sn z162.pack 59:=by
 intro vs p h;unfold z162.pack at h;split at h<;>cases h
 exact Qo Qd Qe rfl rfl rfl (λg vs p h=>by unfold z162.C at h;simp only at h;split at h;exact z145.sound vs p h;exact z146.sound vs p h;exact z81.sound vs p h;exact z100.sound vs p h;exact z161.sound vs p h;exact z150.sound vs p h;exact z33.sound vs p h;simp at h) ⟨Tryz.func59,rfl,by kernel_rfl⟩ z162.loopsT rfl (z162.link _ _ _) (by intro v r h;unfold z162.dec at h;split at h<;>cases h;exact ⟨rfl,rfl⟩)
theorem z171.sound:Sn z171.pack 66:=by
 intro vs p h;unfold z171.pack at h;split at h<;>cases h
 exact Qg Qd Qe rfl rfl rfl rfl (λg vs p h=>by unfold z171.C at h;simp only at h;split at h;exact z145.sound vs p h;exact z89.sound vs p h;exact z146.sound vs p h;exact z161.sound vs p h;simp at h) ⟨Tryz.func66,rfl,by kernel_rfl⟩ rfl (z171.link _ _ _ _ _) (by intro v r h;unfold z171.dec at h;split at h<;>cases h;exact ⟨rfl,rfl⟩)
theorem z172.sound:Sn z172.pack 73:=by
 intro vs p h;unfold z172.pack at h;split at h<;>cases h
 exact Qg Qd Qe rfl rfl rfl rfl (λg vs p h=>by unfold z172.C at h;simp only at h;split at h;exact z171.sound vs p h;exact z150.sound vs p h;simp at h) ⟨Tryz.func73,rfl,by kernel_rfl⟩ rfl (z172.link _ _ _ _ _ _) (by intro v r h;unfold z172.dec at h;split at h<;>cases h;exact ⟨rfl,rfl⟩)
theorem z173.sound:Sn z173.pack 64:=by
 intro vs p h;unfold z173.pack at h;split at h<;>cases h
 exact Qg Qd Qe rfl rfl rfl rfl (λg vs p h=>by unfold z173.C at h;simp only at h;split at h;exact z162.sound vs p h;exact z172.sound vs p h;exact z135.sound vs p h;exact z145.sound vs p h;simp at h) ⟨Tryz.func64,rfl,by kernel_rfl⟩ rfl z173.link (by intro v r h;unfold z173.dec at h;split at h<;>cases h;exact ⟨rfl,rfl⟩)
theorem z175.sound:Sn z175.pack 67:=by
 intro vs p h;unfold z175.pack at h;split at h<;>cases h
 exact Qg Qd Qe rfl rfl rfl rfl (λg vs p h=>by unfold z175.C at h;simp only at h;split at h;exact z74.sound vs p h;exact z54.sound vs p h;exact z34.sound vs p h;simp at h) ⟨Tryz.func67,rfl,by kernel_rfl⟩ rfl (z175.link _ _ _ _ _ _) (by intro v r h;unfold z175.dec at h;split at h<;>cases h;exact ⟨rfl,rfl⟩)
theorem z183.sound:Sn z183.pack 77:=by
 intro vs p h;unfold z183.pack at h;split at h<;>cases h
 exact Qg Qd Qe rfl rfl rfl rfl (λg vs p h=>by unfold z183.C at h;simp only at h;split at h;exact z68.sound vs p h;exact z21.sound vs p h;exact z19.sound vs p h;exact z48.sound vs p h;exact z33.sound vs p h;exact z54.sound vs p h;simp at h) ⟨Tryz.func77,rfl,by kernel_rfl⟩ rfl (z183.link _ _ _ _) (by intro v r h;unfold z183.dec at h;split at h<;>cases h;exact ⟨rfl,rfl⟩)
theorem z184.l2_sound (hI:InlOK Tryz.prog z184.C λR=>z184.C.inlK 0):Qh z184.C 0 58 2 2 (Qf 2 (ifun Tryz.f58).body) z184.l2sh z184.l2pack:=by
 refine Qi λls p h=>?_
 unfold z184.l2pack at h;split at h<;>cases h
 rename_i a c e g j m n q r s t u v w y z A B D E G H I J K L
 exact Qm hI (sh:=z184.l2sh) (so:=z184.l2sh) (F:=λR rec done x=>z184.l2P a z rec done x) (enc:=λ(x':(Int×Int×Int×Int))=>Qb z184.l2sh [.i a,.i x'.1,.i e,.b g,.i j,.i m,.i n,.li q,.li r,.li s,.i t,.i u,.i v,.i w,.i y,.li z,.li A,.li B,.lr D,.lr E,.i G,.i H,.i I,.i x'.2.1,.i x'.2.2.1,.i x'.2.2.2]) [1,23,24,25] [1,23,24,25] (c,J,K,L) (by kernel_rfl) (by kernel_rfl) (λx=>by kernel_rfl) (λo=>by kernel_rfl) λR k d x'=>z184.l2_link R k d a (x'.1) e g j m n q r s t u v w y z A B D E G H I (x'.2.1) (x'.2.2.1) (x'.2.2.2)
theorem z184.l0aa_sound (hI:InlOK Tryz.prog z184.C λR=>z184.C.inlK 0):Qh z184.C 0 58 0 2 (Qf 0 (ifun Tryz.f58).body) z184.l0aash z184.l0aapack:=by
 refine Qi λls p h=>?_
 unfold z184.l0aapack at h;split at h<;>cases h
 rename_i a b c e g j m n q r s t u v w y z A B D
 exact Qm hI (sh:=z184.l0aash) (so:=z184.l0aash) (F:=λR rec done x=>z184.l0aaP u v w rec done x) (enc:=λ(x':(Int×(List (List V))×Int×Int×Int))=>Qb z184.l0aash [.i x'.1,.i b,.i c,.i e,.li g,.li j,.li m,.i n,.i q,.i r,.i s,.i t,.li u,.li v,.li w,.lr y,.lr x'.2.1,.i x'.2.2.1,.i x'.2.2.2.1,.i x'.2.2.2.2]) [0,16,17,18,19] [0,16,17,18,19] (a,z,A,B,D) (by kernel_rfl) (by kernel_rfl) (λx=>by kernel_rfl) (λo=>by kernel_rfl) λR k d x'=>z184.l0aa_link R k d (x'.1) b c e g j m n q r s t u v w y (x'.2.1) (x'.2.2.1) (x'.2.2.2.1) (x'.2.2.2.2)
theorem z184.l0b3_sound (hI:InlOK Tryz.prog z184.C λR=>z184.C.inlK 6):Qh z184.C 6 17 0 0 (Qf 0 (ifun Tryz.f17).body) z184.l0b3sh z184.l0b3pack:=by
 refine Qi λls p h=>?_
 unfold z184.l0b3pack at h;split at h<;>cases h
 rename_i a c e g j m n q
 exact Qm hI (sh:=z184.l0b3sh) (so:=z184.l0b3sh) (F:=λR rec done x=>z184.l0b3P c rec done x) (enc:=λ(x':(Int×(List (List V))×(List (List V))×(List (List V))))=>Qb z184.l0b3sh [.b a,.i c,.i x'.1,.i g,.i j,.lr x'.2.1,.lr x'.2.2.1,.lr x'.2.2.2]) [2,5,6,7] [2,5,6,7] (e,m,n,q) (by kernel_rfl) (by kernel_rfl) (λx=>by kernel_rfl) (λo=>by kernel_rfl) λR k d x'=>z184.l0b3_link R k d a c (x'.1) g j (x'.2.1) (x'.2.2.1) (x'.2.2.2)
theorem z184.l2a_sound (hI:InlOK Tryz.prog z184.C λR=>z184.C.inlK 6):Qh z184.C 6 17 2 0 (Qf 2 (ifun Tryz.f17).body) z184.l2ash z184.l2apack:=by
 refine Qi λls p h=>?_
 unfold z184.l2apack at h;split at h<;>cases h
 rename_i a c e g j m n q r s t
 exact Q4 hI (sh:=z184.l2ash) (so:=z184.l2ash) (so':=z184.l2aso1) (F:=λR rec done x=>z184.l2aP e g j m n q r s t rec done x) (enc:=λ(x':Int)=>Qb z184.l2ash [.b a,.i x',.lr e,.lr g,.lr j,.i m,.i n,.i q,.i r,.i s,.i t]) (.exit 2) [1] [1] [0] c (by kernel_rfl) (by kernel_rfl) (λx=>by kernel_rfl) (λo=>by kernel_rfl) (λo=>by kernel_rfl) λR k d x'=>z184.l2a_link R k d a (x') e g j m n q r s t
theorem Qsk:FunOK Tryz.prog 17 Tryz.f17 (ifun Tryz.f17).body:=⟨Tryz.func17,rfl,by kernel_rfl⟩
theorem Quf:Qk (ifun Tryz.f17).body=true:=by kernel_rfl
theorem z184.loopsT (hI:InlOK Tryz.prog z184.C λR=>z184.C.inlK 6):LoopsOK z184.C (λR=>z184.C.inlK 6) 17 0 (ifun Tryz.f17).body:=by
 intro id b hm st p hp
 obtain rfl:=Ql Quf hm
 unfold z184.C at hp
 simp only at hp
 try split at hp
 all_goals first
  |(simp at hp;done)
  |(exfalso;omega)
  |exact z184.l0b3_sound hI st p hp
  |exact z184.l2a_sound hI st p hp
theorem z184.loops58 (hI:InlOK Tryz.prog z184.C λR=>z184.C.inlK 0) (base:Nat):LoopsOK z184.C (λR=>z184.C.inlK 0) 58 base (ifun Tryz.f58).body:=by
 intro id b hm st p hp
 obtain rfl:=Ql Qq3 hm
 unfold z184.C at hp
 simp only at hp
 try split at hp
 all_goals first
  |(simp at hp;done)
  |(exfalso;omega)
  |exact z184.l2_sound hI st p hp
  |exact z184.l0aa_sound hI st p hp
theorem z184.inlF:InlF Tryz.prog z184.C where
 prim g h hp:=by simp [z184.C] at hp
 fn g fn h:=by
  unfold z184.C at h;simp only at h;split at h
  ·simp only [Option.some.injEq] at h;subst h;exact ⟨_,_,fun58,rfl⟩
  ·simp at h
 loops g fn h:=by
  unfold z184.C at h;simp only at h;split at h
  ·simp only [Option.some.injEq] at h;subst h;exact λhI base=>z184.loops58 hI base
  ·simp at h
theorem z184.sound:Sn z184.pack 17:=by
 intro vs p h;unfold z184.pack at h;split at h<;>cases h
 exact J0 Qd Qe rfl (λg vs p h=>by unfold z184.C at h;simp only at h;split at h;exact z12.sound vs p h;exact z143.sound vs p h;exact z9.sound vs p h;exact z6.sound vs p h;exact z173.sound vs p h;exact z42.sound vs p h;exact z48.sound vs p h;exact z183.sound vs p h;exact z135.sound vs p h;exact z31.sound vs p h;exact z100.sound vs p h;exact z171.sound vs p h;exact z151.sound vs p h;exact z175.sound vs p h;exact z147.sound vs p h;simp at h) z184.inlF Qsk z184.loopsT rfl (z184.link _ _ _ _ _ _ _ _) (by intro v r h;unfold z184.dec at h;split at h<;>cases h;exact ⟨rfl,rfl⟩)
end
end Go.Proofs.YtgjncgiekniniaaGreatDoor.A
end
section
namespace Go.Proofs.YtgjncgiekniniaaGreatDoor.A
open Go Go.RowKit Go.ChangeShapes Go.WideShapes
noncomputable section
inductive SC where
 |b
 |i (k:IntKind)
 |s
inductive CT where
 |sc (c:SC)
 |sl (cs:List SC)
def scOf:CT->Option SC
 |.sc c=>some c
 |_=>none
def Q4f:List CT->Option (List SC)
 |[]=>some []
 |c::l=>(scOf c).bind λx=>(Q4f l).map (x :: ·)
def okS:SC->V->Prop
 |.b,v=>∃x,v=.bool x
 |.i k,v=>∃n,v=.int k n/\(Lit.int k n).wf=true
 |.s,v=>∃l,v=.str l/\l.length<=maxLen
def okSL:List SC->List V->Prop
 |[],vs=>vs=[]
 |c::cs,vs=>∃v l,vs=v::l/\okS c v/\okSL cs l
def okC:CT->V->Prop
 |.sc c,v=>okS c v
 |.sl [.i k],v=>∃l,v=.ints false k l/\(∀n∈l,(Lit.int k n).wf=true)/\l.length<=maxLen
 |.sl [.s],v=>∃l,v=.strs false l/\(∀s∈l,s.length<=maxLen)/\l.length<=maxLen
 |.sl cs,v=>∃l,v=.recs false cs.length l/\(∀r∈l,okSL cs r)/\l.length<=maxLen
def okCL:List CT->List V->Prop
 |[],vs=>vs=[]
 |c::cs,vs=>∃v l,vs=v::l/\okC c v/\okCL cs l
def ctsF (P:Program) (rec:TypeId->Option (List CT)):Nat->List Field->Option (List CT)
 |_,[]=>some []
 |off,f::fs=>if f.offset=off then (rec f.type).bind λl=>if P.cellsOf f.type=l.length then (ctsF P rec (off+l.length) fs).map (l ++ ·) else none else none
def ctsA (l:List CT):Nat->List CT
 |0=>[]
 |n+1=>l++ctsA l n
def cts (P:Program):Nat->TypeId->Option (List CT)
 |0,_=>none
 |
  n+1,t=>
  match P.underlying t with
  |some .bool=>some [.sc .b]
  |some (.int k)=>some [.sc (.i k)]
  |some .string=>some [.sc .s]
  |some (.struct fs)=>(ctsF P (cts P n) 0 fs.toList).bind λl=>if P.cellsOf t=l.length then some l else none
  |some (.array m e)=>(cts P n e).bind λl=>if P.cellsOf e=l.length/\P.cellsOf t=m*l.length then some (ctsA l m) else none
  |some (.slice e)=>(cts P n e).bind λl=>(Q4f l).bind λcs=>if P.cellsOf e=cs.length/\0<cs.length then some [.sl cs] else none
  |_=>none
abbrev noO:Nat->Prop:=λ_=>False
def Q4s (W:World) (c:CT) (cv:Value) (v:V):Prop:=okC c v/\Rep0 noO W cv v/\cv.oneCell'=true
def Q4e (W:World) (l:List CT) (cs:List Value) (vs:List V):Prop:=
 cs.length=l.length/\vs.length=l.length/\∀(j:Nat) (c:CT) (cv:Value) (v:V),l[j]? = some c->cs[j]? = some cv->vs[j]? = some v->Q4s W c cv v
theorem cellsR_nil (W:World):Q4e W [] [] []:=⟨rfl,rfl,λ(j:Nat) c cv v h=>by simp at h⟩
theorem Q4h {W:World} {c:CT} {cv:Value} {v:V} (h:Q4s W c cv v):Q4e W [c] [cv] [v]:=by
 refine ⟨rfl,rfl,λj c' cv' v' h1 h2 h3=>?_⟩
 cases j with
 |zero=>simp at h1 h2 h3;subst h1 h2 h3;exact h
 |succ j=>simp at h1
theorem Q4m {W:World} {l l':List CT} {cs cs':List Value} {vs vs':List V} (h:Q4e W l cs vs) (h':Q4e W l' cs' vs'):Q4e W (l++l') (cs++cs') (vs++vs'):=by
 obtain ⟨a1,a2,a3⟩:=h;obtain ⟨b1,b2,b3⟩:=h'
 refine ⟨by simp [a1,b1],by simp [a2,b2],λj c cv v h1 h2 h3=>?_⟩
 by_cases hj:j<l.length
 ·rw [List.getElem?_append_left hj] at h1
  rw [List.getElem?_append_left (by omega)] at h2 h3
  exact a3 j c cv v h1 h2 h3
 ·rw [List.getElem?_append_right (by omega)] at h1 h2 h3
  rw [a1] at h2;rw [a2] at h3
  exact b3 _ c cv v h1 h2 h3
theorem Q4k {W:World}:∀{l:List CT} {cs:List Value} {vs:List V},Q4e W l cs vs->okCL l vs
 |[],cs,vs,h=>List.length_eq_zero_iff.1 h.2.1
 |
  c::l,cs,vs,h=>by
  obtain ⟨h1,h2,h3⟩:=h
  match cs,vs,h1,h2 with
  |
   cv::cs,v::vs,h1,h2=>
   exact ⟨v,vs,rfl,(h3 0 c cv v rfl rfl rfl).1,Q4k (cs:=cs) ⟨by simpa using h1,by simpa using h2,λj c' cv' v' a b d=>h3 (j+1) c' cv' v' (by simpa using a) (by simpa using b) (by simpa using d)⟩⟩
theorem Q4t:∀{l:List CT} {ss:List SC} {vs:List V},Q4f l=some ss->okCL l vs->okSL ss vs
 |[],ss,vs,h,hv=>by simp [Q4f] at h;subst h;exact hv
 |
  c::l,ss,vs,h,hv=>by
  simp only [Q4f,Option.bind_eq_some_iff,Option.map_eq_some_iff] at h
  obtain ⟨x,hx,y,hy,rfl⟩:=h
  obtain ⟨v,r,rfl,h1,h2⟩:=hv
  refine ⟨v,r,rfl,?_,Q4t hy h2⟩
  cases c with
  |sc c=>simp [scOf] at hx;subst hx;exact h1
  |sl _=>simp [scOf] at hx
theorem Q4p:∀{l:List CT} {ss:List SC},Q4f l=some ss->ss.length=l.length
 |[],ss,h=>by simp [Q4f] at h;subst h;rfl
 |
  c::l,ss,h=>by
  simp only [Q4f,Option.bind_eq_some_iff,Option.map_eq_some_iff] at h
  obtain ⟨x,hx,y,hy,rfl⟩:=h
  simp [Q4p hy]
theorem Q4j {α:Type} {Q:Nat->α->Prop}:∀{n:Nat},(∀i,i<n->∃x,Q i x)->∃l:List α,l.length=n/\∀(i:Nat) (x:α),l[i]? = some x->Q i x
 |0,_=>⟨[],rfl,λi x h=>by simp at h⟩
 |
  n+1,h=>by
  obtain ⟨l,h1,h2⟩:=Q4j (n:=n) λi hi=>h i (by omega)
  obtain ⟨x,hx⟩:=h n (by omega)
  refine ⟨l++[x],by simp [h1],λi y hy=>?_⟩
  by_cases hi:i<l.length
  ·rw [List.getElem?_append_left hi] at hy;exact h2 i y hy
  ·rw [List.getElem?_append_right (by omega)] at hy
   have:i-l.length=0:=by
    rcases Nat.lt_or_ge (i-l.length) 1 with h0|h0
    ·omega
    ·rw [List.getElem?_eq_none (by simp;omega)] at hy;simp at hy
   rw [this] at hy;simp at hy;subst hy
   have:i=n:=by omega
   subst this;exact hx
theorem Q4r {α:Type} (z:Nat) (hz:0<z):∀(l:List (List α)) (j:Nat),(∀e∈l,e.length=z)->l.flatten[j]? = (l[j/z]?).bind (·[j%z]?)
 |[],j,_=>by simp
 |
  e::l,j,h=>by
  have he:=h e (by simp)
  rw [List.flatten_cons]
  by_cases hj:j<z
  ·rw [List.getElem?_append_left (by omega),Nat.div_eq_of_lt hj,Nat.mod_eq_of_lt hj];rfl
  ·rw [List.getElem?_append_right (by omega),Q4r z hz l _ (λx hx=>h x (by simp [hx])),he]
   have h1:j/z=(j-z)/z+1:=by rw [<-Nat.add_div_right (j-z) hz,Nat.sub_add_cancel (by omega)]
   have h2:j%z=(j-z)%z:=by rw [<-Nat.add_mod_right (j-z) z,Nat.sub_add_cancel (by omega)]
   rw [h1,h2];rfl
theorem ones {α:Type} {c:SC} {f:α->V} {Q:α->Prop} (hc:∀v,okS c v->∃n,v=f n/\Q n):∀vss:List (List V),(∀r∈vss,okSL [c] r) ->
  ∃zs:List α,vss.flatten=zs.map f/\zs.length=vss.length/\∀n∈zs,Q n
 |[],_=>⟨[],rfl,rfl,by simp⟩
 |
  r::vss,h=>by
  obtain ⟨zs,e1,e2,e3⟩:=ones hc vss λx hx=>h x (by simp [hx])
  obtain ⟨v,l,rfl,hv,hl⟩:=h r (by simp)
  have hl:l=[]:=hl
  subst hl
  obtain ⟨n,rfl,hq⟩:=hc v hv
  exact ⟨n::zs,by simp [e1],by simp [e2],by simpa using ⟨hq,e3⟩⟩
theorem Q4x {W:World} {t e n m:Nat} {ss:List SC} {l:List CT} {a:Addr} {len cap:Nat} (hs:Q4f l=some ss) (hz:0<ss.length) (hl:len<=cap) (hm:cap<=maxLen)
  (h:∀i,i<len->∃cs vs,W.cells? 0 (a.add (i*ss.length)) ss.length=some cs/\Q4e W l cs vs):∃v,okC (.sl ss) v/\Rep0 noO W (.slice (some a) len cap) v:=by
 obtain ⟨rows,h1,h2⟩:=Q4j h
 have hsl:=Q4p hs
 have hrow:∀(i:Nat) (r:List Value),rows[i]? = some r->∃vs:List V,r.length=ss.length/\okSL ss vs/\vs.length=ss.length/\∀(j:Nat) (cv:Value) (v:V),r[j]? = some cv->vs[j]? = some v->W.cell? (a.add (i*ss.length+j))=some cv/\Rep0 noO W cv v/\cv.oneCell'=true:=by
  intro i r hr
  obtain ⟨vs,hc,hv⟩:=h2 i r hr
  obtain ⟨_,hlen,hcell⟩:=World.cells?_some hc
  refine ⟨vs,hlen,Q4t hs (Q4k hv),hv.2.1.trans hsl.symm,λj cv v hj hjv=>?_⟩
  have hjl:j<l.length:=by have:=(List.getElem?_eq_some_iff.1 hj).1;omega
  have:=hv.2.2 j l[j] cv v (by simp) hj hjv
  refine ⟨?_,this.2⟩
  rw [<-Go.Deep.add_add,hcell j (by omega),hj]
 have hall:∀i,i<rows.length->∃vs:List V,okSL ss vs/\vs.length=ss.length/\∀(j:Nat) (v:V),vs[j]? = some v->∃cv,W.cell? (a.add (i*ss.length+j))=some cv/\Rep0 noO W cv v/\cv.oneCell'=true:=by
  intro i hi
  obtain ⟨vs,q1,q2,q3,q4⟩:=hrow i rows[i] (by simp [hi])
  refine ⟨vs,q2,q3,λj v hv=>?_⟩
  have:j<ss.length:=by have:=(List.getElem?_eq_some_iff.1 hv).1;omega
  exact ⟨_,q4 j (rows[i][j]'(by omega)) v (by simp) hv⟩
 obtain ⟨vss,g1,g2⟩:=Q4j hall
 have hvlen:∀e∈vss,e.length=ss.length:=λe he=>by obtain ⟨i,hi,rfl⟩:=List.getElem_of_mem he;exact (g2 i _ (by simp [hi])).2.1
 have gen:∀v:V,flatV v=some (len,vss.flatten)->isExact v=false->Rep0 noO W (.slice (some a) len cap) v:=by
  intro v hf hx
  have hcell:∀(j:Nat) (v:V),vss.flatten[j]? = some v->∃cv,W.cell? (a.add j)=some cv/\Rep0 noO W cv v/\cv.oneCell'=true:=by
   intro j v hv
   rw [Q4r ss.length hz vss j hvlen] at hv
   obtain ⟨r,hr,hv⟩:=Option.bind_eq_some_iff.1 hv
   obtain ⟨cv,k1,k2⟩:=(g2 _ r hr).2.2 _ v hv
   refine ⟨cv,?_,k2⟩
   rw [show j=j/ss.length*ss.length+j%ss.length by rw [Nat.mul_comm];exact (Nat.div_add_mod j ss.length).symm]
   exact k1
  refine .slice (some a) len cap v vss.flatten (λj=>(W.cell? (a.add j)).getD Go.undef) hf (by simp [hx]) hl (by simp) (λj hj=>?_) (λj hj=>?_) (λj hj=>?_)
  ·obtain ⟨cv,k1,k2,k3⟩:=hcell j _ (List.getElem?_eq_getElem hj)
   exact ⟨a,rfl,λh=>h.elim,by rw [k1];rfl⟩
  ·obtain ⟨cv,k1,k2,k3⟩:=hcell j _ (List.getElem?_eq_getElem hj)
   rw [k1];exact k3
  ·obtain ⟨cv,k1,k2,k3⟩:=hcell j _ (List.getElem?_eq_getElem hj)
   rw [k1];exact k2
 have hlen':vss.length=len:=by omega
 have recs:∃v,(∃l,v=V.recs false ss.length l/\(∀r∈l,okSL ss r)/\l.length<=maxLen)/\Rep0 noO W (.slice (some a) len cap) v:=by
  refine ⟨.recs false ss.length vss,⟨vss,rfl,λr hr=>?_,by omega⟩,gen _ ?_ rfl⟩
  ·obtain ⟨i,hi,rfl⟩:=List.getElem_of_mem hr;exact (g2 i _ (by simp [hi])).1
  ·simp only [flatV];rw [if_pos ⟨hz,hvlen⟩,hlen']
 match ss,hs,hz,recs,g2,gen,hvlen with
 |[],_,hz,_,_,_,_=>simp at hz
 |[.b],_,_,recs,_,_,_=>exact recs
 |x::y::_,_,_,recs,_,_,_=>exact by cases x<;>exact recs
 |
  [.i k],_,_,recs,g2,gen,hvlen=>
  obtain ⟨zs,e1,e2,e3⟩:=ones (c:=.i k) (f:=V.int k) (λv h=>h) vss λr hr=>by
   obtain ⟨i,hi,rfl⟩:=List.getElem_of_mem hr;exact (g2 i _ (by simp [hi])).1
  refine ⟨.ints false k zs,⟨zs,rfl,e3,by omega⟩,gen _ ?_ rfl⟩
  simp only [flatV];rw [e1,e2,hlen']
 |
  [.s],_,_,recs,g2,gen,hvlen=>
  obtain ⟨zs,e1,e2,e3⟩:=ones (c:=.s) (f:=V.str) (λv h=>h) vss λr hr=>by
   obtain ⟨i,hi,rfl⟩:=List.getElem_of_mem hr;exact (g2 i _ (by simp [hi])).1
  refine ⟨.strs false zs,⟨zs,rfl,e3,by omega⟩,gen _ ?_ rfl⟩
  simp only [flatV];rw [e1,e2,hlen']
theorem Q4u {W:World} {ss:List SC} (hz:0<ss.length):∃v,okC (.sl ss) v/\Rep0 noO W (.slice none 0 0) v:=by
 have gen:∀v:V,flatV v=some (0,[])->isExact v=false->Rep0 noO W (.slice none 0 0) v:=λv hf hx=>
  .slice none 0 0 v [] (λ_=>Go.undef) hf (by simp [hx]) (Nat.le_refl _) (λ_=>rfl) (λj hj=>by simp at hj) (λj hj=>by simp at hj) (λj hj=>by simp at hj)
 match ss,hz with
 |[.i k],_=>exact ⟨.ints false k [],⟨[],rfl,by simp,by simp⟩,gen _ rfl rfl⟩
 |[.s],_=>exact ⟨.strs false [],⟨[],rfl,by simp,by simp⟩,gen _ rfl rfl⟩
 |[.b],_=>exact ⟨.recs false 1 [],⟨[],rfl,by simp,by simp⟩,gen _ (by simp [flatV]) rfl⟩
 |a::a'::ss,_=>exact ⟨.recs false (a::a'::ss).length [],by cases a<;>exact ⟨[],rfl,by simp,by simp⟩,gen _ (by simp [flatV]) rfl⟩
section
variable {H:Type} {enc:TypeId×Value->H} {P:Program} {W:World}
theorem Q4i:∀(n:Nat) (t:TypeId) (l:List CT),cts P n t=some l->∀(fuel:Nat) (cs:List Value) (x:DataW H×List MemPlace),DataW.trod enc P W 0 (λ_=>true) true fuel t cs=some x ->
  ∃vs,Q4e W l cs vs
 |0,t,l,h,_,_,_,_=>by simp [cts] at h
 |
  n+1,t,l,h,fuel,cs,x,hx=>by
  unfold cts at h
  split at h
  ·rename_i ht
   simp at h;subst h
   obtain ⟨bb,rfl,_⟩:=DataW.trod_bool ht hx
   exact ⟨[.bool bb],Q4h ⟨⟨bb,rfl⟩,.bool bb,rfl⟩⟩
  ·rename_i k ht
   simp at h;subst h
   obtain ⟨b,rfl,_,hw⟩:=DataW.trod_int ht hx
   exact ⟨[.int k b],Q4h ⟨⟨b,rfl,hw⟩,.int k b,rfl⟩⟩
  ·rename_i ht
   simp at h;subst h
   obtain ⟨b,rfl,_,hw⟩:=DataW.trod_string ht hx
   exact ⟨[.str b.data.toList],Q4h ⟨⟨_,rfl,by simpa using hw⟩,.str _ _ rfl,rfl⟩⟩
  ·rename_i fs ht
   obtain ⟨l',h1,h2⟩:=Option.bind_eq_some_iff.1 h
   split at h2
   case isFalse=>simp at h2
   rename_i hsz
   simp at h2;subst h2
   obtain ⟨xs,m,_,_,hlen,hxl,hf⟩:=DataW.trod_struct ht hx
   have key:∀(gs:List Field) (off:Nat) (l':List CT),ctsF P (cts P n) off gs=some l'->(∀f∈gs,∃y,DataW.trod enc P W 0 (λ_=>true) true m f.type ((cs.drop f.offset).take (P.cellsOf f.type))=some y) ->
     ∃vs,Q4e W l' ((cs.drop off).take l'.length) vs:=by
    intro gs
    induction gs with
    |nil=>intro off l' h _;simp [ctsF] at h;subst h;exact ⟨[],by simpa using cellsR_nil W⟩
    |
     cons f gs ih=>
     intro off l' h hg
     unfold ctsF at h
     split at h
     case isFalse=>simp at h
     rename_i hoff
     obtain ⟨lf,h1,h2⟩:=Option.bind_eq_some_iff.1 h
     split at h2
     case isFalse=>simp at h2
     rename_i hsz
     obtain ⟨l2,h3,rfl⟩:=Option.map_eq_some_iff.1 h2
     obtain ⟨y,hy⟩:=hg f (by simp)
     obtain ⟨vs1,c1⟩:=Q4i n f.type lf h1 m _ y hy
     obtain ⟨vs2,c2⟩:=ih _ _ h3 λf' hf'=>hg f' (by simp [hf'])
     refine ⟨vs1++vs2,?_⟩
     have hc:=Q4m c1 c2
     rw [hoff,hsz] at hc
     have hl1:lf.length<=(cs.drop off).length:=by
      have:=c1.1;rw [hoff,hsz,List.length_take] at this;omega
     rw [List.length_append,List.take_add,List.drop_drop]
     exact hc
   have hall:∀f∈fs.toList,∃y,DataW.trod enc P W 0 (λ_=>true) true m f.type ((cs.drop f.offset).take (P.cellsOf f.type))=some y:=by
    intro f hf'
    obtain ⟨i,hi,rfl⟩:=List.getElem_of_mem hf'
    have hi':i<fs.size:=by simpa using hi
    have:=hf i (fs.toList[i]) (by simp [hi'])
    rw [List.getElem?_eq_getElem (by omega)] at this
    exact ⟨_,this⟩
   obtain ⟨vs,hv⟩:=key fs.toList 0 _ h1 hall
   refine ⟨vs,?_⟩
   rwa [List.drop_zero,List.take_of_length_le (by omega)] at hv
  ·rename_i m e ht
   obtain ⟨l',h1,h2⟩:=Option.bind_eq_some_iff.1 h
   split at h2
   case isFalse=>simp at h2
   rename_i hsz
   simp at h2;subst h2
   obtain ⟨xs,q,_,_,hlen,hxl,hf⟩:=DataW.trod_array ht hx
   have key:∀(k:Nat),k<=m->∃vs,Q4e W (ctsA l' k) ((cs.drop ((m-k)*l'.length)).take (k*l'.length)) vs:=by
    intro k
    induction k with
    |zero=>intro _;exact ⟨[],by simpa [ctsA] using cellsR_nil W⟩
    |
     succ k ih=>
     intro hk
     obtain ⟨vs2,c2⟩:=ih (by omega)
     have h3:=hf (m-(k+1)) (by omega)
     rw [List.getElem?_eq_getElem (by omega)] at h3
     obtain ⟨vs1,c1⟩:=Q4i n e l' h1 q _ _ h3
     refine ⟨vs1++vs2,?_⟩
     have hc:=Q4m c1 c2
     rw [hsz.1] at hc
     have e1:(m-k)*l'.length=(m-(k+1))*l'.length+l'.length:=by
      rw [<-Nat.succ_mul];congr 1;omega
     have e2:(k+1)*l'.length=l'.length+k*l'.length:=by rw [Nat.succ_mul,Nat.add_comm]
     rw [e1,<-List.drop_drop] at hc
     rw [e2,List.take_add]
     exact hc
   obtain ⟨vs,hv⟩:=key m (Nat.le_refl _)
   refine ⟨vs,?_⟩
   rwa [Nat.sub_self,Nat.zero_mul,List.drop_zero,List.take_of_length_le (by omega)] at hv
  ·rename_i e ht
   obtain ⟨l',h1,h2⟩:=Option.bind_eq_some_iff.1 h
   obtain ⟨ss,h3,h4⟩:=Option.bind_eq_some_iff.1 h2
   split at h4
   case isFalse=>simp at h4
   rename_i hsz
   simp at h4;subst h4
   rcases Go.Deep.open_slice ht hx with ⟨rfl,_⟩|⟨a,len,cap,m,q,D,Pl,rfl,_,hl,hm,hmm,_,hi⟩
   ·obtain ⟨v,k1,k2⟩:=Q4u (W:=W) hsz.2
    exact ⟨[v],Q4h ⟨k1,k2,rfl⟩⟩
   ·simp only [if_true] at hmm
    subst hmm
    rw [hsz.1] at hi
    obtain ⟨v,k1,k2⟩:=Q4x (t:=0) (e:=0) (n:=0) (m:=0) h3 hsz.2 hl hm λi hi'=>by
     obtain ⟨cs',c1,c2⟩:=hi i (by omega)
     obtain ⟨vs,c3⟩:=Q4i n e l' h1 q _ _ c2
     exact ⟨cs',vs,c1,c3⟩
    exact ⟨[v],Q4h ⟨k1,k2,rfl⟩⟩
  ·simp at h
inductive AT where
 |one (c:CT)
 |agg (l:List CT)
def okA:AT->V->Prop
 |.one c,v=>okC c v
 |.agg l,v=>∃vs,v=.agg vs/\okCL l vs
def okAL:List AT->List V->Prop
 |[],vs=>vs=[]
 |c::cs,vs=>∃v l,vs=v::l/\okA c v/\okAL cs l
def atOf (P:Program) (n:Nat) (t:TypeId):Option AT:=
 (cts P n t).bind λl=>match P.underlying t with
  |some (.struct _)|some (.array _ _)=>some (.agg l)
  |
   _=>match l with
   |[c]=>some (.one c)
   |_=>none
def Q4g (P:Program) (n:Nat):List TypeId->Option (List AT)
 |[]=>some []
 |t::ts=>(atOf P n t).bind λx=>(Q4g P n ts).map (x :: ·)
theorem Q42 {n:Nat} {t:TypeId} {q:AT} (hq:atOf P n t=some q) {base:Nat} {v:Value} {d:DataW H} {ps:List MemPlace} (hval:Value.okWide P W .any base t v) (h:DataW.Trod enc P W 0 (λ_=>true) true t v d ps) :
  ∃x,okA q x/\Rep0 noO W v x:=by
 obtain ⟨l,h1,h2⟩:=Option.bind_eq_some_iff.1 hq
 obtain ⟨fuel,hf⟩:=h
 obtain ⟨vs,hv⟩:=Q4i n t l h1 fuel _ _ hf
 have aggCase:(∃cs,v=.agg cs)->∃x,okA (.agg l) x/\Rep0 noO W v x:=by
  rintro ⟨cs,rfl⟩
  have hc:(Value.agg cs).cells.toList=cs.toList:=rfl
  rw [hc] at hv
  refine ⟨.agg vs,⟨vs,rfl,Q4k hv⟩,.agg cs vs (by have:=hv.1;have:=hv.2.1;simp at *;omega) (λj hj=>?_) (λj hj=>?_)⟩ <;>
  ·have hj1:j<cs.size:=by have:=hv.1;have:=hv.2.1;simp at *;omega
   have:=hv.2.2 j (l[j]'(by have:=hv.2.1;omega)) cs[j] vs[j] (by simp) (by simp [hj1]) (by simp)
   have e:cs.getD j Go.undef=cs[j]:=by simp [Array.getD,hj1]
   rw [e]
   first|exact this.2.2|exact this.2.1
 split at h2
 ·rename_i fs ht
  simp at h2;subst h2
  obtain ⟨cs,rfl,_⟩:=okWide_struct ht hval
  exact aggCase ⟨cs,rfl⟩
 ·rename_i m e ht
  simp at h2;subst h2
  unfold Value.okWide at hval
  rw [ht] at hval
  obtain ⟨cs,rfl,_⟩:=hval
  exact aggCase ⟨cs,rfl⟩
 ·rename_i hns hna
  split at h2
  case h_2=>simp at h2
  rename_i c
  simp at h2;subst h2
  obtain ⟨a1,a2,a3⟩:=hv
  match vs,a2 with
  |
   [x],_=>
   have hcells:v.cells = #[v]:=by
    cases v with
    |
     agg cs=>
     exfalso
     unfold Value.okWide at hval
     cases n with
     |zero=>simp [cts] at h1
     |
      succ n=>
      unfold cts at h1
      split at h1<;>rename_i ht
      ·rw [ht] at hval;simp [Cell.okWide,Cell.ok,ht] at hval
      ·rw [ht] at hval;simp [Cell.okWide,Cell.ok,ht] at hval
      ·rw [ht] at hval;simp [Cell.okWide,Cell.ok,ht] at hval
      ·exact hns _ ht
      ·exact hna _ _ ht
      ·rw [ht] at hval;simp [Cell.okWide,Cell.ok,ht] at hval
      ·simp at h1
    |_=>rfl
   rw [hcells] at a3
   have:=a3 0 c v x rfl rfl rfl
   exact ⟨x,this.1,this.2.1⟩
theorem Q4n {n:Nat}:∀{ts:List TypeId} {qs:List AT} {args:List Value} {ds:List (DataW H)} {ps:List MemPlace} {base:Nat},Q4g P n ts=some qs->DataW.TrodAll enc P W 0 (λ_=>true) true ts args ds ps ->
  (∀(j:Nat) t v,ts[j]? = some t->args[j]? = some v->Value.okWide P W .any base t v) ->
  ∃vs,args.length=vs.length/\okAL qs vs/\∀j (h:j<vs.length),Rep0 noO W (args.getD j Go.undef) vs[j]
 |
  [],qs,args,ds,ps,base,hq,h,_=>by
  simp [Q4g] at hq;subst hq
  obtain ⟨rfl,rfl,rfl⟩:=trodAll_nil h
  exact ⟨[],rfl,rfl,λj h=>by simp at h⟩
 |
  t::ts,qs,args,ds,ps,base,hq,h,hval=>by
  simp only [Q4g,Option.bind_eq_some_iff,Option.map_eq_some_iff] at hq
  obtain ⟨q,hq1,qs',hq2,rfl⟩:=hq
  obtain ⟨v,vs,d,ds',p,p',rfl,rfl,rfl,h1,h2⟩:=trodAll_cons h
  obtain ⟨x,k1,k2⟩:=Q42 hq1 (hval 0 t v rfl rfl) h1
  obtain ⟨xs,l1,l2,l3⟩:=Q4n hq2 h2 λj t v a b=>hval (j+1) t v (by simpa using a) (by simpa using b)
  refine ⟨x::xs,by simp [l1],⟨x,xs,rfl,k1,l2⟩,λj hj=>?_⟩
  cases j with
  |zero=>exact k2
  |succ j=>simpa using l3 j (by simpa using hj)
theorem Q47 {ts:List TypeId} (hl:laidOutB P=true) (hr:ts.all (λt=>P.readableRec t&&decide (t<P.types.size))=true) {W':World} (hb:Below W.heap.size W W') {sp:Nat->Bool} :
  ∀
   {vs:List Value} {ds:List (DataW H)} {ps:List MemPlace},DataW.TrodAll enc P W 0 (λ_=>true) true ts vs ds ps->(∀x∈ps,x.block<W.heap.size)->(∀x∈ps,sp x.block=true) ->
   DataW.TrodAll enc P W' 0 sp true ts vs ds ps:=by
 induction ts with
 |
  nil=>
  intro vs ds ps h _ _
  obtain ⟨rfl,rfl,rfl⟩:=trodAll_nil h
  exact trodAll_mk0
 |
  cons t ts ih=>
  intro vs ds ps h hlt hsp
  obtain ⟨v,vs',d,ds',p,p',rfl,rfl,rfl,h1,h2⟩:=trodAll_cons h
  simp only [List.all_cons,Bool.and_eq_true,decide_eq_true_eq] at hr
  exact trodAll_cons_mk (WideElems.Trod_stays hl hr.1.1 hr.1.2 h1 (λx hx=>hb.same (hlt x (by simp [hx]))) (λx hx=>hsp x (by simp [hx])))
   (ih hr.2 h2 (λx hx=>hlt x (by simp [hx])) (λx hx=>hsp x (by simp [hx])))
theorem Q43 {f:Func} {s:ChangeSpec} {apart fresh handsOn again:Bool} {W W':World} {args:Array Value} {v:Value} {ds gs:List (DataW H)} {before pa pv:List MemPlace}
  (hW:DataW.Whole enc P f.params.toList s.vars apart W args.toList ds gs before)
  (hres:∀(b:Nat) (sp:Nat->Bool) (hd:Bool),DataW.TrodAll enc P W' b sp hd f.resultTypes.toList (v.resultList f.resultTypes.size) (s.fn H (ds++gs)).results [])
  (hargs:∀sp:Nat->Bool,(∀p∈before,sp p.block=true)->DataW.TrodAll enc P W' 0 sp true f.params.toList args.toList (s.fn H (ds++gs)).args pa)
  (hvars:∀sp:Nat->Bool,(∀p∈before,sp p.block=true)->DataW.TrodVars enc P W' sp s.vars (s.fn H (ds++gs)).vars pv)
  (hps:before=pa++pv) (hb:Below W.heap.size W W')
  (hok:∀(j:Nat) (t:TypeId) (r:Value),f.resultTypes[j]? = some t->(v.resultList f.resultTypes.size)[j]? = some r->Value.okWide P W' .any 0 t r) :
  s.post enc P f apart fresh handsOn again W args v W':=by
 have hlt:∀p∈before,p.block<W.heap.size:=λp hp=>hW.lt p hp
 have hold:∀p∈before,(λb=>decide (b<W.heap.size)) p.block=true:=λp hp=>by simpa using hlt p hp
 refine ⟨ds,gs,before,[],pa,pv,hW,hres _ _ _,hargs _ hold,hvars _ hold,World.keptBut_mono (λp hp=>⟨hp,?_⟩) (hb.frame (·∈before)),λ_=>?_⟩
 ·rw [hps,List.mem_append] at hp
  exact Or.inr hp
 ·obtain ⟨_,_,_,_,_,hz,hn⟩:=hW
  refine ⟨hok,_,_,([]++pa)++pv,⟨[]++pa,pv,trodAll_append (hargs _ (λ_ _=>rfl)) (hres _ _ _),hvars _ (λ_ _=>rfl),rfl,?_,?_⟩,?_⟩
  ·intro b off hp
   have hin:MemPlace.cell b off∈before:=by rw [hps];simpa using hp
   rw [hb.frozen (hlt _ hin)]
   exact hz b off hin
  ·intro ha
   have:=hn ha
   rw [hps] at this
   simpa using this
  ·intro p hp _
   rw [hps]
   simpa using hp
theorem Q44 {g:Nat} {f:Func} {c:Code} (hf:FunOK P g f c) {s:ChangeSpec} {n:Nat} {qs:List AT} {tb:TypeId} (hl:laidOutB P=true) (hr:f.params.toList.all (λt=>P.readableRec t&&decide (t<P.types.size))=true)
  (hq:Q4g P n f.params.toList=some qs) (hres:f.resultTypes = #[tb]) (htb:P.underlying tb=some .bool) (hv:s.vars=[])
  (hs:∀ds:List (DataW H),ds.length=f.params.toList.length->s.fn H ds={results:=[.lit (.bool true)],args:=ds})
  (plain:∀vs,okAL qs vs->∃p r,SoundC P g vs p/\p.m=some r/\p.enc r=.bool true)
  (W:World) (base:Nat) (args:Array Value) (ds gs:List (DataW H)) (before:List MemPlace)
  (hval:∀(j:Nat) t v,f.params[j]? = some t->args[j]? = some v->Value.okWide P W .any base t v)
  (hW:DataW.Whole enc P f.params.toList s.vars false W args.toList ds gs before) :
  Calls P g args W λe W'=>∃v,e=.returned v/\s.post enc P f false true false false W args v W':=by
 have hW':=hW
 have hlt:∀p∈before,p.block<W.heap.size:=λp hp=>hW.lt p hp
 obtain ⟨p,q,hA,hV,rfl,hfz,hnd⟩:=hW
 have hA:DataW.TrodAll enc P W 0 (λ_=>true) true f.params.toList args.toList ds p:=hA
 rw [hv] at hV
 obtain ⟨rfl,rfl⟩:=trodVars_none hV
 obtain ⟨vs,h1,h2,h3⟩:=Q4n hq hA λj t v a b=>hval j t v (by simpa using a) (by simpa using b)
 obtain ⟨pk,r,hsound,hm,he⟩:=plain vs h2
 have hcall:=hsound noO W args r hm (by simpa using h1) (λj hj=>by
  have h4:=h3 j hj
  have:args.getD j Go.undef=args.toList.getD j Go.undef:=by
   have hj':j<args.size:=by rw [<-Array.length_toList,h1];exact hj
   simp [Array.getD,List.getD,hj']
  rwa [this]) (λb h=>h.elim)
 unfold CallR at hcall
 rw [hf.enters] at hcall
 have hlen:∀{ts:List TypeId} {vs:List Value} {ds:List (DataW H)} {ps:List MemPlace},DataW.TrodAll enc P W 0 (λ_=>true) true ts vs ds ps->ds.length=ts.length:=by
  intro ts
  induction ts with
  |nil=>intro vs ds ps h;obtain ⟨_,rfl,_⟩:=trodAll_nil h;rfl
  |cons t ts ih=>intro vs ds ps h;obtain ⟨_,_,_,_,_,_,_,rfl,_,_,h2⟩:=trodAll_cons h;simp [ih h2]
 refine hcall.mono λe W' h=>?_
 cases e with
 |
  returned cv=>
  obtain ⟨hg,hrep⟩:=h
  rw [he] at hrep
  obtain rfl:cv=.bool true:=by
   cases hrep
   ·rfl
   ·rename_i hf _;cases hf
  have hb:Below W.heap.size W W':=⟨hg.os,hg.tape,hg.output,hg.size,λk hk=>hg.block k hk (by simp)⟩
  have hfn:=hs ds (hlen hA)
  refine ⟨_,rfl,Q43 (pa:=p) (pv:=[]) hW' ?_ ?_ ?_ rfl hb ?_⟩
  ·intro b sp hd
   rw [List.append_nil,hfn,hres]
   exact trodAll_cons_mk (shut_bool htb _) trodAll_mk0
  ·intro sp hsp
   rw [List.append_nil,hfn]
   exact Q47 hl hr hb hA (λx hx=>hlt x (by simp [hx])) (λx hx=>hsp x (by simp [hx]))
  ·intro sp hsp
   rw [List.append_nil,hfn,hv]
   rfl
  ·exact ok_one hres rfl (okWide_bool_mk htb _)
 |_=>exact h.elim
end
end
end Go.Proofs.YtgjncgiekniniaaGreatDoor.A
end
section
namespace Go.Proofs.YtgjncgiekniniaaGreatDoor.A
open Go
theorem own:ownKnob Tryz.prog.godebug=none:=by kernel_rfl
theorem laidOut:laidOutB Tryz.prog=true:=by kernel_rfl
theorem rowed:mapsRowed Tryz.prog=true:=by kernel_rfl
theorem Q40:(Tryz.prog.stops == [])=true:=by kernel_rfl
theorem Q4y:(Tryz.prog.stopKnobs == [])=true:=by kernel_rfl
theorem Q4z:Tryz.prog.stopsHeard=true:=by kernel_rfl
theorem Q4w:Tryz.prog.mayEnter=true:=by kernel_rfl
theorem Q46:false=Tryz.prog.looks []:=by kernel_rfl
theorem main:Tryz.pinned.checked.prog.mainIs=some (true,("d4ffbc68b08c28ac251f33799dbb1d7e972ab3df77886f5ed4ce34a153cf9881":String).toList):=by kernel_rfl
noncomputable def relay (l:List Int):Obj->Obj
 |.cells _ t fz=>.cells (l.map λn=>Value.int .u8 n).toArray t fz
 |o=>o
noncomputable def accept:List Int:=[128,191,160,191,128,159,144,191,128,143,0,0,0,0,0,0,0,0,0,0,0,0,0,0,0,0,0,0,0,0,0,0]
noncomputable def Q4l (os:Os):World:=
 let w:=World.holding Tryz.prog os ⟨#[],#[],[]⟩
 {w with heap:=(w.heap.modify 3 (relay (Go.Pinned.utf8FirstZ.map Int.ofNat))).modify 4 (relay accept)}
theorem Qc4 {n:Int} (h:(Lit.int .u32 n).wf=true):0<=n/\n<4294967296:=by
 simp [Lit.wf,IntKind.min,IntKind.max,IntKind.signed,IntKind.bits] at h;omega
theorem Qb9 {n:Int} (h:(Lit.int .u16 n).wf=true):0<=n/\n<65536:=by
 simp [Lit.wf,IntKind.min,IntKind.max,IntKind.signed,IntKind.bits] at h;omega
theorem Qs {n:Int} (h:(Lit.int .u8 n).wf=true):0<=n/\n<256:=by
 simp [Lit.wf,IntKind.min,IntKind.max,IntKind.signed,IntKind.bits] at h;omega
theorem Qkb {B:Nat} {l l':List Int}:inB B (l++l')↔inB B l/\inB B l':=by
 simp only [inB,List.mem_append]
 exact ⟨λh=>⟨λx hx=>h x (.inl hx),λx hx=>h x (.inr hx)⟩,λh x hx=>hx.elim (h.1 x) (h.2 x)⟩
theorem Qwb {B:Nat} (hB:2<=B) (i:Nat):∀n,(toB B n).getD i 0=((n/B^i%B:Nat):Int):=by
 induction i with
 |
  zero=>
  intro n
  rcases Nat.eq_zero_or_pos n with rfl|hn
  ·simp [toB_zero]
  ·rw [Wg hB hn];simp
 |
  succ i ih=>
  intro n
  rcases Nat.eq_zero_or_pos n with rfl|hn
  ·simp [toB_zero]
  ·rw [Wg hB hn,List.getD_cons_succ,ih,Nat.div_div_eq_div_mul,Nat.pow_succ,Nat.mul_comm B]
abbrev dg (n:Nat):List Int:=toB 10000 n
theorem b4:2<=10000:=by decide
theorem Qfk {n:Nat} (hn:n<9223372036854775808):z8.F (n:Int)=some (dg n):=by
 have key:∀(n:Nat),n<9223372036854775808->∀s:List Int,Qaw s->(s.length+(dg n).length<=1000000000)->Runs (λrec x=>z8.l0P rec some x) ((n:Int),s) ((0:Int),s++dg n):=by
  intro n
  induction n using Nat.strongRecOn with
  |
   _ n ih=>
   intro hn s hs hl
   rcases Nat.eq_zero_or_pos n with rfl|h0
   ·refine .done λrec=>?_
    simp [z8.l0P,toB_zero]
   ·have e:dg n=((n%10000:Nat):Int)::dg (n/10000):=Wg b4 h0
    have hd:n/10000<n:=Nat.div_lt_self h0 (by decide)
    rw [e] at hl ⊢
    have h2:=ih (n/10000) hd (by omega) (s++[((n%10000:Nat):Int)]) (by simp at *;omega) (by simp at *;omega)
    rw [List.append_assoc,List.singleton_append] at h2
    refine .step (λrec=>?_) h2
    unfold z8.l0P
    simp only
    have e1:Int.tmod (n:Int) 10000=((n%10000:Nat):Int):=by rw [Yk (by omega)];rfl
    have e2:wr .i64 (Int.tdiv (n:Int) 10000)=((n/10000:Nat):Int):=by rw [Yd (by omega),Qc (by omega) (by omega)];rfl
    rw [bif_t (by omega),if_pos (by simp at *;omega),e1,e2]
 unfold z8.F z8.l0
 have hl:(dg n).length<=5:=Yj b4 (by omega)
 rw [(key n hn [] (by simp) (by simp;omega)).lfp]
 simp
def dig4 (d:Int):List Int:=[d%10,d/10%10,d/100%10,d/1000%10]
theorem Qxi {d:Int} (h0:0<=d):inB 10 (dig4 d):=by
 intro x hx;simp [dig4] at hx;rcases hx with rfl|rfl|rfl|rfl<;>omega
theorem Qu3 {d:Int} (h0:0<=d) (h:d<10000):valB 10 (dig4 d)=d:=by simp [dig4,valB];omega
theorem Qsx:∀{l:List Int},inB 10000 l->inB 10 (l.flatMap dig4)
 |[],_=>inB_nil 10
 |x::l,h=>by rw [Wt] at h;rw [List.flatMap_cons,Qkb];exact ⟨Qxi h.1.1,Qsx h.2⟩
theorem Qrt:∀{l:List Int},inB 10000 l->valB 10 (l.flatMap dig4)=valB 10000 l
 |[],_=>rfl
 |
  x::l,h=>by
  rw [Wt] at h
  rw [List.flatMap_cons,Qdy,Qu3 h.1.1 h.1.2,Qrt h.2]
  simp [dig4,valB]
theorem Qie:∀(l:List Int),(l.flatMap dig4).length=4*l.length
 |[]=>rfl
 |x::l=>by rw [List.flatMap_cons,List.length_append,Qie l];simp [dig4];omega
theorem Q1a (s:List UInt8) (hs:Qaw s) (d:Int) (h0:0<=d) (hd:d<10000):∃d',z5.l2 (s,d,(0:Int))=some (((dig4 d).reverse.map ch)++s,d',4):=by
 have hs':s.length<=1000000000:=hs
 have one:∀(s:List UInt8) (d:Int) (k:Nat),s.length<=1000000004->0<=d->d<10000->k<4->∀rec,z5.l2P rec some (s,d,(k:Int))=rec (ch (d%10)::s,d/10,((k+1:Nat):Int)):=by
  intro s d k hs h0 hd hk rec
  unfold z5.l2P
  simp only
  rw [bif_t (by omega),if_pos (by simp;omega),Yk h0,Yd h0,Qc (n:=48+d%10) (by omega) (by omega),Qgd (by omega) (by omega),Qc (n:=d/10) (by omega) (by omega),Qc (by omega) (by omega)]
  have:(48+d%10).toNat=48+(d%10).toNat:=by omega
  simp [ch,this]
 refine ⟨d/10/10/10/10,?_⟩
 unfold z5.l2
 refine Runs.lfp (.step (one s d 0 (by omega) h0 hd (by decide)) (.step (one _ (d/10) 1 (by simp;omega) (by omega) (by omega) (by decide)) (.step (one _ (d/10/10) 2 (by simp;omega) (by omega) (by omega) (by decide)) (.step (one _ (d/10/10/10) 3 (by simp;omega) (by omega) (by omega) (by decide)) (.done λrec=>?_)))))
 unfold z5.l2P
 simp only
 rw [Qa (by omega)]
 have e1:d/10/10=d/100:=by omega
 have e2:d/10/10/10=d/1000:=by omega
 simp [dig4,e1,show d/100/10=d/1000 by omega]
theorem Q3h {l:List Int} (hl:inB 10000 l) (hs:4*l.length<=1000000000):z5.l0 l ([],(0:Int))=some ((l.flatMap dig4).reverse.map ch,(l.length:Int)):=by
 have key:∀(k:Nat),k<=l.length->Runs (λrec x=>z5.l0P l rec some x) (((l.take (l.length-k)).flatMap dig4).reverse.map ch,((l.length-k:Nat):Int)) ((l.flatMap dig4).reverse.map ch,(l.length:Int)):=by
  intro k
  induction k with
  |
   zero=>
   intro _
   refine .done λrec=>?_
   unfold z5.l0P
   simp
  |
   succ k ih=>
   intro hk
   have hi:l.length-(k+1)<l.length:=by omega
   have hm:=hl l[l.length-(k+1)] (List.getElem_mem hi)
   obtain ⟨d',h2⟩:=Q1a (((l.take (l.length-(k+1))).flatMap dig4).reverse.map ch) (by
    show List.length _<=_;rw [List.length_map,List.length_reverse,Qie,List.length_take];omega) _ hm.1 hm.2
   refine .step (λrec=>?_) (ih (by omega))
   unfold z5.l0P
   simp only
   rw [bif_t (by omega),if_pos (by omega),Zi,Wa hi,h2]
   simp only [Zb]
   rw [Qc (by omega) (by omega)]
   have e:l.take (l.length-k)=l.take (l.length-(k+1))++[l[l.length-(k+1)]]:=by
    rw [<-List.take_succ_eq_append_getElem hi];congr 1;omega
   have e2:((l.length-(k+1):Nat):Int)+1=((l.length-k:Nat):Int):=by omega
   rw [e,e2,List.flatMap_append]
   simp only [List.flatMap_cons,List.flatMap_nil,List.append_nil,List.reverse_append,List.map_append]
 have:=key l.length (Nat.le_refl _)
 simp only [Nat.sub_self,List.take_zero,List.flatMap_nil,List.reverse_nil,List.map_nil] at this
 exact this.lfp
theorem Qq1 {d:Int} (h0:0<=d) (h:d<10):((ch d).toNat:Int)=48↔d=0:=by rw [Qhh h0 h];omega
theorem Qle {n:Nat} (hs:4*(dg n).length<=1000000000):z5.F (dg n)=some (txt n):=by
 unfold z5.F txt
 by_cases hn:n=0
 ·subst hn;simp [dg,toB_zero]
 ·have hne:dg n≠[]:=λe=>hn ((toB_nil b4).1 e)
  have hlen:=List.length_pos_iff.2 hne
  rw [Qa (by omega),if_neg hn,Q3h (Qx b4 n) hs]
  simp only [Zb]
  generalize hfl:(dg n).flatMap dig4=fl
  have hin:inB 10 fl:=by rw [<-hfl];exact Qsx (Qx b4 n)
  have hv:valB 10 fl=n:=by rw [<-hfl,Qrt (Qx b4 n),Q8 b4]
  have hl:fl.length<=1000000000:=by rw [<-hfl,Qie];exact hs
  have key:∀k:Nat,k<=fl.length->valB 10 (fl.take k)=n->∃m:Nat,m<=k/\Runs (λrec x=>z5.l4P (fl.reverse.map ch) rec some x) ((fl.length-k:Nat):Int) ((fl.length-m:Nat):Int)/\valB 10 (fl.take m)=n/\(m=0\/fl.getD (m-1) 0≠0):=by
   intro k
   induction k with
   |zero=>intro _ h;simp [valB] at h;omega
   |
    succ k ih=>
    intro hk h
    have hi:fl.length-(k+1)<(fl.reverse.map ch).length:=by simp;omega
    have hk':k<fl.length:=by omega
    have hm:=hin fl[k] (List.getElem_mem hk')
    have eg:(fl.reverse.map ch).getD (fl.length-(k+1)) 0=ch fl[k]:=by
     have e0:fl.length-1-(fl.length-(k+1))=k:=by omega
     simp only [List.getD,List.getElem?_eq_getElem hi,Option.getD_some,List.getElem_map,List.getElem_reverse,e0]
    by_cases hz:fl[k]=0
    ·obtain ⟨m,h1,h2,h3,h4⟩:=ih (by omega) (by rw [Yp hk',hz] at h;simpa using h)
     refine ⟨m,by omega,.step (λrec=>?_) h2,h3,h4⟩
     unfold z5.l4P
     rw [if_pos (by simp;omega),Zi,eg,bif_t ((Qq1 hm.1 hm.2).2 hz),Qc (by omega) (by omega)]
     congr 1;omega
    ·refine ⟨k+1,Nat.le_refl _,.done λrec=>?_,h,.inr (by rw [Nat.add_sub_cancel,Wa hk'];exact hz)⟩
     unfold z5.l4P
     rw [if_pos (by simp;omega),Zi,eg,Qa (λe=>hz ((Qq1 hm.1 hm.2).1 e))]
  obtain ⟨m,h1,h2,h3,h4⟩:=key fl.length (Nat.le_refl _) (by rw [List.take_length];exact hv)
  rw [Nat.sub_self] at h2
  unfold z5.l4
  rw [show (0:Int)=((0:Nat):Int) from rfl,h2.lfp]
  simp only [Zb]
  rw [if_pos (by rw [List.length_map,List.length_reverse];omega),Zi]
  have hm:m≠0:=by rintro rfl;simp [valB] at h3;omega
  have e:fl.take m=toB 10 n:=by
   have:=Qhq b10 (l:=fl.take m) (λx hx=>hin x (List.mem_of_mem_take hx)) λhne=>by
    rcases h4 with h4|h4
    ·exact absurd h4 hm
    ·rw [List.getLast_eq_getElem]
     rw [Wa (by omega)] at h4
     simp only [List.length_take,List.getElem_take]
     have:min m fl.length-1=m-1:=by omega
     simp only [this];exact h4
   rwa [h3,Zi] at this
  rw [<-e,<-List.map_drop,List.reverse_take]
theorem Q45 (n:Nat):(((dg n).length:Nat):Int)=0↔n=0:=by
 constructor
 ·intro h;exact (toB_nil b4).1 (List.length_eq_zero_iff.1 (Int.ofNat_eq_zero.1 h))
 ·rintro rfl;simp [dg,toB_zero]
theorem Qhn (n:Nat):(((dg n).length:Nat):Int)>0↔0<n:=by
 have:=Q45 n;omega
theorem Qem (n:Nat) (b:Bool):z7.F (dg n) b=some (dg n,b&&decide (0<n)):=by
 unfold z7.F
 cases b
 ·rfl
 ·simp only [Zd,Bool.true_and]
  congr 2
  exact decide_eq_decide.2 (Qhn n)
theorem Q4o {z:Int} {b:Bool} (h:(b=true/\z<=0)\/(b=false/\0<=z)):z7.F (dg z.natAbs) b=some (dg z.natAbs,neg z):=by
 rw [Qem]
 congr 2
 rcases h with ⟨rfl,h⟩|⟨rfl,h⟩
 ·rw [Bool.true_and];exact decide_eq_decide.2 (by omega)
 ·rw [Bool.false_and];symm;exact Zf (by omega)
theorem Wk {z:Int} (h:-9223372036854775808<z/\z<9223372036854775808):z9.F z=some (dg z.natAbs,neg z):=by
 unfold z9.F
 by_cases hz:z<0
 ·have e:wr .i64 (0-z)=((z.natAbs:Nat):Int):=by rw [Qc (by omega) (by omega)];omega
  rw [bif_t hz,e,Qfk (by omega)]
  simp only [Zb]
  rw [Q4o (z:=z) (.inl ⟨rfl,by omega⟩)];rfl
 ·have e:z=((z.natAbs:Nat):Int):=by omega
  rw [Qa hz]
  conv=>lhs;rw [e]
  rw [Qfk (by omega)]
  simp only [Zb]
  rw [Q4o (z:=z) (.inr ⟨rfl,by omega⟩)];rfl
theorem Qkl {z:Int} (hs:4*(dg z.natAbs).length<=1000000000) (hl:(txt z.natAbs).length<=1000000000):z6.F (dg z.natAbs) (neg z)=some (if z<0 then 45::txt z.natAbs else txt z.natAbs):=by
 unfold z6.F
 rw [Qle hs]
 simp only [Zb]
 by_cases h:z<0
 ·rw [bif_t h,if_pos (by simp;omega),if_pos h];rfl
 ·rw [Qa h,if_neg h]
theorem Qp (n:Nat):(dg n).length<=sz n:=Yj b4 (Nat.lt_of_lt_of_le (J6 n) (Nat.pow_le_pow_left (by decide) _))
theorem Qj9 (y:Int):z10.F y=some (decide (goodY y/\leap y)):=by
 unfold z10.F z10.j1
 simp only [Qc2 (show (0:Int)<4 by decide),Qc2 (show (0:Int)<100 by decide),Qc2 (show (0:Int)<400 by decide)]
 by_cases h1:y<1
 ·rw [bif_t h1];congr 1;symm;exact Zf (by omega)
 ·rw [Qa h1]
  by_cases h2:y>9999
  ·rw [bif_t h2];congr 1;symm;exact Zf (by omega)
  ·rw [Qa h2]
   by_cases h4:y%400=0
   ·rw [bif_t h4];congr 1;symm;exact Zt (by omega)
   ·rw [Qa h4]
    by_cases h3:y%4=0
    ·rw [bif_t h3];congr 1
     by_cases h5:y%100=0
     ·rw [Zt h5];symm;exact Zf (by omega)
     ·rw [Zf h5];symm;exact Zt (by omega)
    ·rw [Qa h3];congr 1;symm;exact Zf (by omega)
theorem Qcx (y m:Int):z11.F y m=some (dDays y m):=by
 unfold z11.F z11.j1 dDays
 by_cases h0:y<1
 ·rw [bif_t h0,if_pos (by omega)]
 ·rw [Qa h0]
  by_cases h9:y>9999
  ·rw [bif_t h9,if_pos (by omega)]
  ·rw [Qa h9]
   by_cases h1:m<1
   ·rw [bif_t h1,if_pos (by omega)]
   ·rw [Qa h1]
    by_cases h12:m>12
    ·rw [bif_t h12,if_pos (by omega)]
    ·rw [Qa h12,if_neg (by omega)]
     by_cases h2:m=2
     ·rw [bif_t h2,if_pos h2,Qj9]
      simp only [Zb]
      by_cases hl:leap y
      ·rw [Zt ⟨by omega,hl⟩,if_pos hl];rfl
      ·rw [Zf (λhh=>hl hh.2),if_neg hl];rfl
     ·rw [Qa h2,if_neg h2]
      by_cases g4:m=4
      ·rw [bif_t g4,if_pos (.inl g4)]
      ·rw [Qa g4]
       by_cases g6:m=6
       ·rw [bif_t g6,if_pos (by omega)]
       ·rw [Qa g6]
        by_cases g9:m=9
        ·rw [bif_t g9,if_pos (by omega)]
        ·rw [Qa g9]
         by_cases g11:m=11
         ·rw [bif_t g11,if_pos (by omega)]
         ·rw [Qa g11,if_neg (by omega)]
theorem Qqs {n:Int} (hn:1<=n):∀(f:Nat) (y:Int),1<=y->y<=f+1->y<=10000->∃y',Runs (λrec x=>z99.l0P n rec some x) y y'/\1<=y'/\y'<=y/\aheadY y'<n
 |
  0,y,h1,h2,h3=>by
  have:y=1:=by omega
  subst this
  have e:aheadY 1=0:=rfl
  refine ⟨1,.done λrec=>?_,by omega,by omega,by omega⟩
  unfold z99.l0P
  rw [Qbv (by omega) (by omega)]
  simp only [Zb]
  rw [Qa (by omega)]
 |
  f+1,y,h1,h2,h3=>by
  by_cases h:aheadY y>=n
  ·have hy:1<y:=by
    rcases Int.lt_or_eq_of_le h1 with h'|h'
    ·exact h'
    ·subst h';have e:aheadY 1=0:=rfl;omega
   obtain ⟨y',r,a1,a2,a3⟩:=Qqs hn f (y-1) (by omega) (by omega) (by omega)
   refine ⟨y',.step (λrec=>?_) r,a1,by omega,a3⟩
   unfold z99.l0P
   rw [Qbv (by omega) (by omega)]
   simp only [Zb]
   rw [bif_t h,Qc (by omega) (by omega)]
  ·refine ⟨y,.done λrec=>?_,by omega,by omega,by omega⟩
   unfold z99.l0P
   rw [Qbv (by omega) (by omega)]
   simp only [Zb]
   rw [Qa h]
theorem Qpt {n:Int} (hn:n<=3652059):∀(f:Nat) (y:Int),1<=y->y<=9999->9999<=y+f->aheadY y<n->∃y',Runs (λrec x=>z99.l2b6P n rec some x) y y'/\1<=y'/\y'<=9999/\aheadY y'<n/\n<=aheadY (y'+1)
 |
  0,y,h1,h2,h3,h4=>by
  have:y=9999:=by omega
  subst this
  have e:aheadY 10000=3652059:=by decide
  refine ⟨9999,.done λrec=>?_,by omega,by omega,h4,by show n<=aheadY 10000;omega⟩
  unfold z99.l2b6P
  rw [Qa (by omega)]
 |
  f+1,y,h1,h2,h3,h4=>by
  by_cases h9:y<9999
  ·have e1:wr .i64 (y+1)=y+1:=Qc (by omega) (by omega)
   by_cases h:aheadY (y+1)<n
   ·obtain ⟨y',r,a1,a2,a3,a4⟩:=Qpt hn f (y+1) (by omega) (by omega) (by omega) h
    refine ⟨y',.step (λrec=>?_) r,a1,a2,a3,a4⟩
    unfold z99.l2b6P
    rw [bif_t h9,e1,Qbv (by omega) (by omega)]
    simp only [Zb]
    rw [bif_t h]
   ·refine ⟨y,.done λrec=>?_,h1,h2,h4,by omega⟩
    unfold z99.l2b6P
    rw [bif_t h9,e1,Qbv (by omega) (by omega)]
    simp only [Zb]
    rw [Qa h]
  ·have:y=9999:=by omega
   subst this
   have e:aheadY 10000=3652059:=by decide
   refine ⟨9999,.done λrec=>?_,by omega,by omega,h4,by show n<=aheadY 10000;omega⟩
   unfold z99.l2b6P
   rw [Qa (by omega)]
theorem Ql3 {y c:Int} (hy:goodY y) (hc:c<=cumD y 13):∀(f:Nat) (n m:Int),1<=n->n<=400->1<=m->m<=12->12<=m+f->n+cumD y m=c->∃n' m',Runs (λrec x=>z99.l4P y rec some x) (n,m) (n',m')/\right y m' n'/\n'+cumD y m'=c
 |
  0,n,m,h1,h2,h3,h4,h5,h6=>by
  have:m=12:=by omega
  subst this
  have s:=Jj hy (m:=12) (by omega)
  have s':cumD y (12+1)=cumD y 13:=rfl
  refine ⟨n,12,.done λrec=>?_,⟨h1,by omega⟩,h6⟩
  unfold z99.l4P
  simp only
  rw [date_Days]
  simp only [Zb]
  rw [Qa (by omega)]
 |
  f+1,n,m,h1,h2,h3,h4,h5,h6=>by
  have s:=Jj hy (m:=m) (by omega)
  have hd:=Qdg y m
  by_cases h:n>dDays y m
  ·have hm:m<12:=by
    rcases Int.lt_or_eq_of_le h4 with h'|h'
    ·exact h'
    ·subst h'
     have s':cumD y (12+1)=cumD y 13:=rfl
     omega
   obtain ⟨n',m',r,a1,a2⟩:=Ql3 hy hc f (n-dDays y m) (m+1) (by omega) (by omega) (by omega) (by omega) (by omega) (by omega)
   refine ⟨n',m',.step (λrec=>?_) r,a1,a2⟩
   unfold z99.l4P
   simp only
   rw [date_Days]
   simp only [Zb]
   rw [bif_t h,Qc (by omega) (by omega),Qc (by omega) (by omega)]
  ·refine ⟨n,m,.done λrec=>?_,⟨h1,by omega⟩,h6⟩
   unfold z99.l4P
   simp only
   rw [date_Days]
   simp only [Zb]
   rw [Qa h]
theorem date_Of {n:Int} (h:1<=n/\n<=3652059):∃y m d,z99.F n=some (y,m,d,0)/\right y m d/\num y m d=n:=by
 unfold z99.F z99.j1
 rw [Qa (by omega),Qa (by omega),Qc (n:=n*400) (by omega) (by omega),Yd (by omega),Qc (n:=n*400/146097) (by omega) (by omega),Qc (n:=n*400/146097+1) (by omega) (by omega)]
 generalize hy0:(if 9999<n*400/146097+1 then (9999:Int) else n*400/146097+1)=y0
 have b0:1<=y0/\y0<=9999:=by subst hy0;split<;>omega
 obtain ⟨y1,r1,a1,a2,a3⟩:=Qqs h.1 9999 y0 b0.1 (by omega) (by omega)
 obtain ⟨y2,r2,c1,c2,c3,c4⟩:=Qpt h.2 9999 y1 a1 (by omega) (by omega) a3
 have s:=Qan y2
 have sb:=Qi7 (y:=y2) (m:=13) (by omega)
 obtain ⟨n',m',r3,d1,d2⟩:=Ql3 (y:=y2) (c:=n-aheadY y2) ⟨c1,c2⟩ (by omega) 11 (n-aheadY y2) 1 (by omega) (by omega) (by omega) (by omega) (by omega) (by rw [Jm];omega)
 have e1:z99.l0 n y0=some y1:=r1.lfp
 have e2:z99.l2b6 n y1=some y2:=r2.lfp
 have e3:z99.l4 y2 (n-aheadY y2,(1:Int))=some (n',m'):=r3.lfp
 have hb:=Jy (y:=y2) (by omega)
 rw [e1]
 simp only [Zb]
 rw [e2]
 simp only [Zb]
 rw [Qbv (by omega) (by omega)]
 simp only [Zb]
 rw [Qc (by omega) (by omega),e3]
 refine ⟨y2,m',n',rfl,d1,?_⟩
 unfold num;omega
theorem Q3d {n:Int} (h:¬(1<=n/\n<=3652059)):z99.F n=some (0,0,0,11):=by
 unfold z99.F
 by_cases h1:n<1
 ·rw [bif_t h1]
 ·rw [Qa h1,bif_t (by omega)]
theorem month_AddDays {y m d k:Int} (h:right y m d):(∃y' m' d',z100.F y m d k=some (y',m',d',0)/\right y' m' d'/\num y' m' d'=num y m d+k)\/(¬(1<=num y m d+k/\num y m d+k<=3652059)/\z100.F y m d k=some (0,0,0,11)):=by
 have b:=Qh7 h
 unfold z100.F
 rw [date_Number,if_pos h]
 simp only [Zb,decide_true,Zn,Zc]
 by_cases h1:k < -3719628
 ·rw [bif_t h1];exact .inr ⟨by omega,rfl⟩
 ·rw [Qa h1]
  by_cases h2:k>3719628
  ·rw [bif_t h2];exact .inr ⟨by omega,rfl⟩
  ·rw [Qa h2,Qc (by omega) (by omega)]
   by_cases hr:1<=num y m d+k/\num y m d+k<=3652059
   ·obtain ⟨y',m',d',e,r,n⟩:=date_Of hr
    rw [e]
    exact .inl ⟨y',m',d',rfl,r,n⟩
   ·rw [Q3d hr]
    exact .inr ⟨hr,rfl⟩
theorem Qjz {a b:Int} (hb:0<b):(Int.tmod a b<0->Int.tmod a b+b=a%b)/\(¬Int.tmod a b<0->Int.tmod a b=a%b)/\-b<Int.tmod a b/\Int.tmod a b<b:=by
 have h1:=Int.emod_nonneg a (show b≠0 by omega)
 have h2:=Int.emod_lt_of_pos a hb
 have h3:=Int.tmod_eq_emod (a:=a) (b:=b)
 by_cases h:0<=a\/b∣a
 ·rw [if_pos h] at h3;omega
 ·rw [if_neg h] at h3
  have:a%b≠0:=λe=>h (.inr (Int.dvd_of_emod_eq_zero e))
  omega
theorem Qks {a b c n:Int} (hn:1<=n/\n<=9999):∃y m d,z12.F a b c n=some (y,m,d)/\right y m d/\y<=n:=by
 have f1:=Qjz (a:=a) (b:=n) (by omega)
 have f2:=Qjz (a:=b) (b:=12) (by omega)
 have m1:=Int.emod_nonneg a (show n≠0 by omega)
 have m2:=Int.emod_lt_of_pos a (show 0<n by omega)
 have hd:=Qbn (y:=a%n+1) (m:=b%12+1) (by omega) (by omega)
 have hd':=Qdg (a%n+1) (b%12+1)
 have f3:=Qjz (a:=c) (b:=dDays (a%n+1) (b%12+1)) (by omega)
 have m5:=Int.emod_nonneg c (show dDays (a%n+1) (b%12+1)≠0 by omega)
 have m6:=Int.emod_lt_of_pos c (show 0<dDays (a%n+1) (b%12+1) by omega)
 refine ⟨a%n+1,b%12+1,c%dDays (a%n+1) (b%12+1)+1,?_,⟨by omega,by omega⟩,by omega⟩
 have hj8:∀j,j=b%12->Int.tmod a n=a%n->z12.j8 a n j c=some (a%n+1,b%12+1,c%dDays (a%n+1) (b%12+1)+1):=λj hj ht=>by
  subst hj
  unfold z12.j8
  rw [ht,Qc (n:=a%n+1) (by omega) (by omega),Qc (n:=b%12+1) (by omega) (by omega),Qcx]
  simp only [Zb]
  rw [if_neg (by omega)]
  generalize dDays (a%n+1) (b%12+1)=k at *
  by_cases h:Int.tmod c k<0
  ·rw [bif_t h,Qc (n:=Int.tmod c k+k) (by omega) (by omega),f3.1 h,Qc (by omega) (by omega)]
  ·rw [Qa h,f3.2.1 h,Qc (by omega) (by omega)]
 have hj5:∀j,j=b%12->Int.tmod a n<0->z12.j5 a n j c=some (a%n+1,b%12+1,c%dDays (a%n+1) (b%12+1)+1):=λj hj ht=>by
  subst hj
  unfold z12.j5 z12.j7
  rw [Qc (n:=Int.tmod a n+n) (by omega) (by omega),f1.1 ht,Qc (n:=a%n+1) (by omega) (by omega),Qc (n:=b%12+1) (by omega) (by omega),Qcx]
  simp only [Zb]
  rw [if_neg (by omega)]
  generalize dDays (a%n+1) (b%12+1)=k at *
  by_cases h:Int.tmod c k<0
  ·rw [bif_t h,Qc (n:=Int.tmod c k+k) (by omega) (by omega),f3.1 h,Qc (by omega) (by omega)]
  ·rw [Qa h,f3.2.1 h,Qc (by omega) (by omega)]
 unfold z12.F
 rw [if_neg (by omega)]
 by_cases h1:Int.tmod a n<0
 ·rw [bif_t h1]
  by_cases h2:Int.tmod b 12<0
  ·rw [bif_t h2,Qc (by omega) (by omega),f2.1 h2];exact hj5 _ rfl h1
  ·rw [Qa h2,f2.2.1 h2];exact hj5 _ rfl h1
 ·rw [Qa h1]
  by_cases h2:Int.tmod b 12<0
  ·rw [bif_t h2,Qc (by omega) (by omega),f2.1 h2];exact hj8 _ rfl (f1.2.1 h1)
  ·rw [Qa h2,f2.2.1 h2];exact hj8 _ rfl (f1.2.1 h1)
def pv (x:D3×D3):List V:=[.int .i64 x.1.1,.int .i64 x.1.2.1,.int .i64 x.1.2.2,.int .i64 x.2.1,.int .i64 x.2.2.1,.int .i64 x.2.2.2]
theorem W8 {z:Int} (hs:sz z.natAbs<=100000000):z6.F (dg z.natAbs) (neg z)=some (itxt z):=by
 have h1:=Qc9 z.natAbs
 have h2:=Qp z.natAbs
 exact Qkl (by omega) (by omega)
theorem Qk4 {n:Nat} (h0:10<=n) (h:n<100):txt n=[ch ((n/10:Nat):Int),ch ((n%10:Nat):Int)]:=by
 unfold txt
 rw [if_neg (by omega),Wg b10 (by omega),Wg b10 (by omega),Nat.div_eq_of_lt (by omega:n/10<10),toB_zero,Nat.mod_eq_of_lt (by omega:n/10<10)];rfl
theorem Qd6 (q:Rat) (b:List Int):z147.F (lb q.num.natAbs) (neg q.num) b=some (cmpI q.num 0):=by
 unfold z147.F
 rw [W0]
 rfl
theorem Qgo {k j:Nat} {q r:Rat} (hq:Sq k q) (hr:Sq j r) (hs:k+j<=100000000) :
  z175.F (fr q).1 (fr q).2.1 (fr q).2.2 (fr r).1 (fr r).2.1 (fr r).2.2=some (cmpI (q.num*r.den) (r.num*q.den)):=by
 have h2:=hq.cross hr;have h2':=hr.cross hq
 have q1:=hq.1;have q2:=hq.2;have r1:=hr.1;have r2:=hr.2
 have l1:=Qj q.num.natAbs;have l2:=Qj r.num.natAbs;have l3:=Qj q.den;have l4:=Qj r.den
 have l3':(lb (q.den:Int).natAbs).length<=sz q.den:=l3
 have l4':(lb (r.den:Int).natAbs).length<=sz r.den:=l4
 have l5:=Qj (q.num*r.den).natAbs;have l6:=Qj (r.num*q.den).natAbs
 unfold z175.F
 rw [Qct r _ _ (by omega)]
 simp only [Zb]
 rw [Yi (by omega)]
 simp only [Zb]
 rw [Qct q _ _ (by omega)]
 simp only [Zb]
 rw [Yi (by omega)]
 simp only [Zb]
 rw [Qc5 (by omega)]
 rfl
theorem Qyk (q:Rat) (b:List Int):z148.F (lb q.num.natAbs) (neg q.num) b=some (lb q.num.natAbs,neg q.num):=rfl
theorem Qxf {q r:Rat}:cmpI (q.num*r.den) (r.num*q.den)<0↔q<r:=by rw [Q6,Rat.lt_iff]
theorem Qvy {q r:Rat}:cmpI (q.num*r.den) (r.num*q.den)=0↔q=r:=by rw [Yt,Rat.eq_iff_mul_eq_mul]
def rndN (m:Int) (a d:Nat):Nat:=if upN m (a/d) (a%d) d then a/d+1 else a/d
def rnd (m:Int) (q:Rat):Int:=if q.num<0 then -(rndN m q.num.natAbs q.den:Int) else (rndN m q.num.natAbs q.den:Int)
theorem Qua (m:Int) {d:Nat} (h:0<d):rndN m 0 d=0:=by
 unfold rndN
 rw [Nat.zero_mod,Nat.zero_div,if_neg (λhu=>hu.1 rfl)]
theorem Qhm (m:Int):rnd m 0=0:=by
 unfold rnd
 rw [if_neg (by decide)]
 show ((rndN m 0 1:Nat):Int)=0
 rw [Qua m (by decide)];rfl
theorem Jg {a b:D3} (h:rightD a) (h':rightD b) (e:numD a=numD b):a=b:=by
 have h1:=Q9 h h'
 rw [e] at h1
 have h2:cmpI (numD b) (numD b)=0:=by unfold cmpI;rw [if_neg (by omega),if_pos rfl]
 rw [h2] at h1
 unfold cmpD dcmp at h1
 obtain ⟨a1,a2,a3⟩:=a
 obtain ⟨b1,b2,b3⟩:=b
 simp only at h1
 have:a1=b1/\a2=b2/\a3=b3:=by
  split at h1
  ·simp at h1
  ·split at h1
   ·simp at h1
   ·split at h1
    ·simp at h1
    ·split at h1
     ·simp at h1
     ·split at h1
      ·simp at h1
      ·split at h1
       ·simp at h1
       ·omega
 obtain ⟨rfl,rfl,rfl⟩:=this;rfl
theorem Qly {b:Int} (hb:b≠0) (y m d y' m' d' y2 m2 d2:Int):yf b y m d y' m' d'+yf b y' m' d' y2 m2 d2=yf b y m d y2 m2 d2:=by
 unfold yf
 rw [if_neg hb,if_neg hb,if_neg hb]
 split
 ·rw [Rat.divInt_eq_div,Rat.divInt_eq_div,Rat.divInt_eq_div,Rat.intCast_sub,Rat.intCast_sub,Rat.intCast_sub]
  grind
 ·grind
theorem Qkk {b:Int} {to:D3} {g:Lg->Lg} (hf:∀x,(g x).f=x.f):∀(l:List Lg) (s:Rat),(∀x∈l,term b to (g x)=2*term b to x)->exL b to (2*s) (l.map g)=2*exL b to s l
 |[],s,_=>rfl
 |
  x::l,s,h=>by
  have ih:=λs=>Qkk (b:=b) (to:=to) hf l s λy hy=>h y (List.mem_cons_of_mem _ hy)
  rw [List.map_cons]
  unfold exL
  rw [hf x]
  split
  ·rfl
  ·rw [h x (List.mem_cons_self ..),<-Rat.mul_add,ih]
theorem Qjb {y k j:Int} (h:k<=j):inY y k<=inY y j:=by
 rw [Rat.le_iff_sub_nonneg,Qd7]
 exact Rat.divInt_nonneg (by omega) (Int.le_of_lt (Qss y))
theorem Q0a {a b:D3} (ha:rightD a) (hb:rightD b) (h:numD a<=numD b):yAt a.1 a.2.1 a.2.2<=yAt b.1 b.2.1 b.2.2:=by
 obtain ⟨a1,a2⟩:=Qj7 ha
 obtain ⟨b1,b2⟩:=Qj7 hb
 unfold yAt
 rcases Int.lt_trichotomy a.1 b.1 with hy|hy|hy
 ·have i1:=Qjb (y:=a.1) (k:=numD a) (j:=aheadY (a.1+1)+1) (by unfold numD;omega)
  have i2:=Qjb (y:=b.1) (k:=aheadY b.1+1) (j:=numD b) b1
  rw [Qh8] at i1
  rw [Qjx] at i2
  have i3:((a.1+1:Int):Rat)<=(b.1:Rat):=Rat.intCast_le_intCast.2 (by omega)
  exact Rat.le_trans i1 (Rat.le_trans i3 i2)
 ·rw [hy]
  exact Qjb (by unfold numD at h;rw [<-hy];rw [<-hy] at h;exact h)
 ·exfalso
  have:=Qaj (y:=b.1+1) (y':=a.1) (by omega)
  unfold numD at h
  omega
theorem Q0y {a b:D3} (ha:rightD a) (hb:rightD b) (h:numD a<=numD b):0<=Wd a.1 a.2.1 a.2.2 b.1 b.2.1 b.2.2:=by
 have ga:=Q3 ha
 have gb:=Q3 hb
 have hle:a.1<b.1\/a.1=b.1/\(a.2.1<b.2.1\/a.2.1=b.2.1/\a.2.2<=b.2.2):=by
  rcases Classical.em (b.1<a.1\/b.1=a.1/\(b.2.1<a.2.1\/b.2.1=a.2.1/\b.2.2<a.2.2)) with hh|hh
  ·have:=Qhg hb ha hh
   unfold numD at h
   omega
  ·omega
 unfold Wd
 obtain ⟨a1,a2,a3⟩:=a
 obtain ⟨b1,b2,b3⟩:=b
 simp only at *
 split<;>split<;>omega
theorem Qqx (b:Int) {x y:D3} (hx:rightD x) (hy:rightD y) (h:numD x<=numD y):0<=yf b x.1 x.2.1 x.2.2 y.1 y.2.1 y.2.2:=by
 unfold yf
 split
 ·exact Rat.divInt_nonneg (Q0y hx hy h) (by decide)
 ·split
  ·exact Rat.divInt_nonneg (by unfold numD at h;omega) (by decide)
  ·exact (Rat.le_iff_sub_nonneg _ _).1 (Q0a hx hy h)
theorem Qzd {b:Int} (hb:b≠0) {x y z:D3} (hy:rightD y) (hz:rightD z) (h:numD y<=numD z):yf b x.1 x.2.1 x.2.2 y.1 y.2.1 y.2.2<=yf b x.1 x.2.1 x.2.2 z.1 z.2.1 z.2.2:=by
 rw [<-Qly hb x.1 x.2.1 x.2.2 y.1 y.2.1 y.2.2 z.1 z.2.1 z.2.2]
 have:=Qqx b hy hz h
 generalize yf b y.1 y.2.1 y.2.2 z.1 z.2.1 z.2.2=u at *
 generalize yf b x.1 x.2.1 x.2.2 y.1 y.2.1 y.2.2=v at *
 grind
def okN (x:Lg):Prop:=0<=(mMoney x.op).1/\0<=(mRate x.rt).1
theorem Qm2 {b:Int} {to:D3} {x:Lg} (hr:rightD to) (h1:rightD x.f) (h2:rightD x.t) (h3:numD x.f<=numD x.t) (hn:okN x) (hc:¬cmpD x.f to>=0):0<=term b to x:=by
 obtain ⟨m1,m2⟩:=Qa9 h2 hr
 rw [Q9 h1 hr,W7] at hc
 unfold term
 exact Rat.mul_nonneg (Rat.mul_nonneg (Rat.intCast_nonneg.2 hn.1) hn.2) (Qqx b h1 m1 (by omega))
theorem Qkg {b:Int} {to:D3} (hr:rightD to):∀(l:List Lg) (s:Rat),(∀x∈l,rightD x.f/\rightD x.t/\numD x.f<=numD x.t/\okN x)->s<=exL b to s l
 |[],s,_=>Rat.le_refl
 |
  x::l,s,h=>by
  obtain ⟨h1,h2,h3,h4⟩:=h x (List.mem_cons_self ..)
  unfold exL
  split
  ·exact Rat.le_refl
  ·rename_i hc
   refine Rat.le_trans ?_ (Qkg hr l _ λy hy=>h y (List.mem_cons_of_mem _ hy))
   have:=Qm2 (b:=b) hr h1 h2 h3 h4 hc
   generalize term b to x=u at *
   grind
theorem Qq5 {b:Int} (hb:b≠0) {to to':D3} (hr:rightD to) (hr':rightD to') (hle:numD to<=numD to'):∀(l:List Lg) (s s':Rat),s<=s'->(∀x∈l,rightD x.f/\rightD x.t/\numD x.f<=numD x.t/\okN x)->exL b to s l<=exL b to' s' l
 |[],s,s',hs,_=>hs
 |
  x::l,s,s',hs,h=>by
  obtain ⟨h1,h2,h3,h4⟩:=h x (List.mem_cons_self ..)
  have ht:=λy hy=>h y (List.mem_cons_of_mem x hy)
  unfold exL
  by_cases hc:cmpD x.f to>=0
  ·rw [if_pos hc]
   split
   ·exact hs
   ·rename_i hc'
    refine Rat.le_trans ?_ (Qkg hr' l _ ht)
    have:=Qm2 (b:=b) hr' h1 h2 h3 h4 hc'
    generalize term b to' x=u at *
    grind
  ·rw [if_neg hc]
   have hc':¬cmpD x.f to'>=0:=by
    rw [Q9 h1 hr',W7]
    rw [Q9 h1 hr,W7] at hc
    omega
   rw [if_neg hc']
   refine Qq5 hb hr hr' hle l _ _ ?_ ht
   obtain ⟨m1,m2⟩:=Qa9 h2 hr
   obtain ⟨m1',m2'⟩:=Qa9 h2 hr'
   have hy:=Qzd hb (x:=x.f) m1 m1' (by omega)
   have hp:=Rat.mul_nonneg (Rat.intCast_nonneg.2 h4.1) h4.2
   have:term b to x<=term b to' x:=by
    unfold term
    exact Rat.mul_le_mul_of_nonneg_left hy hp
   generalize term b to x=u at *
   generalize term b to' x=v at *
   grind
theorem Qvd {n:Nat} (h:n<18446744073709551616):wr .u64 ((BitVec.ofInt (IntKind.bits .u64) (n:Int) &&& BitVec.ofInt (IntKind.bits .u64) (1:Int)).toNat:Int)=((n%2:Nat):Int):=by
 rw [BitVec.toNat_and,Qdq h,show (1:Int)=((1:Nat):Int) from rfl,Qdq (by omega),show (1:Nat)=2^1-1 from rfl,Nat.and_two_pow_sub_one_eq_mod,Qq (by omega) (by omega)]
theorem Qwp {m:Int} {low rest d:Nat} (hm:0<=m/\m<=4) (h0:rest≠0) (h1:sz low<=100000000) (h2:sz rest<=100000000):z149.F m (lb low) (lb rest) (lb d)=some (decide (upN m low rest d)):=by
 have l1:=Qj low;have l2:=Qj rest
 have l3:=Qj (rest+rest);have l4:=Y7 rest rest
 unfold z149.F
 rw [Qbq (by omega)]
 simp only [Zb]
 rw [Qcb (by omega)]
 simp only [Zb]
 have g:cmpI ((rest+rest:Nat):Int) d>=0↔d<=2*rest:=by rw [W7];omega
 have g':cmpI ((rest+rest:Nat):Int) d>0↔d<2*rest:=by rw [Wh];omega
 have g'':cmpI ((rest+rest:Nat):Int) d=0↔d=2*rest:=by rw [Yt];omega
 generalize cmpI ((rest+rest:Nat):Int) d=c at *
 unfold upN
 by_cases m1:m=1
 ·rw [bif_t m1];congr 1;symm;apply Zt;exact ⟨h0,.inl m1⟩
 rw [Qa m1]
 by_cases m2:m=2
 ·rw [bif_t m2];congr 1;apply decide_eq_decide.2;rw [g];omega
 rw [Qa m2]
 by_cases m3:m=3
 ·rw [bif_t m3];congr 1;apply decide_eq_decide.2;rw [g'];omega
 rw [Qa m3]
 by_cases m4:m=4
 ·rw [bif_t m4,J1 (by show List.length _<=_;omega)]
  simp only [Zb]
  have hlen:=Qko low
  by_cases hl:low=0
  ·rw [Qa (by omega)]
   by_cases c1:c>0
   ·rw [bif_t c1];congr 1;symm;apply Zt;omega
   ·have hF:∀x:Bool,(bif x then some false else some false)=some false:=λx=>by cases x<;>rfl
    rw [Qa c1,hF];congr 1;symm;apply Zf;omega
  ·rw [bif_t (by omega),if_pos (by omega)]
   have e0:(lb low).getD 0 0=((low%LB:Nat):Int):=by
    have:=Qwb bL 0 low
    rwa [Nat.pow_zero,Nat.div_one] at this
   have e1:low%LB%2=low%2:=Nat.mod_mod_of_dvd low (by decide)
   rw [e0,Qvd (n:=low%LB) (Nat.mod_lt _ (by decide)),e1]
   by_cases c1:c>0
   ·rw [bif_t c1];congr 1;symm;apply Zt;omega
   ·rw [Qa c1]
    by_cases c2:c=0
    ·rw [bif_t c2];congr 1;apply decide_eq_decide.2;omega
    ·rw [Qa c2];congr 1;symm;apply Zf;omega
 ·rw [Qa m4];congr 1;symm;apply Zf;omega
theorem Qji (m:Int) (q:Rat):(rnd m q).natAbs=rndN m q.num.natAbs q.den/\((neg q.num=true/\rnd m q<=0)\/(neg q.num=false/\0<=rnd m q)):=by
 unfold rnd
 by_cases h:q.num<0
 ·rw [if_pos h];exact ⟨by omega,.inl ⟨Zt h,by omega⟩⟩
 ·rw [if_neg h];exact ⟨by omega,.inr ⟨Zf h,by omega⟩⟩
theorem Qov (m:Int):z79.F m=some (decide (0<=m/\m<=4)):=by
 unfold z79.F
 by_cases h:m>=0
 ·rw [bif_t h];congr 1;apply decide_eq_decide.2;omega
 ·rw [Qa h];congr 1;symm;apply Zf;omega
theorem Q36 {m:Int} (h:¬(0<=m/\m<=4)) (a:List Int) (b:Bool) (c:List Int):z150.F a b c m=some ([],false,2):=by
 unfold z150.F
 rw [Qov,Zf h];rfl
theorem round_Whole {m:Int} {k:Nat} {q:Rat} (hm:0<=m/\m<=4) (hq:Sq k q) (hk:k<=40000000) :
  z150.F (fr q).1 (fr q).2.1 (fr q).2.2 m=some (lb (rnd m q).natAbs,neg (rnd m q),0):=by
 have q1:=hq.1;have q2:=hq.2
 have l1:=Qj q.num.natAbs
 have s1:=Qu (Nat.div_le_self q.num.natAbs q.den)
 have s2:=Qu (Nat.mod_le q.num.natAbs q.den)
 have l2:=Qj (q.num.natAbs/q.den)
 have l3:(lb 1).length<=1:=Nat.le_trans (Qj 1) (sz_le (by decide))
 obtain ⟨a1,a2⟩:=Qji m q
 have hj:∀b:List Int,z150.j14 (lb q.num.natAbs) (neg q.num) b (lb (rndN m q.num.natAbs q.den))=some (lb (rnd m q).natAbs,neg (rnd m q),0):=λb=>by
  unfold z150.j14
  rw [Qd6]
  simp only [Zb]
  rw [Qpb,Yu (z:=rnd m q) a1.symm a2]
  rfl
 unfold z150.F
 rw [Qov,Zt hm]
 simp only [Zb,Zn,Zc]
 rw [Qyk]
 simp only [Zb]
 unfold z59.F
 simp only [Zb]
 rw [Yy q _ _ (by omega)]
 simp only [Zb]
 have hdiv:z68.F (lb q.num.natAbs) (lb q.den)=_:=Qk0 q.den_pos (by omega)
 rw [hdiv]
 simp only [Zb]
 rw [Wy]
 simp only [Zb]
 by_cases hr:q.num.natAbs%q.den=0
 ·rw [Zt hr,Zn,Zc]
  have:rndN m q.num.natAbs q.den=q.num.natAbs/q.den:=by unfold rndN;rw [if_neg (λh=>h.1 hr)]
  rw [<-this];exact hj _
 ·rw [Zf hr,Zo,Zd]
  try rw [Yy q _ _ (by omega)]
  try simp only [Zb]
  rw [Qwp hm hr (by omega) (by omega)]
  simp only [Zb]
  by_cases hu:upN m (q.num.natAbs/q.den) (q.num.natAbs%q.den) q.den
  ·rw [bif_t hu,Yh (by omega)]
   simp only [Zb]
   rw [show Int.toNat 1=1 from rfl,Qbq (by omega)]
   simp only [Zb]
   have:rndN m q.num.natAbs q.den=q.num.natAbs/q.den+1:=by unfold rndN;rw [if_pos hu]
   rw [<-this];exact hj _
  ·rw [Qa hu]
   have:rndN m q.num.natAbs q.den=q.num.natAbs/q.den:=by unfold rndN;rw [if_neg hu]
   rw [<-this];exact hj _
theorem Qr7 {b:Int} {to:D3} (hr:rightD to):∀(l:List Lg) (s:Rat) (k:Nat),okL l->Sq k s->Sq (k+149*l.length) (exL b to s l)
 |[],s,k,_,hs=>hs
 |
  x::l,s,k,hk,hs=>by
  have hk':okL l:=λy hy=>hk y (List.mem_cons_of_mem _ hy)
  obtain ⟨h1,h2,h3⟩:=hk x (List.mem_cons_self ..)
  unfold exL
  split
  ·exact hs.mono (by omega)
  ·have:=Qr7 (b:=b) hr l (s+term b to x) (k+148+1) hk' (hs.add (Qj5 h1 h2 hr))
   exact this.mono (by simp only [List.length_cons];omega)
theorem Qau {b:Int} {to:D3} (hr:rightD to) {l:List Lg} (hk:okL l) (hl:l.length<=20000):Sq 4000000 (exL b to 0 l):=
 (Qr7 hr l 0 1 hk (Sq.zero (by decide))).mono (by omega)
theorem accrue_Posted {l:List Lg} {b m:Int} {to:D3} (hl:l.length<=20000):z172.F b m (l.map lgv) to.1 to.2.1 to.2.2 =
  some (if mExact b l to=0 then (if 0<=m/\m<=4 then (lb (rnd m (exL b to 0 l)).natAbs,neg (rnd m (exL b to 0 l)),0) else ([],false,2)) else ([],false,mExact b l to)):=by
 unfold z172.F
 rw [accrue_Exact hl]
 simp only [Zb]
 by_cases h:mExact b l to=0
 ·rw [if_pos h,if_pos h]
  simp only
  have hx:=h
  unfold mExact at hx
  have hg:mLegs none l=0:=by
   by_cases hh:mLegs none l=0
   ·exact hh
   ·rw [if_pos hh] at hx;exact hx
  rw [if_neg (λe=>e hg)] at hx
  have hr:rightD to:=by
   by_cases hh:rightD to
   ·exact hh
   ·rw [if_pos hh] at hx;simp at hx
  simp only [decide_true,Zn,Zc]
  by_cases hm:0<=m/\m<=4
  ·rw [if_pos hm,round_Whole hm (Qau hr (W2 hg) hl) (by decide)];rfl
  ·rw [if_neg hm,Q36 hm];rfl
 ·rw [if_neg h,if_neg h]
  simp only
  rw [Zf h,Zo,Zd]
open Classical in
noncomputable def dayD (n:Int):D3:=if h:∃x:D3,rightD x/\numD x=n then h.choose else (1,1,1)
theorem Y1 {x:D3} (h:rightD x):dayD (numD x)=x:=by
 have he:∃y:D3,rightD y/\numD y=numD x:=⟨x,h,rfl⟩
 unfold dayD
 rw [dif_pos he]
 exact Jg he.choose_spec.1 h he.choose_spec.2
theorem Qb2 {n:Int} (h:1<=n/\n<=3652059):rightD (dayD n)/\numD (dayD n)=n:=by
 obtain ⟨y,m,d,_,h2,h3⟩:=date_Of h
 have he:∃x:D3,rightD x/\numD x=n:=⟨(y,m,d),h2,h3⟩
 unfold dayD
 rw [dif_pos he]
 exact he.choose_spec
theorem Qsd {x:D3} (h:rightD x) (hn:numD x<3652059):z100.F x.1 x.2.1 x.2.2 1=some ((dayD (numD x+1)).1,(dayD (numD x+1)).2.1,(dayD (numD x+1)).2.2,0):=by
 have b:=Qy h
 rcases month_AddDays (k:=1) h with ⟨y',m',d',e,r,n⟩|⟨n,_⟩
 ·have hd:dayD (numD x+1)=(y',m',d'):=by
   have:=Y1 (x:=(y',m',d')) r
   rw [<-this]
   congr 1
   exact n.symm
  rw [hd,e]
 ·exact absurd (show 1<=num x.1 x.2.1 x.2.2+1/\num x.1 x.2.1 x.2.2+1<=3652059 from ⟨by have:numD x=num x.1 x.2.1 x.2.2:=rfl;omega,by have:numD x=num x.1 x.2.1 x.2.2:=rfl;omega⟩) n
theorem Qp2 {x:D3} (h:rightD x) (hn:numD x<3652059):z143.F x.1 x.2.1 x.2.2=some ((dayD (numD x+1)).1,(dayD (numD x+1)).2.1,(dayD (numD x+1)).2.2,true):=by
 have g:=Q3 h
 have b:=Qy h
 have key:∀y:D3,rightD y->numD y=numD x+1->dayD (numD x+1)=y:=λy hy hn=>by rw [<-hn];exact Y1 hy
 have en:numD x=aheadY x.1+cumD x.1 x.2.1+x.2.2:=rfl
 have hs:=Jj g.1 ⟨g.2.1,g.2.2.1⟩
 have h1:=h.1;have h2:=h.2
 have hd:=Qdg x.1 x.2.1
 unfold z143.F
 rw [Qcx]
 simp only [Zb]
 by_cases c1:x.2.2<dDays x.1 x.2.1
 ·rw [bif_t c1,Qc (by omega) (by omega),key (x.1,x.2.1,x.2.2+1) ⟨by show 1<=x.2.2+1;omega,by show x.2.2+1<=dDays x.1 x.2.1;omega⟩ (by show aheadY x.1+cumD x.1 x.2.1+(x.2.2+1)=_;omega)]
 ·rw [Qa c1]
  by_cases c2:x.2.1<12
  ·have hg:=Qbn g.1 (m:=x.2.1+1) (by omega)
   rw [bif_t c2,Qc (by omega) (by omega),key (x.1,x.2.1+1,1) ⟨Int.le_refl 1,by show 1<=dDays x.1 (x.2.1+1);omega⟩ (by show aheadY x.1+cumD x.1 (x.2.1+1)+1=_;omega)]
  ·have hm:x.2.1=12:=by omega
   have c1':¬x.2.2<dDays x.1 12:=by rw [<-hm];exact c1
   have h2':x.2.2<=dDays x.1 12:=by rw [<-hm];exact h2
   rw [hm] at hs en
   have hs':cumD x.1 13=cumD x.1 12+dDays x.1 12:=hs
   have ha:=Qan x.1
   have hy:x.1<9999:=by
    rcases Int.lt_or_le x.1 9999 with hh|hh
    ·exact hh
    ·exfalso
     have h9:x.1=9999:=by omega
     rw [h9] at ha en hs' c1' h2'
     have e1:aheadY (9999+1)=3652059:=by decide
     omega
   have hg:=Qbn (y:=x.1+1) ⟨by omega,by omega⟩ (m:=1) ⟨by decide,by decide⟩
   rw [Qa c2,Qc (by omega) (by omega),Zt hy,key (x.1+1,1,1) ⟨Int.le_refl 1,by show 1<=dDays (x.1+1) 1;omega⟩ (by
    show aheadY (x.1+1)+cumD (x.1+1) 1+1=_
    rw [Jm]
    omega)]
noncomputable def Qn (b m:Int) (l:List Lg) (n:Int):Int:=rnd m (exL b (dayD n) 0 l)
def intv (z:Int):List V:=[.ints false .u64 (lb z.natAbs),.bool (neg z)]
noncomputable def dayL (b m:Int) (l:List Lg):Int->Nat->List Int
 |_,0=>[]
 |n,k+1=>(Qn b m l (n+1)-Qn b m l n)::dayL b m l (n+1) k
theorem Qaf (m:Int) {q:Rat} {k:Nat} (h:Sq k q):sz (rnd m q).natAbs<=2*k+2:=by
 obtain ⟨a1,_⟩:=Qji m q
 rw [a1]
 have h1:rndN m q.num.natAbs q.den<=q.num.natAbs+1:=by
  have:=Nat.div_le_self q.num.natAbs q.den
  unfold rndN
  split<;>omega
 have h2:=Qu h1
 have h3:=Y7 q.num.natAbs 1
 have h4:sz 1<=1:=sz_le (by decide)
 have:=h.1
 omega
theorem Qck {b m:Int} {l:List Lg} {n:Int} (hn:1<=n/\n<=3652059) (hk:okL l) (hl:l.length<=20000):sz (Qn b m l n).natAbs<=9000000:=by
 have:=Qaf m (Qau (b:=b) (Qb2 hn).1 hk hl)
 unfold Qn;omega
theorem Q1l {l:List Lg} {b m:Int} (hb:0<=b/\b<=2) (hm:0<=m/\m<=4) (hk:okL l) (hl:l.length<=20000) (hne:l≠[]):∀(f:Nat) (d:D3) (out:List (List V)),rightD d->numD d+f=numD (l.getLast hne).t->out.length+f<=100000000 ->
  ∃st,Runs (λrec x=>z162.l0P b m (l.map lgv) rec some x) (out,lb (Qn b m l (numD d)).natAbs,neg (Qn b m l (numD d)),d.1,d.2.1,d.2.2) (out++(dayL b m l (numD d) f).map intv,st):=by
 have hpos:0<l.length:=List.length_pos_iff.2 hne
 have hlast:l.getLast hne=l[l.length-1]'(by omega):=List.getLast_eq_getElem hne
 obtain ⟨k1,k2,k3⟩:=hk (l.getLast hne) (List.getLast_mem hne)
 have bl:=Qy k2
 have hw:wr .i64 ((((l.map lgv).length:Nat):Int)-1)=((l.length-1:Nat):Int):=by rw [List.length_map,Qc (by omega) (by omega)];omega
 have hb1:(0:Int)<=((l.length-1:Nat):Int):=by omega
 have hb2:((l.length-1:Nat):Int)<((l.map lgv).length:Int):=by rw [List.length_map];omega
 have hli:l.length-1<l.length:=by omega
 have head:∀{R:Type} (rec done:((List (List V))×(List Int)×Bool×Int×Int×Int)->Option R) (out:List (List V)) (a:List Int) (ng:Bool) (d:D3),z162.l0P b m (l.map lgv) rec done (out,a,ng,d.1,d.2.1,d.2.2) =
   if d=(l.getLast hne).t then done (out,a,ng,d.1,d.2.1,d.2.2) else ((z100.F d.1 d.2.1 d.2.2 (1:Int)).bind λr1020=>((z161.F b (l.map lgv) r1020.1 r1020.2.1 r1020.2.2.1).bind λr1021=>((z150.F r1021.1 r1021.2.1 r1021.2.2 m).bind λr1022=>((z33.F r1022.1 r1022.2.1 a ng).bind λr1023=>(if ((out).length+(([[(.ints false .u64 r1023.1),(.bool r1023.2)]]:List (List V))).length)*32<=140737488355328 then (rec ((out++([[(.ints false .u64 r1023.1),(.bool r1023.2)]]:List (List V))),r1022.1,r1022.2.1,r1020.1,r1020.2.1,r1020.2.2.1)) else none))))):=λ{R} rec done out a ng d=>by
  unfold z162.l0P
  simp only
  rw [hw]
  simp only [hb1,hb2,and_self,if_true,Zi,Q1 lgv hli,asL0,asL1,asL2,asL3,asL4,asL5,asL6,asL7]
  rw [Qg2 d l[l.length-1].t,hlast]
 intro f
 induction f with
 |
  zero=>
  intro d out hd hf ho
  refine ⟨(lb (Qn b m l (numD d)).natAbs,neg (Qn b m l (numD d)),d.1,d.2.1,d.2.2),.done λrec=>?_⟩
  rw [head,if_pos (Jg hd k2 (by omega))]
  show _=some (out++[],_)
  rw [List.append_nil]
 |
  succ f ih=>
  intro d out hd hf ho
  have bd:=Qy hd
  obtain ⟨r1,r2⟩:=Qb2 (n:=numD d+1) (by omega)
  obtain ⟨st,r⟩:=ih (dayD (numD d+1)) (out++[intv (Qn b m l (numD d+1)-Qn b m l (numD d))]) r1 (by omega) (by simp only [List.length_append,List.length_singleton];omega)
  refine ⟨st,.step (λrec=>?_) (by
   rw [r2,List.append_assoc] at r
   exact r)⟩
  have s1:=Qck (b:=b) (m:=m) (n:=numD d+1) (by omega) hk hl
  have s2:=Qck (b:=b) (m:=m) (n:=numD d) (by omega) hk hl
  have l1:=Qj (Qn b m l (numD d+1)).natAbs
  have l2:=Qj (Qn b m l (numD d)).natAbs
  rw [head,if_neg (λe=>by rw [e] at hf;omega),Qsd hd (by omega)]
  simp only [Zb]
  rw [accrue_exact hb r1 hk hl]
  simp only [Zb]
  rw [round_Whole hm (Qau r1 hk hl) (by decide)]
  simp only [Zb]
  have hp:rnd m (exL b (dayD (numD d+1)) 0 l)=Qn b m l (numD d+1):=rfl
  rw [hp,Qb7 (by omega)]
  simp only [Zb]
  rw [if_pos (by simp only [List.length_singleton];omega)]
  rfl
noncomputable def Wi (b m:Int) (l:List Lg):List Int:=if h:l=[] then [] else dayL b m l (numD (l.head h).f) (numD (l.getLast h).t-numD (l.head h).f).toNat
theorem Qio {b:Int} {x:Lg} {l:List Lg} (h:rightD x.f):exL b x.f 0 (x::l)=0:=by
 unfold exL
 rw [if_pos (by rw [Q9 h h,W7];exact Int.le_refl _)]
theorem accrue_Daily {l:List Lg} {b m:Int} (hb:0<=b/\b<=2) (hm:0<=m/\m<=4) (hg:mLegs none l=0) (hl:l.length<=20000):z162.F b m (l.map lgv)=some ((Wi b m l).map intv,0):=by
 obtain ⟨w,e,hw⟩:=Qjh m
 unfold z162.F
 rw [accrue_Check (by omega),hg]
 simp only [Zb,decide_true,Zn,Zc]
 rw [accrue_good,Zt hb]
 simp only [Zb]
 rw [Zn,Zc,e]
 simp only [Zb]
 rw [hw,Zf (λe=>e hm),Zc]
 unfold z162.j4 Wi
 cases l with
 |nil=>rfl
 |
  cons x l=>
  have hk:=W2 hg
  have hall:=Qc7 (x::l) none hg (by simp)
  obtain ⟨h1,h2,h3,h4⟩:=hall x (List.mem_cons_self ..)
  have b1:=Qy h1
  obtain ⟨k1,k2,k3⟩:=hk ((x::l).getLast (by simp)) (List.getLast_mem (by simp))
  have b2:=Qy k2
  have hz:Qn b m (x::l) (numD x.f)=0:=by
   unfold Qn
   rw [Y1 h1,Qio h1,Qhm]
  obtain ⟨st,r⟩:=Q1l hb hm hk hl (by simp) (numD ((x::l).getLast (by simp)).t-numD x.f).toNat x.f [] h1 (by omega) (by simp only [List.length_nil];omega)
  rw [hz] at r
  have er:z162.l0 b m ((x::l).map lgv) ([],[],false,x.f.1,x.f.2.1,x.f.2.2)=some ([]++(dayL b m (x::l) (numD x.f) (numD ((x::l).getLast (by simp)).t-numD x.f).toNat).map intv,st):=by
   have:=r.lfp
   rw [show Int.natAbs 0=0 from rfl,lb_zero] at this
   exact this
  have g0:((x::l).map lgv).getD 0 []=lgv x:=rfl
  rw [Qa (by rw [List.length_map];simp only [List.length_cons];omega),if_pos (by rw [List.length_map];simp only [List.length_cons];omega)]
  simp only [g0,asL0,asL1,asL2,asL3,asL4,asL5,asL6,asL7]
  rw [er,dif_neg (by simp)]
  simp only [Zb,List.nil_append,List.head_cons]
theorem Qpy:∀{a:List UInt8},Qv a->cutDot a=(a,none)
 |[],_=>rfl
 |
  x::a,h=>by
  have hx:=h x (by simp)
  have ih:=Qpy (a:=a) λy hy=>h y (by simp [hy])
  unfold cutDot
  unfold digit at hx
  rw [if_neg (by rintro rfl;simp at hx),ih]
theorem Q23 {n:Nat} (hl:(txt n).length<=1000):mDec (txt n)=((n:Int),0,0):=by
 have hd:=Qgf n
 have hp:plainB (txt n)=true:=by unfold plainB;rw [Je.2 hd,Zf (Qsy n)];rfl
 have hlead:(decide (1<(txt n).length)&&decide (((txt n).getD 0 0).toNat=48))=false:=by
  by_cases h:n=0
  ·subst h;rfl
  ·obtain ⟨b,s,e,hb⟩:=Qkr h
   rw [e]
   have:((b::s).getD 0 0).toNat=b.toNat:=rfl
   rw [this,Zf hb,Bool.and_false]
 unfold mDec
 rw [if_neg (by omega),Qrd hd,Qpy hd]
 unfold Jk
 simp only [Option.isSome_none,Option.getD_none,List.append_nil,hp,hlead,Zn,Bool.or_false,Bool.false_and,Bool.false_or]
 rw [if_neg (by simp),if_neg (by simp),if_neg (by simp),if_neg (by simp),Jr]
 rfl
theorem Qa8 {n:Nat} (h:n<=1000):mRate (txt n)=((n:Rat)/100,0):=by
 have hl:(txt n).length<=4:=Y2 (by omega) (by decide)
 unfold mRate
 rw [Q23 (by omega),if_neg (by simp),if_neg (by simp only [Nat.pow_zero];omega)]
 show (mkRat (n:Int) (10^0)/100,(0:Int))=_
 have:mkRat (n:Int) (10^0)=(n:Rat):=by
  rw [Nat.pow_zero,Rat.mkRat_eq_div]
  show ((n:Int):Rat)/((1:Nat):Rat)=_
  rw [Rat.intCast_natCast]
  show (n:Rat)/1=_
  grind
 rw [this]
theorem Qjt:∀(l:List Lg) (a:Option D3) (x:Lg),mLegs a l=0->mLeg (if h:l=[] then a else some (l.getLast h).t) x=0->mLegs a (l++[x])=0
 |
  [],a,x,_,hx=>by
  rw [dif_pos rfl] at hx
  show (if mLeg a x≠0 then mLeg a x else 0)=0
  rw [hx];rfl
 |
  y::l,a,x,h,hx=>by
  unfold mLegs at h
  split at h
  ·rename_i h1;exact absurd h h1
  rename_i h1
  rw [dif_neg (by simp)] at hx
  rw [List.cons_append]
  unfold mLegs
  rw [if_neg h1]
  refine Qjt l (some y.t) x h ?_
  by_cases hl:l=[]
  ·subst hl;rw [dif_pos rfl];exact hx
  ·rw [dif_neg hl];rw [List.getLast_cons hl] at hx;exact hx
theorem Qjw {a3:List Int} {i n:Nat} (hi:i<a3.length) (h1:Int.tmod (wr .i64 (a3.getD i 0)) 61=(n:Int)) (hn:n<=60):∀(f d:Nat) (x:D3),d+f=n->rightD x->numD x+f<=3652000 ->
  ∃y,Runs (λrec x=>z144.l2P (i:Int) a3 rec some x) ((d:Int),x.1,x.2.1,x.2.2) ((n:Int),y.1,y.2.1,y.2.2)/\rightD y/\numD y=numD x+f
 |
  0,d,x,hf,hx,hb=>by
  refine ⟨x,.done λrec=>?_,hx,by omega⟩
  have:d=n:=by omega
  subst this
  unfold z144.l2P
  simp only
  rw [if_pos (by omega),Zi,h1,Qa (by omega)]
 |
  f+1,d,x,hf,hx,hb=>by
  have bx:=Qy hx
  obtain ⟨r1,r2⟩:=Qb2 (n:=numD x+1) (by omega)
  obtain ⟨y,q1,q2,q3⟩:=Qjw hi h1 hn f (d+1) (dayD (numD x+1)) (by omega) r1 (by omega)
  refine ⟨y,.step (λrec=>?_) q1,q2,by omega⟩
  unfold z144.l2P
  simp only
  rw [if_pos (by omega),Zi,h1,bif_t (by omega),Qp2 hx (by omega)]
  simp only [Zb]
  rw [Qc (by omega) (by omega)]
  rfl
theorem Qal {v m:Int} (hv:0<=v) (hm:0<m):0<=Int.tmod v m/\Int.tmod v m<m:=by
 rw [Yk hv]
 exact ⟨Int.emod_nonneg _ (by omega),Int.emod_lt_of_pos _ hm⟩
theorem Qb6 {k:IntKind} {l:List Int} {lo hi:Int} (h:∀n∈l,(Lit.int k n).wf=true) (hw:∀n,(Lit.int k n).wf=true->lo<=n/\n<=hi) {i:Nat} (hi':i<l.length):lo<=l.getD i 0/\l.getD i 0<=hi:=by
 have:l.getD i 0=l[i]:=by simp [List.getD,hi']
 rw [this]
 exact hw _ (h _ (List.getElem_mem hi'))
theorem Qn2 {a:Option D3} {x y:D3} {o r:Nat} (hx:rightD x) (hy:rightD y) (h:numD x<=numD y) (ha:∀d,a=some d->x=d) (ho:o<=5000000000) (hr:r<1000):mLeg a (Lg.mk x y (txt o) (txt r))=0:=by
 unfold mLeg
 rw [if_neg (λe=>e ⟨hx,hy⟩),if_neg]
 ·rw [Jz (Nat.le_trans ho (by decide)),Qa8 (by omega)];rfl
 ·rintro (e|e)
  ·have:cmpD x y>0:=e
   rw [Q9 hx hy,Wh] at this;omega
  ·cases a with
   |none=>simp at e
   |some d=>simp [ha d rfl] at e
def wl18:List Lg:=[⟨(2024,1,1),(2024,1,4),[49,48,48,48,48,48],[51,46,54,53]⟩]
theorem Qm3:mLegs none wl18=0:=by decide +kernel
theorem d20 (k:Int) (h:0<=k/\k<=3):dayD (738886+k)=(2024,1,1+k):=by
 have e:numD (2024,1,1+k)=738886+k:=by
  show aheadY 2024+cumD 2024 1+(1+k)=_
  rw [Jm,show aheadY 2024=738885 by decide];omega
 have hr:rightD (2024,1,1+k):=⟨by show 1<=1+k;omega,by show 1+k<=dDays 2024 1;rw [show dDays 2024 1=31 by decide];omega⟩
 rw [<-e];exact Y1 hr
theorem Quu:Qn 1 2 wl18 738886=0:=by
 have:=d20 0 (by decide)
 rw [Int.add_zero] at this
 unfold Qn;rw [this];decide +kernel
theorem Q3u:Qn 1 2 wl18 738887=10:=by
 have:dayD 738887=_:=d20 1 (by decide)
 unfold Qn;rw [this];decide +kernel
theorem Qvj:Qn 1 2 wl18 738888=20:=by
 have:dayD 738888=_:=d20 2 (by decide)
 unfold Qn;rw [this];decide +kernel
theorem Qv6:Qn 1 2 wl18 738889=30:=by
 have:dayD 738889=_:=d20 3 (by decide)
 unfold Qn;rw [this];decide +kernel
theorem asI0 {R:Type} (z:Int) (K:List Int->Option R):V.asInts .u64 ((intv z).getD 0 .undef) K=K (lb z.natAbs):=by simp [intv,V.asInts]
theorem asI1 {R:Type} (z:Int) (K:Bool->Option R):V.asBool ((intv z).getD 1 .undef) K=K (neg z):=by simp [intv,V.asBool]
theorem Q2e:Wi 1 2 wl18=[10,10,10]:=by
 have e1:numD (2024,1,1)=738886:=by
  show aheadY 2024+cumD 2024 1+1=_
  rw [Jm,show aheadY 2024=738885 by decide];rfl
 have e4:numD (2024,1,4)=738889:=by
  show aheadY 2024+cumD 2024 1+4=_
  rw [Jm,show aheadY 2024=738885 by decide];rfl
 unfold Wi
 rw [dif_neg (by simp [wl18])]
 have h1:(wl18.head (by simp [wl18])).f=(2024,1,1):=rfl
 have h2:(wl18.getLast (by simp [wl18])).t=(2024,1,4):=rfl
 rw [h1,h2,e1,e4]
 show dayL 1 2 wl18 738886 3=_
 simp only [dayL]
 rw [show (738886:Int)+1=738887 from rfl,show (738887:Int)+1=738888 from rfl,show (738888:Int)+1=738889 from rfl,Quu,Q3u,Qvj,Qv6]
 rfl
theorem Qa2:z173.F=some true:=by
 have hr:rightD (2024,1,3):=by decide +kernel
 have hx:mExact 1 wl18 (2024,1,3)=0:=by
  unfold mExact
  rw [if_neg (λe=>e Qm3),if_neg (λe=>e hr),if_neg (by simp)]
 have hp:rnd 2 (exL 1 (2024,1,3) 0 wl18)=20:=by decide +kernel
 have e1:z162.F 1 2 (wl18.map lgv)=some ([10,10,10].map intv,0):=by
  rw [accrue_Daily (by decide) (by decide) Qm3 (by decide),Q2e]
 have e2:z172.F 1 2 (wl18.map lgv) 2024 1 3=some (lb 20,neg 20,0):=by
  have:=accrue_Posted (l:=wl18) (b:=1) (m:=2) (to:=(2024,1,3)) (by decide)
  rw [if_pos hx,if_pos (by decide),hp] at this
  exact this
 have e3:z145.F ([⟨(0,0,0),(0,0,0),[],[]⟩].map lgv)=some 11:=by
  rw [accrue_Check (by decide)]
  congr 1
 have t10:z135.F (lb 10) (neg 10)=some [49,48]:=by
  have h:=W4 (z:=10) (Nat.le_trans (sz_le (show Int.natAbs 10<10^2 by decide)) (by decide))
  have e:itxt 10=[49,48]:=by
   unfold itxt
   rw [if_neg (by decide)]
   show txt 10=_
   rw [Qk4 (by decide) (by decide)];rfl
  rw [e] at h;exact h
 have t20:z135.F (lb 20) (neg 20)=some [50,48]:=by
  have h:=W4 (z:=20) (Nat.le_trans (sz_le (show Int.natAbs 20<10^2 by decide)) (by decide))
  have e:itxt 20=[50,48]:=by
   unfold itxt
   rw [if_neg (by decide)]
   show txt 20=_
   rw [Qk4 (by decide) (by decide)];rfl
  rw [e] at h;exact h
 unfold z173.F
 have g1:(([10,10,10]:List Int).map intv).getD 1 []=intv 10:=rfl
 have z10:Int.natAbs 10=10:=rfl
 refine (congrArg (λo=>Option.bind o _) e1).trans ?_
 rw [Zb]
 refine (congrArg (λo=>Option.bind o _) e2).trans ?_
 rw [Zb]
 simp only [decide_true,Zd]
 rw [show (((List.map intv [10,10,10]).length:Nat):Int)=3 from rfl]
 simp only [decide_true,Zd]
 rw [if_pos (by decide),g1,asI0,asI1,z10,t10,Zb]
 simp only [decide_true,Zd]
 rw [t20,Zb]
 simp only [decide_true,Zd]
 refine (congrArg (λo=>Option.bind o _) e3).trans ?_
 rfl
theorem Q4v {a:Option D3} {x:Lg} (h1:rightD x.f) (h2:rightD x.t) (h3:numD x.f<=numD x.t) (h4:∀d,a=some d->x.f=d) (h5:(mMoney x.op).2=0) (h6:(mRate x.rt).2=0):mLeg a x=0:=by
 unfold mLeg
 rw [if_neg (λe=>e ⟨h1,h2⟩),if_neg,if_neg (λe=>e h5),h6]
 rintro (e|e)
 ·rw [Q9 h1 h2,Wh] at e;omega
 ·cases a with
  |none=>simp at e
  |some d=>simp [h4 d rfl] at e
theorem Jp {a:Option D3} {x:Lg} {l:List Lg}:mLegs a (x::l)=0↔mLeg a x=0/\mLegs (some x.t) l=0:=by
 show (if mLeg a x≠0 then mLeg a x else mLegs (some x.t) l)=0↔_
 by_cases h:mLeg a x=0
 ·rw [if_neg (λe=>e h)];exact ⟨λe=>⟨h,e⟩,λe=>e.2⟩
 ·rw [if_pos h];exact ⟨λe=>absurd e h,λe=>absurd e.1 h⟩
theorem Rt.sq {l:List Lg} (h:Rt l) {b:Int} {to:D3} (hr:rightD to):Sq 4000000 (exL b to 0 l):=Qau hr (W2 h.good) h.len
theorem Qbh {k j:Nat} {q r:Rat} (hq:Sq k q) (hr:Sq j r) (hs:k+j<=100000000) (e:q=r):z175.F (fr q).1 (fr q).2.1 (fr q).2.2 (fr r).1 (fr r).2.1 (fr r).2.2=some 0:=by
 rw [Qgo hq hr hs,Qvy.2 e]
theorem Q2u (a3 a4 a5:List Int) (x:Int×(List (List V))×Int×Int×Int):z184.l0aa a3 a4 a5 x=z144.l0aa a3 a4 a5 x:=rfl
theorem Qnx {a3 a4 a5:List Int} (h3:∀i,i<a3.length->0<=a3.getD i 0/\a3.getD i 0<=255) (h4:∀i,i<a4.length->0<=a4.getD i 0/\a4.getD i 0<=4294967295) (h5:∀i,i<a5.length->0<=a5.getD i 0/\a5.getD i 0<=65535) :
  ∀
   (f i:Nat) (l:List Lg) (x:D3),i+f=min a3.length 6->l.length=i->Made l->rightD x->(∀h:l≠[],(l.getLast h).t=x)->numD x+60*f<=3651000->(∀h:l≠[],numD (l.head h).f<=3651000) ->
   ∃(l':List Lg) (st:Int×Int×Int×Int),Runs (λrec x=>z144.l0aaP a3 a4 a5 rec some x) ((i:Int),l.map lgv,x.1,x.2.1,x.2.2) (st.1,l'.map lgv,st.2)/\Made l'/\(∀h:l'≠[],numD (l'.head h).f<=3651000)
 |
  0,i,l,x,hf,hl,hm,hx,hx2,hb,hd=>by
  refine ⟨l,((i:Int),x),.done λrec=>?_,hm,hd⟩
  unfold z144.l0aaP
  simp only
  by_cases hc:i<a3.length
  ·rw [bif_t (by omega),Qa (by omega)]
  ·rw [Qa (by omega)]
 |
  f+1,i,l,x,hf,hl,hm,hx,hx2,hb,hd=>by
  have hi:i<a3.length:=by omega
  have hi6:i<6:=by omega
  have g3:=h3 i hi
  have w3:wr .i64 (a3.getD i 0)=a3.getD i 0:=Qc (by omega) (by omega)
  obtain ⟨t1,t2⟩:=Qal (v:=a3.getD i 0) (m:=61) g3.1 (by decide)
  obtain ⟨n,hn⟩:=Wc t1
  obtain ⟨y,q1,q2,q3⟩:=Qjw hi (n:=n) (by rw [w3];exact hn) (by omega) n 0 x (by omega) hx (by omega)
  have e2:z144.l2 (i:Int) a3 ((0:Int),x.1,x.2.1,x.2.2)=some ((n:Int),y.1,y.2.1,y.2.2):=q1.lfp
  have ek:wr .i64 ((i:Int)+1)=((i+1:Nat):Int):=by rw [Qc (by omega) (by omega)];rfl
  have made:∀{o r:Nat},o<=5000000000->r<1000->Made (l++[Lg.mk x y (txt o) (txt r)]):=λ{o r} ho hr=>by
   refine ⟨by rw [List.length_append,List.length_singleton];omega,Qjt l none _ hm.good (Qn2 hx q2 (by omega) (λd hd=>?_) ho hr),λz hz=>?_⟩
   ·split at hd
    ·simp at hd
    ·rename_i hne
     simp only [Zs] at hd
     rw [<-hd];exact (hx2 hne).symm
   ·rcases List.mem_append.1 hz with hz|hz
    ·exact hm.nums z hz
    ·rw [List.mem_singleton] at hz
     subst hz
     exact ⟨o,r,rfl,ho,rfl,hr⟩
  have hj:∀{o r:Nat},o<=5000000000->r<1000->∀{R:Type} (rec done:(Int×(List (List V))×Int×Int×Int)->Option R),z144.j4015a rec done (o:Int) (r:Int) (l.map lgv) x.1 x.2.1 x.2.2 ((n:Int),y.1,y.2.1,y.2.2) (i:Int) =
    rec (((i+1:Nat):Int),(l++[Lg.mk x y (txt o) (txt r)]).map lgv,y.1,y.2.1,y.2.2):=λ{o r} ho hr {R} rec done=>by
   have s1:sz o<=10:=sz_le (Nat.lt_of_le_of_lt ho (by decide))
   have s2:sz r<=3:=sz_le hr
   have p1:z6.F (dg (o:Int).natAbs) (neg (o:Int))=some (txt o):=by
    rw [W8 (by show sz o<=_;omega)];unfold itxt;rw [if_neg (by omega)];rfl
   have p2:z6.F (dg (r:Int).natAbs) (neg (r:Int))=some (txt r):=by
    rw [W8 (by show sz r<=_;omega)];unfold itxt;rw [if_neg (by omega)];rfl
   unfold z144.j4015a
   rw [Wk (by omega),Zb,Wk (by omega),Zb]
   simp only
   rw [p1,Zb,p2,Zb,if_pos (by simp only [List.length_map,List.length_singleton];omega),ek,List.map_append]
   rfl
  have hj':∀{o:Nat},o<=5000000000->∃r:Nat,r<1000/\∀{R:Type} (rec done:(Int×(List (List V))×Int×Int×Int)->Option R),z144.j4014a rec done (i:Int) a5 (o:Int) (l.map lgv) x.1 x.2.1 x.2.2 ((n:Int),y.1,y.2.1,y.2.2) =
    rec (((i+1:Nat):Int),(l++[Lg.mk x y (txt o) (txt r)]).map lgv,y.1,y.2.1,y.2.2):=λ{o} ho=>by
   by_cases hc:i<a5.length
   ·have g5:=h5 i hc
    have w5:wr .i64 (a5.getD i 0)=a5.getD i 0:=Qc (by omega) (by omega)
    obtain ⟨u1,u2⟩:=Qal (v:=a5.getD i 0) (m:=1000) g5.1 (by decide)
    obtain ⟨r,hr⟩:=Wc u1
    refine ⟨r,by omega,λrec done=>?_⟩
    unfold z144.j4014a
    rw [bif_t (by omega),if_pos (by omega),Zi,w5,hr]
    exact hj ho (by omega) rec done
   ·refine ⟨i,by omega,λrec done=>?_⟩
    unfold z144.j4014a
    rw [Qa (by omega)]
    exact hj ho (by omega) rec done
  have hstep:∃o r:Nat,o<=5000000000/\r<1000/\∀{R:Type} (rec done:(Int×(List (List V))×Int×Int×Int)->Option R),z144.l0aaP a3 a4 a5 rec done ((i:Int),l.map lgv,x.1,x.2.1,x.2.2) =
    rec (((i+1:Nat):Int),(l++[Lg.mk x y (txt o) (txt r)]).map lgv,y.1,y.2.1,y.2.2):=by
   by_cases hc:i<a4.length
   ·have g4:=h4 i hc
    have w4:wr .i64 (a4.getD i 0)=a4.getD i 0:=Qc (by omega) (by omega)
    obtain ⟨o,ho⟩:=Wc g4.1
    obtain ⟨r,hr,hh⟩:=hj' (o:=o) (by omega)
    refine ⟨o,r,by omega,hr,λrec done=>?_⟩
    unfold z144.l0aaP
    simp only
    rw [bif_t (by omega),bif_t (by omega),e2,Zb,bif_t (by omega),if_pos (by omega),Zi,w4,ho]
    exact hh rec done
   ·have w4:wr .i64 ((1000:Int)*(i:Int))=((1000*i:Nat):Int):=by rw [Qc (by omega) (by omega)];omega
    obtain ⟨r,hr,hh⟩:=hj' (o:=1000*i) (by omega)
    refine ⟨1000*i,r,by omega,hr,λrec done=>?_⟩
    unfold z144.l0aaP
    simp only
    rw [bif_t (by omega),bif_t (by omega),e2,Zb,Qa (by omega),w4]
    exact hh rec done
  obtain ⟨o,r,ho,hr,hh⟩:=hstep
  obtain ⟨l',st,k1,k2⟩:=Qnx h3 h4 h5 f (i+1) (l++[Lg.mk x y (txt o) (txt r)]) y (by omega) (by rw [List.length_append,List.length_singleton];omega) (made ho hr) q2 (λ_=>by rw [List.getLast_append];rfl) (by omega) (λ_=>by
   by_cases hl0:l=[]
   ·subst hl0;show numD x<=_;omega
   ·rw [List.head_append_of_ne_nil hl0];exact hd hl0)
  exact ⟨l',st,.step (λrec=>hh rec some) k1,k2⟩
theorem Qu0 {a0 a1 a2:Int} {a3 a4 a5:List Int} (h3:∀n∈a3,(Lit.int .u8 n).wf=true) (h4:∀n∈a4,(Lit.int .u32 n).wf=true) (h5:∀n∈a5,(Lit.int .u16 n).wf=true) :
  ∃(d:D3) (l:List Lg) (i:Int) (e:Int×Int×Int),z12.F a0 a1 a2 9990=some d/\z144.l0aa a3 a4 a5 ((0:Int),[],d.1,d.2.1,d.2.2)=some (i,l.map lgv,e)/\Made l/\(∀h:l≠[],numD (l.head h).f<=3651000):=by
 obtain ⟨y,m,d,e,hr,hy⟩:=Qks (a:=a0) (b:=a1) (c:=a2) (n:=9990) (by decide)
 have hr':rightD (y,m,d):=hr
 have hb:numD (y,m,d)<=3648772:=by
  have h1:numD (y,m,d)<=aheadY (y+1):=(Jo hr').2
  have h2:=Qaj (y:=y+1) (y':=9991) (by omega)
  have h3:aheadY 9991=3648772:=by decide
  omega
 obtain ⟨l,st,r1,r2,r3⟩:=Qnx (a3:=a3) (a4:=a4) (a5:=a5) (λi hi=>Qb6 h3 (λn h=>by have:=Qs h;omega) hi) (λi hi=>Qb6 h4 (λn h=>by have:=Qc4 h;omega) hi) (λi hi=>Qb6 h5 (λn h=>by have:=Qb9 h;omega) hi)
  (min a3.length 6) 0 [] (y,m,d) (by omega) rfl ⟨by simp,rfl,λx hx=>by simp at hx⟩ hr' (λh=>absurd rfl h) (by omega) (λh=>absurd rfl h)
 exact ⟨(y,m,d),l,st.1,st.2,e,r1.lfp,r2,r3⟩
theorem Qx2 {a b:Nat} (hb:0<b) (ha:sz a<=300000000) (hb':sz b<=300000000):z183.F (lb a) false (lb b) false=some (lb (a/b),false,lb (a%b),false,0):=by
 have la:=Qj a
 have lb':=Qj b
 have h:=Qk0 hb (a:=a) (by omega)
 unfold Ym at h
 have hle:a/b<=a:=Nat.div_le_self _ _
 have l1:=Qj (a/b)
 have s1:=Qu hle
 have hm:=Nat.div_add_mod a b
 have e1:((a/b:Nat):Int)*((b:Nat):Int)=((a/b*b:Nat):Int):=(Int.natCast_mul (a/b) b).symm
 have e2:a/b*b<=a:=Nat.div_mul_le_self a b
 have l2:=Qj (a/b*b)
 have s2:=Qu e2
 have m1:=Yi (x:=((a/b:Nat):Int)) (y:=((b:Nat):Int)) (by simp only [Int.natAbs_natCast];omega)
 have m2:=Qb7 (x:=(a:Int)) (y:=((a/b*b:Nat):Int)) (by simp only [Int.natAbs_natCast];omega)
 have n0:∀n:Nat,neg ((n:Nat):Int)=false:=λn=>Zf (by omega)
 have e3:(a:Int)-((a/b*b:Nat):Int)=((a%b:Nat):Int):=by
  rw [Nat.mul_comm b (a/b)] at hm
  omega
 rw [e1] at m1
 rw [e3] at m2
 simp only [Int.natAbs_natCast,n0] at m1 m2
 unfold z183.F
 rw [h]
 simp only [Zb,decide_true,Zn,Zc]
 rw [whole_Of]
 simp only [Zb,Bool.false_and]
 unfold z183.j4
 rw [Zc]
 unfold z183.j8
 simp only
 rw [m1,Zb]
 simp only
 rw [m2,Zb]
def nOp (x:Lg):Nat:=(tv 0 x.op).toNat
def ho2 (x:Lg):Lg:={x with op:=txt (nOp x+nOp x),rt:=txt (halfR x)}
theorem Qzo (x:Lg):g2 (hf x)=hr2 x:=by
 unfold g2 hf hr2
 simp only
 rw [Jr,Zi]
theorem Q24 (x:Lg):o2 (hf x)=ho2 x:=rfl
def updL (g:Lg->Lg) (t:Nat) (l:List Lg):List Lg:=(l.take t).map g++l.drop t
theorem Qis (g:Lg->Lg) (l:List Lg):updL g 0 l=l:=by simp [updL]
theorem Qhz (g:Lg->Lg) (l:List Lg):updL g l.length l=l.map g:=by simp [updL]
theorem Qzg (g:Lg->Lg) (t:Nat) (l:List Lg):(updL g t l).length=l.length:=by
 unfold updL
 rw [List.length_append,List.length_map,List.length_take,List.length_drop];omega
theorem Qjv (g:Lg->Lg) {t:Nat} {l:List Lg} (h:t<l.length):((updL g t l).map lgv).getD t []=lgv l[t]:=by
 have e:((l.take t).map g).length=t:=by rw [List.length_map,List.length_take];omega
 have:(updL g t l)[t]? = some l[t]:=by
  unfold updL
  rw [List.getElem?_append_right (by omega),e,List.getElem?_drop,Nat.sub_self,Nat.add_zero,List.getElem?_eq_getElem h]
 rw [Zl,List.getElem?_map,this]
 rfl
theorem Qkt (g:Lg->Lg) {t:Nat} {l:List Lg} (h:t<l.length):((updL g t l).map lgv).set t (lgv (g l[t]))=(updL g (t+1) l).map lgv:=by
 rw [<-List.map_set]
 congr 1
 unfold updL
 rw [List.set_append_right _ _ (by rw [List.length_map,List.length_take];omega),List.length_map,List.length_take,show t-min t l.length=0 by omega,List.drop_eq_getElem_cons h,List.set_cons_zero,List.take_succ_eq_append_getElem h,List.map_append,List.append_assoc]
 rfl
theorem Q41 (x:Lg) (s:List UInt8):(lgv x).set 7 (.str s)=lgv {x with rt:=s}:=rfl
theorem Q30 (x:Lg) (s:List UInt8):(lgv x).set 6 (.str s)=lgv {x with op:=s}:=rfl
theorem Q3i {l:List Lg} (hM:Made l) {t:Nat} (ht:t<l.length) {R:Type} (rec done:(Int×(List (List V))×(List (List V))×(List (List V)))->Option R) :
  z184.l0b3P ((l.length:Nat):Int) rec done ((t:Int),(updL hf t l).map lgv,(updL hr2 t l).map lgv,(updL ho2 t l).map lgv)=rec (((t+1:Nat):Int),(updL hf (t+1) l).map lgv,(updL hr2 (t+1) l).map lgv,(updL ho2 (t+1) l).map lgv):=by
 have hlen:=hM.len
 have ek:wr .i64 ((t:Int)+1)=((t+1:Nat):Int):=by rw [Qc (by omega) (by omega)];rfl
 obtain ⟨n,r,e1,h1,e2,h2⟩:=hM.nums l[t] (List.getElem_mem ht)
 have hN:nOp l[t]=n:=by unfold nOp;rw [e1,Jr,Zi]
 have hR:halfR l[t]=r/2:=by unfold halfR;rw [e2,Jr,Zi]
 have p1:mWhole l[t].op=((n:Int),0):=by
  rw [e1];exact Qe2 (Nat.le_trans (Y2 (Nat.lt_of_le_of_lt h1 (show 5000000000<10^10 by decide)) (by decide)) (by decide))
 have p2:mWhole l[t].rt=((r:Int),0):=by
  rw [e2];exact Qe2 (Nat.le_trans (Y2 (show r<10^3 by omega) (by decide)) (by decide))
 have n0:∀n:Nat,neg ((n:Nat):Int)=false:=λn=>Zf (by omega)
 have sr:sz r<=3:=sz_le (show r<10^3 by omega)
 have s2:sz 2<=1:=sz_le (by decide)
 have sn:sz n<=10:=sz_le (Nat.lt_of_le_of_lt h1 (by decide))
 have sh:sz (r/2)<=3:=sz_le (show r/2<10^3 by omega)
 have l1:=Qj r
 have l2:=Qj 2
 have l3:=Qj n
 have l4:=Qj (r/2)
 have f1:=Qx2 (a:=r) (b:=2) (by decide) (by omega) (by omega)
 have c2:z48.F 2=some (lb 2,false):=whole_From (z:=2) (by decide)
 have pr:∀m:Nat,sz m<=100000000->z135.F (lb m) false=some (txt m):=λm hm=>by
  have h:=W4 (z:=(m:Int)) (by rw [Int.natAbs_natCast];exact hm)
  rw [Int.natAbs_natCast,n0] at h
  rw [h]
  unfold itxt
  rw [if_neg (by omega),Int.natAbs_natCast]
 have ad:∀m:Nat,(lb m).length<=400000000->z31.F (lb m) false (lb m) false=some (lb (m+m),false):=λm hm=>by
  have h:=Qbd (x:=(m:Int)) (y:=(m:Int)) (by rw [Int.natAbs_natCast];omega)
  have e:(m:Int)+(m:Int)=((m+m:Nat):Int):=by omega
  rw [e] at h
  simp only [Int.natAbs_natCast,n0] at h
  exact h
 have sm:=Y7 (r/2) (r/2)
 have sm2:=Y7 n n
 have b0:(0:Int)<=(t:Int):=by omega
 have bl:∀g:Lg->Lg,((updL g t l).map lgv).length=l.length:=λg=>by rw [List.length_map,Qzg]
 have k1:(t:Int)<(l.length:Int):=by omega
 unfold z184.l0b3P
 simp only
 rw [bif_t k1]
 simp only [bl,List.length_set,b0,k1,ht,and_self,if_true,Zi,Qjv hf ht,Qjv hr2 ht,Qjv ho2 ht,asL6,asL7,whole_Parse,p1,p2,Zb,Int.natAbs_natCast,n0,c2,f1,pr (r/2) (by omega),ad (r/2) (by omega),ad n (by omega),pr (r/2+r/2) (by omega),pr (n+n) (by omega),Q41,ek]
 have q1:∀x:List UInt8,(((updL ho2 t l).map lgv).set t (lgv {l[t] with rt:=x})).getD t []=lgv {l[t] with rt:=x}:=λx=>by
  rw [Zl,List.getElem?_set_self (by rw [bl];exact ht)];rfl
 rw [q1,Q30,List.set_set]
 have v1:hf l[t]={l[t] with rt:=txt (r/2)}:=by unfold hf;rw [hR]
 have v2:hr2 l[t]={l[t] with rt:=txt (r/2+r/2)}:=by unfold hr2;rw [hR]
 have v3:ho2 l[t]={l[t] with op:=txt (n+n),rt:=txt (r/2)}:=by unfold ho2;rw [hR,hN]
 rw [<-Qkt hf ht,<-Qkt hr2 ht,<-Qkt ho2 ht,v1,v2,v3]
theorem Qlx {l:List Lg} (hM:Made l):∀(f t:Nat),t+f=l.length ->
  Runs (λrec x=>z184.l0b3P ((l.length:Nat):Int) rec some x) ((t:Int),(updL hf t l).map lgv,(updL hr2 t l).map lgv,(updL ho2 t l).map lgv) ((l.length:Int),(l.map hf).map lgv,(l.map hr2).map lgv,(l.map ho2).map lgv)
 |0,t,h=>.done λrec=>by
   have:t=l.length:=by omega
   subst this
   rw [Qhz,Qhz,Qhz]
   unfold z184.l0b3P
   simp only
   rw [Qa (by omega)]
 |f+1,t,h=>.step (λrec=>Q3i hM (by omega) rec some) (Qlx hM f (t+1) (by omega))
theorem Qgm {g:Lg->Lg} (hg:∀x,(g x).f=x.f/\(g x).t=x.t):∀(l:List Lg) (a:Option D3),mLegs a l=0->(∀x∈l,(mMoney (g x).op).2=0/\(mRate (g x).rt).2=0)->mLegs a (l.map g)=0
 |[],_,_,_=>rfl
 |
  x::l,a,h,hx=>by
  rw [Jp] at h
  obtain ⟨r1,r2,r3,r4,r5,r6⟩:=Qak h.1
  have hx0:=hx x (List.mem_cons_self ..)
  rw [List.map_cons,Jp,(hg x).2]
  refine ⟨Q4v ?_ ?_ ?_ ?_ hx0.1 hx0.2,Qgm hg l _ h.2 λy hy=>hx y (List.mem_cons_of_mem _ hy)⟩
  ·rw [(hg x).1];exact r1
  ·rw [(hg x).2];exact r2
  ·rw [(hg x).1,(hg x).2];exact r3
  ·rw [(hg x).1];exact r4
theorem Quj {b:Int} {to:D3} {x:Lg} {s:List UInt8} (h:(mRate s).1=2*(mRate x.rt).1):term b to {x with rt:=s}=2*term b to x:=by
 unfold term
 simp only
 rw [h]
 grind
theorem Qvz {b:Int} {to:D3} {x:Lg} {s:List UInt8} (h:((mMoney s).1:Rat)=2*((mMoney x.op).1:Rat)):term b to {x with op:=s}=2*term b to x:=by
 unfold term
 simp only
 rw [h]
 grind
theorem Qfl {l:List Lg} (hM:Made l) {x:Lg} (hx:x∈l):∃n h:Nat,n<=5000000000/\h<500/\x.op=txt n/\nOp x=n/\halfR x=h:=by
 obtain ⟨n,r,e1,h1,e2,h2⟩:=hM.nums x hx
 exact ⟨n,r/2,h1,by omega,e1,by unfold nOp;rw [e1,Jr,Zi],by unfold halfR;rw [e2,Jr,Zi]⟩
theorem Qjs:(10000000000:Nat)<=10^30:=by decide
theorem Qoh {l:List Lg} (hM:Made l) {b:Int} {to:D3}:(∀y∈l.map hf,term b to (g2 y)=2*term b to y)/\(∀y∈l.map hf,term b to (o2 y)=2*term b to y):=by
 constructor
 ·intro y hy
  obtain ⟨x,hx,rfl⟩:=List.mem_map.1 hy
  obtain ⟨n,h,h1,h2,e1,e2,e3⟩:=Qfl hM hx
  refine Quj ?_
  show (mRate (txt ((tv 0 (txt (halfR x))).toNat+(tv 0 (txt (halfR x))).toNat))).1=2*(mRate (txt (halfR x))).1
  rw [e3,Jr,Zi,Qa8 (by omega),Qa8 (by omega)]
  show ((h+h:Nat):Rat)/100=2*((h:Rat)/100)
  rw [Rat.natCast_add]
  grind
 ·intro y hy
  obtain ⟨x,hx,rfl⟩:=List.mem_map.1 hy
  obtain ⟨n,h,h1,h2,e1,e2,e3⟩:=Qfl hM hx
  have t10:=Qjs
  refine Qvz ?_
  show ((mMoney (txt ((tv 0 x.op).toNat+(tv 0 x.op).toNat))).1:Rat)=2*((mMoney x.op).1:Rat)
  rw [e1,Jr,Zi,Jz (by omega),Jz (by omega)]
  show (((n+n:Nat):Int):Rat)=2*(((n:Nat):Int):Rat)
  rw [Int.natCast_add,Rat.intCast_add]
  grind
theorem Qmg {l:List Lg} (hM:Made l):Rt (l.map hf)/\Rt (l.map hr2)/\Rt (l.map ho2):=by
 have hlen:=hM.len
 have t10:=Qjs
 refine ⟨⟨Qgm (g:=hf) (λx=>⟨rfl,rfl⟩) l none hM.good λx hx=>?_,by rw [List.length_map];omega⟩,⟨Qgm (g:=hr2) (λx=>⟨rfl,rfl⟩) l none hM.good λx hx=>?_,by rw [List.length_map];omega⟩,⟨Qgm (g:=ho2) (λx=>⟨rfl,rfl⟩) l none hM.good λx hx=>?_,by rw [List.length_map];omega⟩⟩
 all_goals
  obtain ⟨n,h,h1,h2,e1,e2,e3⟩:=Qfl hM hx
 ·show (mMoney x.op).2=0/\(mRate (txt (halfR x))).2=0
  rw [e1,e3,Jz (by omega),Qa8 (by omega)];exact ⟨rfl,rfl⟩
 ·show (mMoney x.op).2=0/\(mRate (txt (halfR x+halfR x))).2=0
  rw [e1,e3,Jz (by omega),Qa8 (by omega)];exact ⟨rfl,rfl⟩
 ·show (mMoney (txt (nOp x+nOp x))).2=0/\(mRate (txt (halfR x))).2=0
  rw [e2,e3,Jz (by omega),Qa8 (by omega)];exact ⟨rfl,rfl⟩
theorem Qti {l:List Lg} (hM:Made l):∀x∈l.map hf,rightD x.f/\rightD x.t/\numD x.f<=numD x.t/\okN x:=λy hy=>by
 have hk:=W2 (Qmg hM).1.good y hy
 obtain ⟨x,hx,rfl⟩:=List.mem_map.1 hy
 obtain ⟨n,h,h1,h2,e1,e2,e3⟩:=Qfl hM hx
 have t10:=Qjs
 refine ⟨hk.1,hk.2.1,hk.2.2,?_,?_⟩
 ·show 0<=(mMoney x.op).1
  rw [e1,Jz (by omega)]
  show (0:Int)<=(n:Int)
  omega
 ·show 0<=(mRate (txt (halfR x))).1
  rw [e3,Qa8 (by omega)]
  show (0:Rat)<=(h:Rat)/100
  have e:((0:Nat):Rat)<=((h:Nat):Rat):=Rat.natCast_le_natCast.2 (Nat.zero_le h)
  have e':(0:Rat)<=(h:Rat):=e
  grind
structure Tw (L1 L2 L3:List Lg) (a c:D3):Prop where
 r1:Rt L1
 r2:Rt L2
 r3:Rt L3
 ra:rightD a
 rc:rightD c
 two:∀b:Int,exL b a 0 L1+exL b a 0 L1=exL b a 0 L2
 same:∀b:Int,exL b a 0 L2=exL b a 0 L3
 pos:∀b:Int,0<=exL b a 0 L1
 more:∀b:Int,b≠0->exL b a 0 L1<=exL b c 0 L1
theorem Q0u {l:List Lg} (hM:Made l) {a c:D3} (ha:rightD a) (hc:rightD c) (hle:numD a<=numD c):Tw (l.map hf) (l.map hr2) (l.map ho2) a c:=by
 obtain ⟨r1,r2,r3⟩:=Qmg hM
 have e2:l.map hr2=(l.map hf).map g2:=by rw [List.map_map];exact List.map_congr_left λx _=>(Qzo x).symm
 have e3:l.map ho2=(l.map hf).map o2:=by rw [List.map_map];exact List.map_congr_left λx _=>(Q24 x).symm
 have k2:∀b:Int,exL b a 0 (l.map hr2)=2*exL b a 0 (l.map hf):=λb=>by
  have:=Qkk (b:=b) (to:=a) (g:=g2) (λx=>rfl) (l.map hf) 0 (Qoh hM).1
  rw [Rat.mul_zero] at this
  rw [e2,this]
 have k3:∀b:Int,exL b a 0 (l.map ho2)=2*exL b a 0 (l.map hf):=λb=>by
  have:=Qkk (b:=b) (to:=a) (g:=o2) (λx=>rfl) (l.map hf) 0 (Qoh hM).2
  rw [Rat.mul_zero] at this
  rw [e3,this]
 exact ⟨r1,r2,r3,ha,hc,λb=>by rw [k2];grind,λb=>by rw [k2,k3],λb=>Qkg ha _ 0 (Qti hM),λb hb=>Qq5 hb ha hc hle _ 0 0 Rat.le_refl (Qti hM)⟩
theorem Qr0 {q:Rat} (h:0<=q) (b:List Int):∃s,z147.F (fr q).1 (fr q).2.1 b=some s/\¬s<0:=by
 refine ⟨cmpI q.num 0,Qd6 q b,?_⟩
 rw [Q6]
 have:=Rat.num_nonneg.2 h
 omega
theorem Qph {L1 L2 L3:List Lg} {a c:D3} (h:Tw L1 L2 L3 a c) {t:Nat} (ht:t=1\/t=2) (rec:Int->Option (Int⊕Bool)) :
  z184.l2aP (L1.map lgv) (L2.map lgv) (L3.map lgv) a.1 a.2.1 a.2.2 c.1 c.2.1 c.2.2 rec some (t:Int)=rec ((t+1:Nat):Int):=by
 have hb:(0:Int)<=(t:Int)/\(t:Int)<=2:=by omega
 have ek:wr .i64 ((t:Int)+1)=((t+1:Nat):Int):=by rw [Qc (by omega) (by omega)];rfl
 obtain ⟨s,es,hs⟩:=Qr0 (h.pos t) (fr (exL t a 0 L1)).2.2
 have sq1:=h.r1.sq (b:=t) h.ra
 unfold z184.l2aP
 rw [bif_t (by omega),h.r1.exact hb h.ra,Zb,h.r2.exact hb h.ra,Zb,h.r3.exact hb h.ra,Zb,h.r1.exact hb h.rc,Zb]
 simp only [decide_true,Zn,Zc]
 rw [Qa6 sq1 sq1 (by decide),Zb,Qbh (sq1.add sq1) (h.r2.sq h.ra) (by decide) (h.two t),Zb]
 simp only [decide_true,Zn,Zc]
 rw [Qbh (h.r2.sq h.ra) (h.r3.sq h.ra) (by decide) (h.same t),Zb]
 simp only [decide_true,Zn,Zc]
 rw [es,Zb,Qa hs,bif_t (by omega),Qgo (h.r1.sq h.rc) sq1 (by decide),Zb,Qa (by
  rw [Qxf]
  exact Rat.not_lt.2 (h.more t (by omega))),ek]
theorem Q1k {a0 a1 a2:Int} {a3 a4 a5:List Int} {a6 a7:Int} (h3:∀n∈a3,(Lit.int .u8 n).wf=true) (h4:∀n∈a4,(Lit.int .u32 n).wf=true) (h5:∀n∈a5,(Lit.int .u16 n).wf=true) (h6:(Lit.int .u8 a6).wf=true) (h7:(Lit.int .u8 a7).wf=true) :
  z184.F a0 a1 a2 a3 a4 a5 a6 a7=some true:=by
 obtain ⟨d,l,i,e',em,el,hM,hfar⟩:=Qu0 (a0:=a0) (a1:=a1) (a2:=a2) h3 h4 h5
 have hlen:=hM.len
 have w6:=Qs h6
 have w7:=Qs h7
 have ew6:wr .i64 a6=a6:=Qc (by omega) (by omega)
 have ew7:wr .i64 a7=a7:=Qc (by omega) (by omega)
 unfold z184.F
 rw [em,Zb,Q2u,el,Zb]
 simp only
 by_cases hne:l=[]
 ·subst hne
  rw [bif_t (by simp),Qa2];rfl
 have hpos:0<l.length:=List.length_pos_iff.2 hne
 have er:z184.l0b3 ((l.length:Nat):Int) ((0:Int),l.map lgv,l.map lgv,l.map lgv)=some ((l.length:Int),(l.map hf).map lgv,(l.map hr2).map lgv,(l.map ho2).map lgv):=by
  have:=(Qlx hM l.length 0 (Nat.zero_add _)).lfp
  rw [Qis,Qis,Qis] at this
  exact this
 have hk:=(W2 hM.good (l.head hne) (List.head_mem hne)).1
 have b1:=Qy hk
 have hf1:=hfar hne
 obtain ⟨a,ea,ha,na⟩:∃c:D3,z100.F (l.head hne).f.1 (l.head hne).f.2.1 (l.head hne).f.2.2 a6=some (c.1,c.2.1,c.2.2,0)/\rightD c/\numD c=numD (l.head hne).f+a6:=by
  rcases month_AddDays (k:=a6) hk with ⟨y',m',d',e,r,n⟩|⟨h,_⟩
  ·exact ⟨(y',m',d'),e,r,n⟩
  ·exact absurd (by have:numD (l.head hne).f=num (l.head hne).f.1 (l.head hne).f.2.1 (l.head hne).f.2.2:=rfl;omega) h
 obtain ⟨c,ec,hc,nc⟩:∃c:D3,z100.F a.1 a.2.1 a.2.2 a7=some (c.1,c.2.1,c.2.2,0)/\rightD c/\numD c=numD a+a7:=by
  rcases month_AddDays (k:=a7) ha with ⟨y',m',d',e,r,n⟩|⟨h,_⟩
  ·exact ⟨(y',m',d'),e,r,n⟩
  ·exact absurd (by have:numD a=num a.1 a.2.1 a.2.2:=rfl;omega) h
 have T:=Q0u hM ha hc (by omega)
 have g0:((l.map hf).map lgv).getD 0 []=lgv (hf (l.head hne)):=by
  cases l with
  |nil=>exact absurd rfl hne
  |cons x l=>rfl
 have hl1:((l.map hf).map lgv).length=l.length:=by rw [List.length_map,List.length_map]
 rw [Qa (by rw [List.length_map];omega),if_pos (by rw [List.length_map,List.length_nil];omega),if_pos (by rw [List.length_map,List.length_nil];omega),List.nil_append,List.length_map,er,Zb]
 simp only
 rw [if_pos (by rw [hl1];omega),if_pos (by rw [hl1];omega),g0]
 simp only [asL0,asL1,asL2]
 have hff:(hf (l.head hne)).f=(l.head hne).f:=rfl
 rw [hff,ew6,ew7,ea,Zb]
 simp only
 rw [ec,Zb]
 simp only
 have hb:(0:Int)<=0/\(0:Int)<=2:=by decide
 obtain ⟨s,es,hs⟩:=Qr0 (T.pos 0) (fr (exL 0 a 0 (l.map hf))).2.2
 have sq1:=T.r1.sq (b:=0) T.ra
 rw [T.r1.exact hb T.ra,Zb,T.r2.exact hb T.ra,Zb,T.r3.exact hb T.ra,Zb,T.r1.exact hb T.rc,Zb]
 simp only [decide_true,Zn,Zc]
 rw [Qa6 sq1 sq1 (by decide),Zb,Qbh (sq1.add sq1) (T.r2.sq T.ra) (by decide) (T.two 0),Zb]
 simp only [decide_true,Zn,Zc]
 rw [Qbh (T.r2.sq T.ra) (T.r3.sq T.ra) (by decide) (T.same 0),Zb]
 simp only [decide_true,Zn,Zc]
 rw [es,Zb,Qa hs]
 unfold z184.j18
 simp only
 have r:Runs (λrec x=>z184.l2aP ((l.map hf).map lgv) ((l.map hr2).map lgv) ((l.map ho2).map lgv) a.1 a.2.1 a.2.2 c.1 c.2.1 c.2.2 rec some x) ((1:Nat):Int) (.inl ((3:Nat):Int)):=
  .step (Qph T (.inl rfl)) (.step (Qph T (.inr rfl)) (.done λrec=>by
   unfold z184.l2aP
   rw [Qa (by omega)]))
 have er2:z184.l2a ((l.map hf).map lgv) ((l.map hr2).map lgv) ((l.map ho2).map lgv) a.1 a.2.1 a.2.2 c.1 c.2.1 c.2.2 (1:Int)=some (.inl ((3:Nat):Int)):=r.lfp
 rw [er2,Zb]
 simp only
 rw [Qa2]
 rfl
theorem divInt_nonneg {a b:Int} (h:0<=a) (h':0<b):0<=Rat.divInt a b:=by
 rw [Rat.divInt_eq_div,Rat.div_def]
 have e1:((0:Int):Rat)<=(a:Rat):=Rat.intCast_le_intCast.2 h
 have e2:((0:Int):Rat)<(b:Rat):=Rat.intCast_lt_intCast.2 h'
 exact Rat.mul_nonneg e1 (Rat.le_of_lt (Rat.inv_pos.2 e2))
end Go.Proofs.YtgjncgiekniniaaGreatDoor.A
end
section
set_option linter.unusedVariables false
namespace Go.Proofs.YtgjncgiekniniaaGreatDoor.A
open Go
namespace AccrueTwice
theorem law (a0:Int) (a1:Int) (a2:Int) (a3:List Int) (a4:List Int) (a5:List Int) (a6:Int) (a7:Int) (h0:(Lit.int .i64 a0).wf=true) (h1:(Lit.int .i64 a1).wf=true) (h2:(Lit.int .i64 a2).wf=true) (h3:(∀n∈a3,(Lit.int .u8 n).wf=true)/\a3.length<=maxLen) (h4:(∀n∈a4,(Lit.int .u32 n).wf=true)/\a4.length<=maxLen) (h5:(∀n∈a5,(Lit.int .u16 n).wf=true)/\a5.length<=maxLen) (h6:(Lit.int .u8 a6).wf=true) (h7:(Lit.int .u8 a7).wf=true):z184.F a0 a1 a2 a3 a4 a5 a6 a7=some true:=
 Q1k h3.1 h4.1 h5.1 h6 h7
end AccrueTwice
end Go.Proofs.YtgjncgiekniniaaGreatDoor.A
end
section
set_option maxRecDepth 100000
namespace Go.Proofs.YtgjncgiekniniaaGreatDoor.A
open Go Go.RowKit Go.ChangeShapes Go.WideShapes Go.ChangeAt
noncomputable section
namespace AccrueTwice
theorem wide:Q4g Tryz.prog 8 Tryz.f17.params.toList=some [(.agg [.sc (.i .i64),.sc (.i .i64),.sc (.i .i64),.sl [(.i .u8)],.sl [(.i .u32)],.sl [(.i .u16)]]),(.agg [.sc (.i .u8),.sc (.i .u8)])]:=by kernel_rfl
theorem readable:Tryz.f17.params.toList.all (λt=>Tryz.prog.readableRec t&&decide (t<Tryz.prog.types.size))=true:=by kernel_rfl
noncomputable def args0:Array Value:=#[.agg #[.int .i64 0,.int .i64 0,.int .i64 0,.slice none 0 0,.slice none 0 0,.slice none 0 0],.agg #[.int .u8 0,.int .u8 0]]
theorem laid_met (os:Os):laidMet Tryz.prog Rows.accrueTwiceRow.laid ((Q4l os).forCall (λ_ _=>0) ⟨#[],args0,[]⟩).memory:=
 laidMet_of_run' 12 (by kernel_rfl) (by kernel_rfl)
theorem reads (os:Os) {H:Type} (enc:TypeId×Value->H):∃ds places,DataW.whole enc Tryz.prog ((Q4l os).forCall (λ_ _=>0) ⟨#[],args0,[]⟩).memory Tryz.f17.params.toList Rows.accrueTwiceSpec.vars false args0.toList 12=some (ds,[],places):=
 ⟨[.agg [.agg [.lit (.int .i64 0),.lit (.int .i64 0),.lit (.int .i64 0)],.nil,.nil,.nil],.agg [.lit (.int .u8 0),.lit (.int .u8 0)]],[],by kernel_rfl⟩
theorem plainly (vs:List V) (h:okAL [(.agg [.sc (.i .i64),.sc (.i .i64),.sc (.i .i64),.sl [(.i .u8)],.sl [(.i .u32)],.sl [(.i .u16)]]),(.agg [.sc (.i .u8),.sc (.i .u8)])] vs):∃p r,SoundC Tryz.prog 17 vs p/\p.m=some r/\p.enc r=.bool true:=by
 obtain ⟨_,_,rfl,⟨_,rfl,_,_,rfl,⟨a0,rfl,h0⟩,_,_,rfl,⟨a1,rfl,h1⟩,_,_,rfl,⟨a2,rfl,h2⟩,_,_,rfl,⟨a3,rfl,h3⟩,_,_,rfl,⟨a4,rfl,h4⟩,_,_,rfl,⟨a5,rfl,h5⟩,rfl⟩,_,_,rfl,⟨_,rfl,_,_,rfl,⟨a6,rfl,h6⟩,_,_,rfl,⟨a7,rfl,h7⟩,rfl⟩,rfl⟩:=h
 exact ⟨⟨Bool,z184.F a0 a1 a2 a3 a4 a5 a6 a7,z184.enc⟩,true,z184.sound _ _ (by kernel_rfl),law a0 a1 a2 a3 a4 a5 a6 a7 h0 h1 h2 h3 h4 h5 h6 h7,rfl⟩
theorem specFn {H:Type} (ds:List (DataW H)) (h:ds.length=Tryz.f17.params.toList.length):Rows.accrueTwiceSpec.fn H ds={results:=[.lit (.bool true)],args:=ds}:=by
 have h:ds.length=2:=h.trans (by kernel_rfl)
 match ds,h with
 |[d0,d1],_=>rfl
theorem clos:Tryz.prog.closure 17=[17,58,95,153,219,61,60,152,113,26,102,64,59,147,213,142,210,258,259,57,146,212,145,36,76,160,223,260,161,200,250,249,251,253,276,252,255,279,289,277,287,278,288,292,283,290,293,285,284,254,158,222,185,164,227,268,183,99,184,104,91,28,114,195,247,74,90,110,24,100,186,245,273,187,38,118,198,248,275,286,291,199,201,69,119,202,120,121,203,204,156,122,123,176,92,163,226,162,188,224,261,262,280,225,263,264,265,266,267,281,68,124,157,130,148,209,228,257,149,214,215,54,140,211,141,151,218,165,229,230,231,65,232,269,78,89,150,216,217,71,73,66,25,101,189,190,246,274,191,77,67]:=by kernel_rfl
theorem inPlace:(Rows.accrueTwiceRow.inPlace == Tryz.prog.inPlace 17)=true:=by unfold Program.inPlace;rw [clos];kernel_rfl
theorem unfollowed:(Rows.accrueTwiceRow.unfollowed == Tryz.prog.unfollowed 17)=true:=by unfold Program.unfollowed;rw [clos];kernel_rfl
theorem recurses:(Rows.accrueTwiceRow.recurses == Tryz.prog.recurses 17)=true:=by unfold Program.recurses Program.unfollowed;rw [clos];kernel_rfl
theorem named:(Rows.accrueTwiceRow.named == Tryz.prog.varsNamed 17)=true:=by unfold Program.varsNamed;rw [clos];kernel_rfl
theorem number:Tryz.prog.funcNamed "chattel/chattellaw18.AccrueTwice" = some 17:=by kernel_rfl
theorem goes:false=Rows.accrueTwiceRow.goesBy Tryz.prog:=by
 have h:Tryz.prog.goes 17=false:=by unfold Program.goes Program.unfollowed;rw [clos];kernel_rfl
 have e:Rows.accrueTwiceRow.goesBy Tryz.prog=((Tryz.prog.funcNamed "chattel/chattellaw18.AccrueTwice").any Tryz.prog.goes||false):=by kernel_rfl
 rw [e,number]
 simp [h]
theorem j_wf:Rows.accrueTwiceRow.wf (OpenSpec.ofChange (OpenSpec.ofChange Rows.accrueTwiceSpec).bare)=true:=by kernel_rfl
theorem j_params:(Tryz.f17.params.all (Tryz.pinned.checked.prog.readableRec ·))=true:=by kernel_rfl
theorem j_vars:namedTie Tryz.pinned.checked.prog Rows.accrueTwiceRow.named (OpenSpec.ofChange Rows.accrueTwiceSpec).bare.vars=true:=by kernel_rfl
theorem j_stops:(Rows.accrueTwiceRow.stops == [])=true:=by kernel_rfl
theorem j_knobs:(Rows.accrueTwiceRow.knobs == [])=true:=by kernel_rfl
theorem j_maps:(Rows.accrueTwiceRow.maps == (Tryz.f17.params.toList++DataSpec.varTypes Tryz.pinned.checked.prog (OpenSpec.ofChange Rows.accrueTwiceSpec).bare.plain).any (Tryz.pinned.checked.prog.mapsRec ·))=true:=by kernel_rfl
theorem j_ifaces:(Rows.accrueTwiceRow.ifaces == (Tryz.f17.params.toList++DataSpec.varTypes Tryz.pinned.checked.prog (OpenSpec.ofChange Rows.accrueTwiceSpec).bare.plain).any (Tryz.pinned.checked.prog.ifacesRec ·))=true:=by kernel_rfl
theorem j_mapsOut:(Rows.accrueTwiceRow.mapsOut == Tryz.pinned.checked.prog.mapsAmong Tryz.f17.resultTypes.toList)=true:=by kernel_rfl
theorem j_loops:(Rows.accrueTwiceRow.loops == (Tryz.f17.params.toList++DataSpec.varTypes Tryz.pinned.checked.prog (OpenSpec.ofChange Rows.accrueTwiceSpec).bare.plain).any (Tryz.pinned.checked.prog.loopsFrom ·))=true:=by kernel_rfl
theorem j_wideKeys:(Rows.accrueTwiceRow.wideKeys == (Tryz.f17.params.toList++DataSpec.varTypes Tryz.pinned.checked.prog (OpenSpec.ofChange Rows.accrueTwiceSpec).bare.plain++Tryz.f17.resultTypes.toList).any (Tryz.pinned.checked.prog.wideKeysFrom ·))=true:=by kernel_rfl
theorem j_varsRead:(OpenSpec.ofChange Rows.accrueTwiceSpec).bare.vars.all (Tryz.pinned.checked.prog.varReadable ·)=true:=by kernel_rfl
theorem j_results:(Tryz.f17.resultTypes.all λt=>Tryz.pinned.checked.prog.readableRec t&&decide (t<Tryz.pinned.checked.prog.types.size))=true:=by kernel_rfl
theorem j_ifacesOut:(Rows.accrueTwiceRow.ifacesOut == Tryz.f17.resultTypes.toList.any (Tryz.pinned.checked.prog.ifacesRec ·))=true:=by kernel_rfl
theorem j_loopsOut:(Rows.accrueTwiceRow.loopsOut == Tryz.f17.resultTypes.toList.any (Tryz.pinned.checked.prog.loopsFrom ·))=true:=by kernel_rfl
theorem j_plainKeys:(Rows.accrueTwiceRow.plainKeys == Tryz.pinned.checked.prog.plainKeys)=true:=by kernel_rfl
theorem j_short:Rows.accrueTwiceRow.shortTexts.isNone=true:=by kernel_rfl
theorem j_lift:(Rows.accrueTwiceRow.lifted == Tryz.pinned.checked.prog.liftsFinal)=true:=by kernel_rfl
theorem j_make:(Tryz.pinned.checked.prog.make == some Rows.accrueTwiceRow.make)=true:=by kernel_rfl
theorem j_kinds:(Rows.accrueTwiceRow.kinds == (if Rows.accrueTwiceRow.domain.isEmpty then [] else Tryz.f17.params.toList.map λt=>match Tryz.pinned.checked.prog.underlying t with|some (.int k)=>some k|_=>none))=true:=by kernel_rfl
theorem j_pinned:(Rows.accrueTwiceRow.pinned == Rows.accrueTwiceRow.pinnedBy)=true:=by kernel_rfl
theorem j_veiled:(Rows.accrueTwiceRow.veiled == (Tryz.f17.params.toList++DataSpec.varTypes Tryz.pinned.checked.prog (OpenSpec.ofChange Rows.accrueTwiceSpec).bare.plain++Tryz.f17.resultTypes.toList).any (Tryz.pinned.checked.prog.veiledRec ·))=true:=by kernel_rfl
theorem j_veiledFits:Rows.accrueTwiceRow.veiledFits Tryz.pinned.checked.prog Tryz.f17.params.toList (Tryz.f17.params.toList++DataSpec.varTypes Tryz.pinned.checked.prog (OpenSpec.ofChange Rows.accrueTwiceSpec).bare.plain++Tryz.f17.resultTypes.toList)=true:=by kernel_rfl
theorem joined:joinedFacts Tryz.pinned.checked.prog 17 Tryz.f17 (OpenSpec.ofChange Rows.accrueTwiceSpec).bare Rows.accrueTwiceRow=true:=by
 unfold joinedFacts
 simp only [Bool.and_eq_true]
 and_intros
 ·exact j_wf
 ·exact laidOut
 ·exact rowed
 ·exact j_params
 ·exact j_vars
 ·exact j_stops
 ·exact Q40
 ·exact j_knobs
 ·exact Q4y
 ·exact inPlace
 ·exact unfollowed
 ·exact recurses
 ·exact named
 ·exact j_maps
 ·exact j_ifaces
 ·exact j_mapsOut
 ·exact j_loops
 ·exact j_wideKeys
 ·exact j_varsRead
 ·exact j_results
 ·exact j_ifacesOut
 ·exact j_loopsOut
 ·exact j_plainKeys
 ·exact j_short
 ·exact Q4z
 ·exact Q4w
 ·exact j_lift
 ·exact j_make
 ·exact j_kinds
 ·exact j_pinned
 ·exact j_veiled
 ·exact j_veiledFits
theorem lifted (os:Os) (started:os.Started) (H:Type) (enc:TypeId×Value->H) (F:Stop.Interp) :
  ReturnsInHanded {} Tryz.checked os 17 .any ((OpenSpec.ofChange Rows.accrueTwiceSpec).preRow enc Tryz.prog Tryz.f17 Rows.accrueTwiceRow.domain false Rows.accrueTwiceRow.laid) (((OpenSpec.ofChange Rows.accrueTwiceSpec).at F).post enc Tryz.prog Tryz.f17 false true false false):=by
 obtain ⟨ds0,places,hx⟩:=reads os enc
 refine returnsInHanded_of_row (C:=Tryz.checked) (s:=OpenSpec.ofChange Rows.accrueTwiceSpec) own started (by kernel_rfl) Tryz.func17
  (witness_row_at (enc:=enc) (C:=Tryz.checked) false (Q4l os) args0 rfl (by kernel_rfl) (by kernel_rfl) (by kernel_rfl)
   (OpenSpec.preRow_of_cond 12 hx (by kernel_rfl) (λk hk=>by cases hk) (by kernel_rfl) (laid_met os))) ?_
 intro W base args ds gs before hval hW _ _ _ hL _ _
 exact Q44 Qsk laidOut readable wide (tb:=4) (by kernel_rfl) (by kernel_rfl) rfl specFn plainly W base args ds gs before hval hW
theorem wrapped:Tryz.f17.isWrapper Tryz.pinned.checked.prog Rows.accrueTwiceRow.wrapper Rows.accrueTwiceRow.mainSum:=by
 unfold Func.isWrapper;first|(rw [if_pos (by decide +kernel)];kernel_rfl)|(rw [if_neg (by decide +kernel)];exact ⟨rfl,rfl⟩)
theorem origin:Tryz.f17.isInstance Tryz.pinned.checked.prog Rows.accrueTwiceRow.origin Rows.accrueTwiceRow.targs:=of_decide_eq_true (by kernel_rfl)
theorem said:Rows.AccrueTwiceSaid:=
 OpenClaim.holds_of_cond 17 Tryz.f17 rfl rfl rfl rfl rfl rfl rfl ⟨rfl,rfl,rfl,rfl,rfl⟩ rfl rfl rfl rfl rfl number Tryz.func17 joined origin wrapped
  (λos started H enc _ F=>by rw [OpenClaim.pre_eq_preRow];exact lifted os started H enc F)
theorem plainRow (f:FuncId) (fn:Func) (hf:Tryz.pinned.checked.prog.funcNamed "chattel/chattellaw18.AccrueTwice" = some f) (hfn:Tryz.pinned.checked.prog.funcs[f]? = some fn) :
  false=Tryz.pinned.checked.prog.looks []/\∀(j:Nat) t,fn.params[j]? = some t->Tryz.pinned.checked.prog.wantsStandIn t=false:=by
 obtain rfl:f=17:=Option.some.inj (number.symm.trans hf) |>.symm
 obtain rfl:fn=Tryz.f17:=(Option.some.inj (Tryz.func17.symm.trans hfn)).symm
 refine ⟨Q46,λj t ht=>?_⟩
 have hall:Tryz.f17.params.toList.all (λt=>!Tryz.prog.wantsStandIn t)=true:=by kernel_rfl
 have:=List.all_eq_true.1 hall t (by simpa using Array.mem_of_getElem? ht)
 exact Bool.not_eq_true' _ |>.mp this
theorem card:Rows.AccrueTwiceCardSaid:=
 Claim7.holds_tied_plain_at .later [] _ _ _ _ said (λ_ h=>by cases h) (by kernel_rfl) (λ_ h=>by cases h) accrueTwice_row_tie rfl ⟨rfl,rfl⟩ main rfl plainRow goes
end AccrueTwice
end
end Go.Proofs.YtgjncgiekniniaaGreatDoor.A
end
