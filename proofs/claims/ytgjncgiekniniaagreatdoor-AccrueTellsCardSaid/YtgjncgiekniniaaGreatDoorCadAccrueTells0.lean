/- AccrueTells: part 0 of what is its own. -/
import Derived.Test.YtgjncgiekniniaaGreatDoorCad3
set_option linter.unusedVariables false
set_option linter.unusedSimpArgs false
section
namespace Go.Proofs.YtgjncgiekniniaaGreatDoor.A
open Go
noncomputable section
def z5.l2P {R:Type} (rec done:((List UInt8)×Int×Int)->Option R):((List UInt8)×Int×Int)->Option R:=λx=>match x with
 |(a,b,c)=>(bif (decide (c<4)) then (if ([(wr .u8 (wr .i64 ((48:Int)+(Int.tmod b 10))))].map λn=>UInt8.ofNat n.toNat).length+a.length<=9223372036854775807 then (rec ((([(wr .u8 (wr .i64 ((48:Int)+(Int.tmod b 10))))].map λn=>UInt8.ofNat n.toNat)++a),(wr .i64 (Int.tdiv b 10)),(wr .i64 (c+1)))) else none) else (done (a,b,c)))
def z5.l2 (x:((List UInt8)×Int×Int)):Option (((List UInt8)×Int×Int)):=lfp (λrec x=>z5.l2P rec some x) x
def z5.l0P (a:List Int) {R:Type} (rec done:((List UInt8)×Int)->Option R):((List UInt8)×Int)->Option R:=λx=>match x with
 |(b,c)=>(bif (decide (c<(((a).length:Nat):Int))) then (if 0<=c/\c<(a.length:Int) then ((z5.l2 (b,(a.getD (c).toNat 0),(0:Int))).bind λd=>(rec (d.1,(wr .i64 (c+1))))) else none) else (done (b,c)))
def z5.l0 (a:List Int) (x:((List UInt8)×Int)):Option (((List UInt8)×Int)):=lfp (λrec x=>z5.l0P a rec some x) x
def z5.l4P (a:List UInt8) {R:Type} (rec:Int->Option R) (done:(Int)->Option R):Int->Option R:=λb=>(if 0<=b/\b<(a.length:Int) then (bif (decide (((a.getD (b).toNat 0).toNat:Int)=48)) then (rec (wr .i64 (b+1))) else (done b)) else none)
def z5.l4 (a:List UInt8) (x:Int):Option ((Int)):=lfp (λrec x=>z5.l4P a rec some x) x
def z5.F (a0:List Int):Option ((List UInt8)):=
 (bif (decide ((((a0).length:Nat):Int)=0)) then (some ([48]:List UInt8)) else ((z5.l0 a0 (([]:List UInt8),(0:Int))).bind λo1=>((z5.l4 o1.1 0).bind λo2=>(if 0<=o2/\o2<=((o1.1).length:Int) then (some (o1.1.drop (o2).toNat)) else none))))
def z5.enc (r:(List UInt8)):V:=(.str r)
def z5.pack:List V->Option Pack
 |[(.ints _ .i64 a0)]=>some ⟨(List UInt8),z5.F a0,z5.enc⟩
 |_=>none
def z6.F (a0:List Int) (a1:Bool):Option ((List UInt8)):=
 ((z5.F a0).bind λr1=>(bif a1 then (if ([45]:List UInt8).length+r1.length<=9223372036854775807 then (some (([45]:List UInt8)++r1)) else none) else (some r1)))
def z6.enc (r:(List UInt8)):V:=(.str r)
def z6.pack:List V->Option Pack
 |[(.agg [(.ints _ .i64 a0),(.bool a1)])]=>some ⟨(List UInt8),z6.F a0 a1,z6.enc⟩
 |_=>none
def z7.F (a0:List Int) (a1:Bool):Option ((List Int)×Bool):=
 (bif a1 then (some (a0,(decide ((((a0).length:Nat):Int)>0)))) else (some (a0,false)))
def z7.enc (r:(List Int)×Bool):V:=(.agg [(.ints false .i64 r.1),(.bool r.2)])
def z7.pack:List V->Option Pack
 |[(.ints _ .i64 a0),(.bool a1)]=>some ⟨(List Int)×Bool,z7.F a0 a1,z7.enc⟩
 |_=>none
def z8.l0P {R:Type} (rec done:(Int×(List Int))->Option R):(Int×(List Int))->Option R:=λx=>match x with
 |(a,b)=>(bif (decide (a>0)) then (if ((b).length+([(Int.tmod a 10000)]).length)*8<=140737488355328 then (rec ((wr .i64 (Int.tdiv a 10000)),(b++[(Int.tmod a 10000)]))) else none) else (done (a,b)))
def z8.l0 (x:(Int×(List Int))):Option ((Int×(List Int))):=lfp (λrec x=>z8.l0P rec some x) x
def z8.F (a0:Int):Option ((List Int)):=
 ((z8.l0 (a0,[])).bind λo1=>(some o1.2))
def z8.enc (r:(List Int)):V:=(.ints false .i64 r)
def z8.pack:List V->Option Pack
 |[(.int .i64 a0)]=>some ⟨(List Int),z8.F a0,z8.enc⟩
 |_=>none
def z9.F (a0:Int):Option ((List Int)×Bool):=
 (bif (decide (a0<0)) then ((z8.F (wr .i64 (0-a0))).bind λr1=>((z7.F r1 true).bind λr2=>(some (r2.1,r2.2)))) else ((z8.F a0).bind λr3=>((z7.F r3 false).bind λr4=>(some (r4.1,r4.2)))))
def z9.enc (r:(List Int)×Bool):V:=(.agg [(.ints false .i64 r.1),(.bool r.2)])
def z9.pack:List V->Option Pack
 |[(.int .i64 a0)]=>some ⟨(List Int)×Bool,z9.F a0,z9.enc⟩
 |_=>none
def z10.j1 (a0:Int):Option (Bool):=
 (bif (decide ((Int.tmod a0 400)=0)) then (some true) else (bif (decide ((Int.tmod a0 4)=0)) then (some (!decide ((Int.tmod a0 100)=0))) else (some false)))
def z10.F (a0:Int):Option (Bool):=
 (bif (decide (a0<1)) then (some false) else (bif (decide (a0>9999)) then (some false) else (z10.j1 a0)))
def z10.enc (r:Bool):V:=(.bool r)
def z10.pack:List V->Option Pack
 |[(.int .i64 a0)]=>some ⟨Bool,z10.F a0,z10.enc⟩
 |_=>none
def z11.j1 (a1 a0:Int):Option (Int):=
 (bif (decide (a1=2)) then ((z10.F a0).bind λr2=>(bif r2 then (some 29) else (some 28))) else (bif (decide (a1=4)) then (some 30) else (bif (decide (a1=6)) then (some 30) else (bif (decide (a1=9)) then (some 30) else (bif (decide (a1=11)) then (some 30) else (some 31))))))
def z11.F (a0 a1:Int):Option (Int):=
 (bif (decide (a0<1)) then (some 0) else (bif (decide (a0>9999)) then (some 0) else (bif (decide (a1<1)) then (some 0) else (bif (decide (a1>12)) then (some 0) else (z11.j1 a1 a0)))))
def z11.enc (r:Int):V:=(.int .i64 r)
def z11.pack:List V->Option Pack
 |[(.int .i64 a0),(.int .i64 a1)]=>some ⟨Int,z11.F a0 a1,z11.enc⟩
 |_=>none
def z12.j7 (a0 a3 j5 j7:Int):Option (Int×Int×Int):=
 (some ((wr .i64 ((wr .i64 ((Int.tmod a0 a3)+a3))+1)),(wr .i64 (j5+1)),(wr .i64 (j7+1))))
def z12.j5 (a0 a3 j5 a2:Int):Option (Int×Int×Int):=
 ((z11.F (wr .i64 ((wr .i64 ((Int.tmod a0 a3)+a3))+1)) (wr .i64 (j5+1))).bind λr6=>(if r6=0 then none else (bif (decide ((Int.tmod a2 r6)<0)) then (z12.j7 a0 a3 j5 (wr .i64 ((Int.tmod a2 r6)+r6))) else (z12.j7 a0 a3 j5 (Int.tmod a2 r6)))))
def z12.j8 (a0 a3 j8 a2:Int):Option (Int×Int×Int):=
 ((z11.F (wr .i64 ((Int.tmod a0 a3)+1)) (wr .i64 (j8+1))).bind λr9=>(if r9=0 then none else (bif (decide ((Int.tmod a2 r9)<0)) then (some ((wr .i64 ((Int.tmod a0 a3)+1)),(wr .i64 (j8+1)),(wr .i64 ((wr .i64 ((Int.tmod a2 r9)+r9))+1)))) else (some ((wr .i64 ((Int.tmod a0 a3)+1)),(wr .i64 (j8+1)),(wr .i64 ((Int.tmod a2 r9)+1)))))))
def z12.F (a0 a1 a2 a3:Int):Option (Int×Int×Int):=
 (if a3=0 then none else (bif (decide ((Int.tmod a0 a3)<0)) then (bif (decide ((Int.tmod a1 12)<0)) then (z12.j5 a0 a3 (wr .i64 ((Int.tmod a1 12)+12)) a2) else (z12.j5 a0 a3 (Int.tmod a1 12) a2)) else (bif (decide ((Int.tmod a1 12)<0)) then (z12.j8 a0 a3 (wr .i64 ((Int.tmod a1 12)+12)) a2) else (z12.j8 a0 a3 (Int.tmod a1 12) a2))))
def z12.enc (r:Int×Int×Int):V:=(.agg [(.int .i64 r.1),(.int .i64 r.2.1),(.int .i64 r.2.2)])
def z12.pack:List V->Option Pack
 |[(.agg [(.int .i64 a0),(.int .i64 a1),(.int .i64 a2)]),(.int .i64 a3)]=>some ⟨Int×Int×Int,z12.F a0 a1 a2 a3,z12.enc⟩
 |_=>none
def z13.F (a0:List Int) (a1:Int):Option (Int):=
 (bif (decide (a1>=(((a0).length:Nat):Int))) then (some 0) else (if 0<=a1/\a1<(a0.length:Int) then (some (a0.getD (a1).toNat 0)) else none))
def z13.enc (r:Int):V:=(.int .i64 r)
def z13.pack:List V->Option Pack
 |[(.ints _ .i64 a0),(.int .i64 a1)]=>some ⟨Int,z13.F a0 a1,z13.enc⟩
 |_=>none
def z14.enc (r:(List Int)):V:=(.ints false .i64 r)
def z14.pack:List V->Option Pack
 |[(.ints _ .i64 a0)]=>some ⟨(List Int),z14.F a0,z14.enc⟩
 |_=>none
def z15.l2aaP (a b:List Int) (c:Int) {R:Type} (rec done:(Int×Int×(List Int))->Option R):(Int×Int×(List Int))->Option R:=λx=>match x with
 |(d,e,g)=>(bif (decide (e<(((b).length:Nat):Int))) then ((z13.F b e).bind λh=>(if 0<=(wr .i64 (c+e))/\(wr .i64 (c+e))<(g.length:Int) then (if ((wr .i64 (c+e))).toNat<g.length then (if 0<=c/\c<(a.length:Int) then (if 0<=(wr .i64 (c+e))/\(wr .i64 (c+e))<(g.length:Int) then (if ((wr .i64 (c+e))).toNat<g.length then (rec ((wr .i64 (Int.tdiv (wr .i64 ((wr .i64 ((g.getD ((wr .i64 (c+e))).toNat 0)+(wr .i64 ((a.getD (c).toNat 0)*h))))+d)) 10000)),(wr .i64 (e+1)),(g.set ((wr .i64 (c+e))).toNat (Int.tmod (wr .i64 ((wr .i64 ((g.getD ((wr .i64 (c+e))).toNat 0)+(wr .i64 ((a.getD (c).toNat 0)*h))))+d)) 10000)))) else none) else none) else none) else none) else none)) else (bif (decide (d>0)) then ((z13.F b e).bind λj=>(if 0<=(wr .i64 (c+e))/\(wr .i64 (c+e))<(g.length:Int) then (if ((wr .i64 (c+e))).toNat<g.length then (if 0<=c/\c<(a.length:Int) then (if 0<=(wr .i64 (c+e))/\(wr .i64 (c+e))<(g.length:Int) then (if ((wr .i64 (c+e))).toNat<g.length then (rec ((wr .i64 (Int.tdiv (wr .i64 ((wr .i64 ((g.getD ((wr .i64 (c+e))).toNat 0)+(wr .i64 ((a.getD (c).toNat 0)*j))))+d)) 10000)),(wr .i64 (e+1)),(g.set ((wr .i64 (c+e))).toNat (Int.tmod (wr .i64 ((wr .i64 ((g.getD ((wr .i64 (c+e))).toNat 0)+(wr .i64 ((a.getD (c).toNat 0)*j))))+d)) 10000)))) else none) else none) else none) else none) else none)) else (done (d,e,g))))
def z15.l2aa (a b:List Int) (c:Int) (x:(Int×Int×(List Int))):Option ((Int×Int×(List Int))):=lfp (λrec x=>z15.l2aaP a b c rec some x) x
def z15.l0P (a b:List Int) {R:Type} (rec done:(Int×(List Int))->Option R):(Int×(List Int))->Option R:=λx=>match x with
 |(c,d)=>(bif (decide (c<(((a).length:Nat):Int))) then ((z15.l2aa a b c ((0:Int),(0:Int),d)).bind λe=>(rec ((wr .i64 (c+1)),e.2.2))) else (done (c,d)))
def z15.l0 (a b:List Int) (x:(Int×(List Int))):Option ((Int×(List Int))):=lfp (λrec x=>z15.l0P a b rec some x) x
def z15.F (a0 a1:List Int):Option ((List Int)):=
 (if 0<=(wr .i64 ((wr .i64 ((((a0).length:Nat):Int)+(((a1).length:Nat):Int)))+1))/\(wr .i64 ((wr .i64 ((((a0).length:Nat):Int)+(((a1).length:Nat):Int)))+1))*8<=140737488355328 then ((z15.l0 a0 a1 ((0:Int),(List.replicate ((wr .i64 ((wr .i64 ((((a0).length:Nat):Int)+(((a1).length:Nat):Int)))+1))).toNat (0:Int)))).bind λo1=>((z14.F o1.2).bind λr2=>(some r2))) else none)
def z15.enc (r:(List Int)):V:=(.ints false .i64 r)
def z15.pack:List V->Option Pack
 |[(.ints _ .i64 a0),(.ints _ .i64 a1)]=>some ⟨(List Int),z15.F a0 a1,z15.enc⟩
 |_=>none
def z16.F (a0:List Int) (a1:Bool) (a2:List Int) (a3:Bool):Option ((List Int)×Bool):=
 ((z15.F a0 a2).bind λr1=>((z7.F r1 (!decide (a1=a3))).bind λr2=>(some (r2.1,r2.2))))
def z16.enc (r:(List Int)×Bool):V:=(.agg [(.ints false .i64 r.1),(.bool r.2)])
def z16.pack:List V->Option Pack
 |[(.agg [(.ints _ .i64 a0),(.bool a1)]),(.agg [(.ints _ .i64 a2),(.bool a3)])]=>some ⟨(List Int)×Bool,z16.F a0 a1 a2 a3,z16.enc⟩
 |_=>none
def z95.enc (r:Int):V:=(.int .i64 r)
def z95.pack:List V->Option Pack
 |[(.ints _ .i64 a0)]=>some ⟨Int,z95.F a0,z95.enc⟩
 |_=>none
def z96.enc (r:Int):V:=(.int .i64 r)
def z96.pack:List V->Option Pack
 |[(.agg [(.int .i64 a0),(.int .i64 a1),(.int .i64 a2)]),(.agg [(.int .i64 a3),(.int .i64 a4),(.int .i64 a5)])]=>some ⟨Int,z96.F a0 a1 a2 a3 a4 a5,z96.enc⟩
 |_=>none
def z97.enc (r:Int):V:=(.int .i64 r)
def z97.pack:List V->Option Pack
 |[(.int .i64 a0)]=>some ⟨Int,z97.F a0,z97.enc⟩
 |_=>none
def z98.enc (r:Int×Int):V:=(.tup [(.int .i64 r.1),(.int .i64 r.2)])
def z98.pack:List V->Option Pack
 |[(.agg [(.int .i64 a0),(.int .i64 a1),(.int .i64 a2)])]=>some ⟨Int×Int,z98.F a0 a1 a2,z98.enc⟩
 |_=>none
def z99.l0P (a:Int) {R:Type} (rec:Int->Option R) (done:(Int)->Option R):Int->Option R:=λb=>((z97.F b).bind λc=>(bif (decide (c>=a)) then (rec (wr .i64 (b-1))) else (done b)))
def z99.l0 (a x:Int):Option ((Int)):=lfp (λrec x=>z99.l0P a rec some x) x
def z99.l2b6P (a:Int) {R:Type} (rec:Int->Option R) (done:(Int)->Option R):Int->Option R:=λb=>(bif (decide (b<9999)) then ((z97.F (wr .i64 (b+1))).bind λc=>(bif (decide (c<a)) then (rec (wr .i64 (b+1))) else (done b))) else (done b))
def z99.l2b6 (a x:Int):Option ((Int)):=lfp (λrec x=>z99.l2b6P a rec some x) x
def z99.l4P (a:Int) {R:Type} (rec done:(Int×Int)->Option R):(Int×Int)->Option R:=λx=>match x with
 |(b,c)=>((z88.F a c).bind λd=>(bif (decide (b>d)) then ((z88.F a c).bind λe=>(rec ((wr .i64 (b-e)),(wr .i64 (c+1))))) else (done (b,c))))
def z99.l4 (a:Int) (x:(Int×Int)):Option ((Int×Int)):=lfp (λrec x=>z99.l4P a rec some x) x
def z99.j1 (a0:Int):Option (Int×Int×Int×Int):=
 ((z99.l0 a0 (if 9999<(wr .i64 ((wr .i64 (Int.tdiv (wr .i64 (a0*400)) 146097))+1)) then 9999 else (wr .i64 ((wr .i64 (Int.tdiv (wr .i64 (a0*400)) 146097))+1)))).bind λo2=>((z99.l2b6 a0 o2).bind λo3=>((z97.F o3).bind λr4=>((z99.l4 o3 ((wr .i64 (a0-r4)),(1:Int))).bind λo5=>(some (o3,o5.2,o5.1,(0:Int)))))))
def z99.F (a0:Int):Option (Int×Int×Int×Int):=
 (bif (decide (a0<1)) then (some ((0:Int),(0:Int),(0:Int),(11:Int))) else (bif (decide (a0>3652059)) then (some ((0:Int),(0:Int),(0:Int),(11:Int))) else (z99.j1 a0)))
def z99.enc (r:Int×Int×Int×Int):V:=(.tup [(.agg [(.int .i64 r.1),(.int .i64 r.2.1),(.int .i64 r.2.2.1)]),(.int .i64 r.2.2.2)])
def z99.pack:List V->Option Pack
 |[(.int .i64 a0)]=>some ⟨Int×Int×Int×Int,z99.F a0,z99.enc⟩
 |_=>none
def z100.F (a0 a1 a2 a3:Int):Option (Int×Int×Int×Int):=
 ((z98.F a0 a1 a2).bind λr1=>(bif (!decide (r1.2=0)) then (some ((0:Int),(0:Int),(0:Int),r1.2)) else (bif (decide (a3<(-3719628:Int))) then (some ((0:Int),(0:Int),(0:Int),(11:Int))) else (bif (decide (a3>3719628)) then (some ((0:Int),(0:Int),(0:Int),(11:Int))) else ((z99.F (wr .i64 (r1.1+a3))).bind λr5=>(some (r5.1,r5.2.1,r5.2.2.1,r5.2.2.2)))))))
def z100.enc (r:Int×Int×Int×Int):V:=(.tup [(.agg [(.int .i64 r.1),(.int .i64 r.2.1),(.int .i64 r.2.2.1)]),(.int .i64 r.2.2.2)])
def z100.pack:List V->Option Pack
 |[(.agg [(.int .i64 a0),(.int .i64 a1),(.int .i64 a2)]),(.int .i64 a3)]=>some ⟨Int×Int×Int×Int,z100.F a0 a1 a2 a3,z100.enc⟩
 |_=>none
def z101.l2P (a:List UInt8) (b:Int) {R:Type} (rec done:(Int×Int)->Option R):(Int×Int)->Option R:=λx=>match x with
 |(c,d)=>(bif (decide (d<b)) then (if 0<=d/\d<(a.length:Int) then (rec ((wr .i64 ((wr .i64 ((wr .i64 ((10:Int)*c))+(wr .i64 ((a.getD (d).toNat 0).toNat:Int))))-48)),(wr .i64 (d+1)))) else none) else (done (c,d)))
def z101.l2 (a:List UInt8) (b:Int) (x:(Int×Int)):Option ((Int×Int)):=lfp (λrec x=>z101.l2P a b rec some x) x
def z101.l0P (a:List UInt8) {R:Type} (rec done:(Int×(List Int))->Option R):(Int×(List Int))->Option R:=λx=>match x with
 |(b,c)=>(bif (decide (b>0)) then ((z101.l2 a b ((0:Int),(if (wr .i64 (b-4))>0 then (wr .i64 (b-4)) else 0))).bind λd=>(if ((c).length+([d.1]).length)*8<=140737488355328 then (rec ((wr .i64 (b-4)),(c++[d.1]))) else none)) else (done (b,c)))
def z101.l0 (a:List UInt8) (x:(Int×(List Int))):Option ((Int×(List Int))):=lfp (λrec x=>z101.l0P a rec some x) x
def z101.F (a0:List UInt8):Option ((List Int)):=
 ((z101.l0 a0 ((a0.length:Int),[])).bind λo1=>((z14.F o1.2).bind λr2=>(some r2)))
def z101.enc (r:(List Int)):V:=(.ints false .i64 r)
def z101.pack:List V->Option Pack
 |[(.str a0)]=>some ⟨(List Int),z101.F a0,z101.enc⟩
 |_=>none
def z102.F (a0:List UInt8):Option ((List Int)×Bool):=
 (if (0:Int)<=(0:Int)/\(0:Int)<(a0.length:Int) then (bif (decide (((a0.getD 0 0).toNat:Int)=45)) then (if (0:Int)<=(1:Int)/\(1:Int)<=((a0).length:Int) then ((z101.F (a0.drop 1)).bind λr1=>((z7.F r1 true).bind λr2=>(some (r2.1,r2.2)))) else none) else ((z101.F a0).bind λr3=>((z7.F r3 false).bind λr4=>(some (r4.1,r4.2))))) else none)
def z102.enc (r:(List Int)×Bool):V:=(.agg [(.ints false .i64 r.1),(.bool r.2)])
def z102.pack:List V->Option Pack
 |[(.str a0)]=>some ⟨(List Int)×Bool,z102.F a0,z102.enc⟩
 |_=>none
def z103.l0b4P (a:List UInt8) {R:Type} (rec:Int->Option R) (done:((Int)⊕(Bool))->Option R):Int->Option R:=λb=>(bif (decide (b<(a.length:Int))) then (if 0<=b/\b<(a.length:Int) then (bif (decide (((a.getD (b).toNat 0).toNat:Int)<48)) then (done (.inr false)) else (if 0<=b/\b<(a.length:Int) then (bif (decide (((a.getD (b).toNat 0).toNat:Int)>57)) then (done (.inr false)) else (rec (wr .i64 (b+1)))) else none)) else none) else (done (.inl b)))
def z103.l0b4 (a:List UInt8) (x:Int):Option (((Int)⊕(Bool))):=lfp (λrec x=>z103.l0b4P a rec some x) x
def z103.F (a0:List UInt8):Option (Bool):=
 (bif (decide ((a0.length:Int)=0)) then (some false) else (bif (decide ((a0.length:Int)>1)) then (if (0:Int)<=(0:Int)/\(0:Int)<(a0.length:Int) then (bif (decide (((a0.getD 0 0).toNat:Int)=48)) then (some false) else ((z103.l0b4 a0 0).bind λo8=>match o8 with | .inl p9=>(some true) | .inr q10=>(some q10))) else none) else ((z103.l0b4 a0 0).bind λo11=>match o11 with | .inl p12=>(some true) | .inr q13=>(some q13))))
def z103.enc (r:Bool):V:=(.bool r)
def z103.pack:List V->Option Pack
 |[(.str a0)]=>some ⟨Bool,z103.F a0,z103.enc⟩
 |_=>none
def z104.j3 (j3:List UInt8) (r1:(List Int)×Bool) (a0:List UInt8):Option ((List Int)×Bool×Int):=
 (bif (decide ((j3.length:Int)>4096)) then (some (r1.1,r1.2,(7:Int))) else ((z103.F j3).bind λr4=>(bif (!r4) then (some (r1.1,r1.2,(5:Int))) else (bif (decide (j3=([48]:List UInt8))) then (bif (decide ((a0.length:Int)>1)) then (some (r1.1,r1.2,(5:Int))) else ((z102.F a0).bind λr8=>(some (r8.1,r8.2,(0:Int))))) else ((z102.F a0).bind λr9=>(some (r9.1,r9.2,(0:Int))))))))
def z104.F (a0:List UInt8):Option ((List Int)×Bool×Int):=
 ((z9.F 0).bind λr1=>(bif (decide ((a0.length:Int)>0)) then (if (0:Int)<=(0:Int)/\(0:Int)<(a0.length:Int) then (bif (decide (((a0.getD 0 0).toNat:Int)=45)) then (if (0:Int)<=(1:Int)/\(1:Int)<=((a0).length:Int) then (z104.j3 (a0.drop 1) r1 a0) else none) else (z104.j3 a0 r1 a0)) else none) else (z104.j3 a0 r1 a0)))
def z104.enc (r:(List Int)×Bool×Int):V:=(.tup [(.agg [(.ints false .i64 r.1),(.bool r.2.1)]),(.int .i64 r.2.2)])
def z104.pack:List V->Option Pack
 |[(.str a0)]=>some ⟨(List Int)×Bool×Int,z104.F a0,z104.enc⟩
 |_=>none
def z105.l0P (a:Int) {R:Type} (rec done:((List UInt8)×Int)->Option R):((List UInt8)×Int)->Option R:=λx=>match x with
 |(b,c)=>(bif (decide (c<a)) then (if b.length+([48]:List UInt8).length<=9223372036854775807 then (rec ((b++([48]:List UInt8)),(wr .i64 (c+1)))) else none) else (done (b,c)))
def z105.l0 (a:Int) (x:((List UInt8)×Int)):Option (((List UInt8)×Int)):=lfp (λrec x=>z105.l0P a rec some x) x
def z105.F (a0:Int):Option ((List Int)):=
 ((z105.l0 a0 (([49]:List UInt8),(0:Int))).bind λo1=>((z101.F o1.1).bind λr2=>(some r2)))
def z105.enc (r:(List Int)):V:=(.ints false .i64 r)
def z105.pack:List V->Option Pack
 |[(.int .i64 a0)]=>some ⟨(List Int),z105.F a0,z105.enc⟩
 |_=>none
def z106.F (a0:List Int) (a1:Bool):Option ((List Int)×Bool):=
 ((z7.F a0 (!a1)).bind λr1=>(some (r1.1,r1.2)))
def z106.enc (r:(List Int)×Bool):V:=(.agg [(.ints false .i64 r.1),(.bool r.2)])
def z106.pack:List V->Option Pack
 |[(.agg [(.ints _ .i64 a0),(.bool a1)])]=>some ⟨(List Int)×Bool,z106.F a0 a1,z106.enc⟩
 |_=>none
def z107.l0b6P (a b:List Int) {R:Type} (rec done:(Int×Int×(List Int))->Option R):(Int×Int×(List Int))->Option R:=λx=>match x with
 |(c,d,e)=>(bif (decide (d<(((a).length:Nat):Int))) then ((z13.F a d).bind λg=>((z13.F b d).bind λh=>(if ((e).length+([(Int.tmod (wr .i64 ((wr .i64 (g+h))+c)) 10000)]).length)*8<=140737488355328 then (rec ((wr .i64 (Int.tdiv (wr .i64 ((wr .i64 (g+h))+c)) 10000)),(wr .i64 (d+1)),(e++[(Int.tmod (wr .i64 ((wr .i64 (g+h))+c)) 10000)]))) else none))) else (bif (decide (d<(((b).length:Nat):Int))) then ((z13.F a d).bind λj=>((z13.F b d).bind λk=>(if ((e).length+([(Int.tmod (wr .i64 ((wr .i64 (j+k))+c)) 10000)]).length)*8<=140737488355328 then (rec ((wr .i64 (Int.tdiv (wr .i64 ((wr .i64 (j+k))+c)) 10000)),(wr .i64 (d+1)),(e++[(Int.tmod (wr .i64 ((wr .i64 (j+k))+c)) 10000)]))) else none))) else (bif (decide (c>0)) then ((z13.F a d).bind λm=>((z13.F b d).bind λn=>(if ((e).length+([(Int.tmod (wr .i64 ((wr .i64 (m+n))+c)) 10000)]).length)*8<=140737488355328 then (rec ((wr .i64 (Int.tdiv (wr .i64 ((wr .i64 (m+n))+c)) 10000)),(wr .i64 (d+1)),(e++[(Int.tmod (wr .i64 ((wr .i64 (m+n))+c)) 10000)]))) else none))) else (done (c,d,e)))))
def z107.l0b6 (a b:List Int) (x:(Int×Int×(List Int))):Option ((Int×Int×(List Int))):=lfp (λrec x=>z107.l0b6P a b rec some x) x
def z107.F (a0 a1:List Int):Option ((List Int)):=
 ((z107.l0b6 a0 a1 ((0:Int),(0:Int),[])).bind λo1=>((z14.F o1.2.2).bind λr2=>(some r2)))
def z107.enc (r:(List Int)):V:=(.ints false .i64 r)
def z107.pack:List V->Option Pack
 |[(.ints _ .i64 a0),(.ints _ .i64 a1)]=>some ⟨(List Int),z107.F a0 a1,z107.enc⟩
 |_=>none
def z108.l0P (a b:List Int) {R:Type} (rec:Int->Option R) (done:((Int)⊕(Int))->Option R):Int->Option R:=λc=>(bif (decide (c>=0)) then (if 0<=c/\c<(a.length:Int) then (if 0<=c/\c<(b.length:Int) then (bif (decide ((a.getD (c).toNat 0)<(b.getD (c).toNat 0))) then (done (.inr (-1:Int))) else (if 0<=c/\c<(a.length:Int) then (if 0<=c/\c<(b.length:Int) then (bif (decide ((a.getD (c).toNat 0)>(b.getD (c).toNat 0))) then (done (.inr 1)) else (rec (wr .i64 (c-1)))) else none) else none)) else none) else none) else (done (.inl c)))
def z108.l0 (a b:List Int) (x:Int):Option (((Int)⊕(Int))):=lfp (λrec x=>z108.l0P a b rec some x) x
def z108.F (a0 a1:List Int):Option (Int):=
 (bif (!decide ((((a0).length:Nat):Int)=(((a1).length:Nat):Int))) then (bif (decide ((((a0).length:Nat):Int)<(((a1).length:Nat):Int))) then (some (-1:Int)) else (some 1)) else ((z108.l0 a0 a1 (wr .i64 ((((a0).length:Nat):Int)-1))).bind λo1=>match o1 with | .inl p2=>(some 0) | .inr q3=>(some q3)))
def z108.enc (r:Int):V:=(.int .i64 r)
def z108.pack:List V->Option Pack
 |[(.ints _ .i64 a0),(.ints _ .i64 a1)]=>some ⟨Int,z108.F a0 a1,z108.enc⟩
 |_=>none
def z109.l0P (a b:List Int) {R:Type} (rec done:(Int×Int×(List Int))->Option R):(Int×Int×(List Int))->Option R:=λx=>match x with
 |(c,d,e)=>(bif (decide (d<(((a).length:Nat):Int))) then ((z13.F b d).bind λg=>(if 0<=d/\d<(a.length:Int) then (bif (decide ((wr .i64 ((wr .i64 ((a.getD (d).toNat 0)-g))-c))<0)) then (if ((e).length+([(wr .i64 ((wr .i64 ((wr .i64 ((a.getD (d).toNat 0)-g))-c))+10000))]).length)*8<=140737488355328 then (rec ((1:Int),(wr .i64 (d+1)),(e++[(wr .i64 ((wr .i64 ((wr .i64 ((a.getD (d).toNat 0)-g))-c))+10000))]))) else none) else (if ((e).length+([(wr .i64 ((wr .i64 ((a.getD (d).toNat 0)-g))-c))]).length)*8<=140737488355328 then (rec ((0:Int),(wr .i64 (d+1)),(e++[(wr .i64 ((wr .i64 ((a.getD (d).toNat 0)-g))-c))]))) else none)) else none)) else (done (c,d,e)))
def z109.l0 (a b:List Int) (x:(Int×Int×(List Int))):Option ((Int×Int×(List Int))):=lfp (λrec x=>z109.l0P a b rec some x) x
def z109.F (a0 a1:List Int):Option ((List Int)):=
 ((z109.l0 a0 a1 ((0:Int),(0:Int),[])).bind λo1=>((z14.F o1.2.2).bind λr2=>(some r2)))
def z109.enc (r:(List Int)):V:=(.ints false .i64 r)
def z109.pack:List V->Option Pack
 |[(.ints _ .i64 a0),(.ints _ .i64 a1)]=>some ⟨(List Int),z109.F a0 a1,z109.enc⟩
 |_=>none
def z110.F (a0:List Int) (a1:Bool) (a2:List Int) (a3:Bool):Option ((List Int)×Bool):=
 (bif (decide (a1=a3)) then ((z107.F a0 a2).bind λr1=>((z7.F r1 a1).bind λr2=>(some (r2.1,r2.2)))) else ((z108.F a0 a2).bind λr3=>(bif (decide (r3>=0)) then ((z109.F a0 a2).bind λr4=>((z7.F r4 a1).bind λr5=>(some (r5.1,r5.2)))) else ((z109.F a2 a0).bind λr6=>((z7.F r6 a3).bind λr7=>(some (r7.1,r7.2)))))))
def z110.enc (r:(List Int)×Bool):V:=(.agg [(.ints false .i64 r.1),(.bool r.2)])
def z110.pack:List V->Option Pack
 |[(.agg [(.ints _ .i64 a0),(.bool a1)]),(.agg [(.ints _ .i64 a2),(.bool a3)])]=>some ⟨(List Int)×Bool,z110.F a0 a1 a2 a3,z110.enc⟩
 |_=>none
def z111.F (a0:List Int) (a1:Bool) (a2:List Int) (a3:Bool):Option ((List Int)×Bool):=
 ((z106.F a2 a3).bind λr1=>((z110.F a0 a1 r1.1 r1.2).bind λr2=>(some (r2.1,r2.2))))
def z111.enc (r:(List Int)×Bool):V:=(.agg [(.ints false .i64 r.1),(.bool r.2)])
def z111.pack:List V->Option Pack
 |[(.agg [(.ints _ .i64 a0),(.bool a1)]),(.agg [(.ints _ .i64 a2),(.bool a3)])]=>some ⟨(List Int)×Bool,z111.F a0 a1 a2 a3,z111.enc⟩
 |_=>none
def z112.F (a0:List Int) (a1:Bool):Option (Int):=
 (bif (decide ((((a0).length:Nat):Int)=0)) then (some 0) else (bif a1 then (some (-1:Int)) else (some 1)))
def z112.enc (r:Int):V:=(.int .i64 r)
def z112.pack:List V->Option Pack
 |[(.agg [(.ints _ .i64 a0),(.bool a1)])]=>some ⟨Int,z112.F a0 a1,z112.enc⟩
 |_=>none
def z113.F (a0:List Int) (a1:Bool) (a2:List Int) (a3:Bool):Option (Int):=
 ((z111.F a0 a1 a2 a3).bind λr1=>((z112.F r1.1 r1.2).bind λr2=>(some r2)))
def z113.enc (r:Int):V:=(.int .i64 r)
def z113.pack:List V->Option Pack
 |[(.agg [(.ints _ .i64 a0),(.bool a1)]),(.agg [(.ints _ .i64 a2),(.bool a3)])]=>some ⟨Int,z113.F a0 a1 a2 a3,z113.enc⟩
 |_=>none
def z114.F (a0:List UInt8):Option ((List Int)×Bool×Int):=
 ((z9.F 0).bind λr1=>((z104.F a0).bind λr2=>(bif (!decide (r2.2.2=0)) then (some (r1.1,r1.2,r2.2.2)) else ((z105.F 30).bind λr3=>((z7.F r3 false).bind λr4=>((z113.F r2.1 r2.2.1 r4.1 r4.2).bind λr5=>(bif r2.2.1 then (some (r1.1,r1.2,(19:Int))) else (bif (decide (r5>0)) then (some (r1.1,r1.2,(19:Int))) else (some (r2.1,r2.2.1,(0:Int)))))))))))
def z114.enc (r:(List Int)×Bool×Int):V:=(.tup [(.agg [(.ints false .i64 r.1),(.bool r.2.1)]),(.int .i64 r.2.2)])
def z114.pack:List V->Option Pack
 |[(.str a0)]=>some ⟨(List Int)×Bool×Int,z114.F a0,z114.enc⟩
 |_=>none
def z115.l2P (a b:List Int) {R:Type} (rec done:(Int×Int)->Option R):(Int×Int)->Option R:=λx=>match x with
 |(c,d)=>(bif (decide (c<d)) then ((z8.F (wr .i64 (Int.tdiv (wr .i64 ((wr .i64 (c+d))+1)) 2))).bind λe=>((z15.F a e).bind λg=>((z108.F g b).bind λh=>(bif (decide (h<=0)) then (rec ((wr .i64 (Int.tdiv (wr .i64 ((wr .i64 (c+d))+1)) 2)),d)) else (rec (c,(wr .i64 ((wr .i64 (Int.tdiv (wr .i64 ((wr .i64 (c+d))+1)) 2))-1)))))))) else (done (c,d)))
def z115.l2 (a b:List Int) (x:(Int×Int)):Option ((Int×Int)):=lfp (λrec x=>z115.l2P a b rec some x) x
def z115.l0aP (a b:List Int) {R:Type} (rec done:((List Int)×Int×(List Int))->Option R):((List Int)×Int×(List Int))->Option R:=λx=>match x with
 |(c,d,e)=>(bif (decide (d>=0)) then (if 0<=d/\d<(a.length:Int) then (if (([(a.getD (d).toNat 0)]).length+(c).length)*8<=140737488355328 then ((z14.F ([(a.getD (d).toNat 0)]++c)).bind λg=>((z115.l2 b g ((0:Int),(9999:Int))).bind λh=>(if 0<=d/\d<(e.length:Int) then (if (d).toNat<e.length then ((z8.F h.1).bind λj=>((z15.F b j).bind λk=>((z109.F g k).bind λm=>(rec (m,(wr .i64 (d-1)),(e.set (d).toNat h.1)))))) else none) else none))) else none) else none) else (done (c,d,e)))
def z115.l0a (a b:List Int) (x:((List Int)×Int×(List Int))):Option (((List Int)×Int×(List Int))):=lfp (λrec x=>z115.l0aP a b rec some x) x
def z115.F (a0 a1:List Int):Option ((List Int)×(List Int)):=
 (if 0<=(((a0).length:Nat):Int)/\(((a0).length:Nat):Int)*8<=140737488355328 then ((z115.l0a a0 a1 ([],(wr .i64 ((((a0).length:Nat):Int)-1)),(List.replicate ((((a0).length:Nat):Int)).toNat (0:Int)))).bind λo1=>((z14.F o1.2.2).bind λr2=>(some (r2,o1.1)))) else none)
def z115.enc (r:(List Int)×(List Int)):V:=(.tup [(.ints false .i64 r.1),(.ints false .i64 r.2)])
def z115.pack:List V->Option Pack
 |[(.ints _ .i64 a0),(.ints _ .i64 a1)]=>some ⟨(List Int)×(List Int),z115.F a0 a1,z115.enc⟩
 |_=>none
def z116.l0P {R:Type} (rec done:((List Int)×(List Int))->Option R):((List Int)×(List Int))->Option R:=λx=>match x with
 |(a,b)=>(bif (decide ((((b).length:Nat):Int)>0)) then ((z115.F a b).bind λc=>(rec (b,c.2))) else (done (a,b)))
def z116.l0 (x:((List Int)×(List Int))):Option (((List Int)×(List Int))):=lfp (λrec x=>z116.l0P rec some x) x
def z116.F (a0 a1:List Int):Option ((List Int)):=
 ((z116.l0 (a0,a1)).bind λo1=>(some o1.1))
def z116.enc (r:(List Int)):V:=(.ints false .i64 r)
def z116.pack:List V->Option Pack
 |[(.ints _ .i64 a0),(.ints _ .i64 a1)]=>some ⟨(List Int),z116.F a0 a1,z116.enc⟩
 |_=>none
def z117.F (a0:List Int) (a1:Bool) (a2:List Int):Option ((List Int)×Bool×(List Int)):=
 ((z116.F a0 a2).bind λr1=>((z115.F a0 r1).bind λr2=>((z115.F a2 r1).bind λr3=>((z7.F r2.1 a1).bind λr4=>(some (r4.1,r4.2,r3.1))))))
def z117.enc (r:(List Int)×Bool×(List Int)):V:=(.agg [(.ints false .i64 r.1),(.bool r.2.1),(.ints false .i64 r.2.2)])
def z117.pack:List V->Option Pack
 |[(.agg [(.ints _ .i64 a0),(.bool a1)]),(.ints _ .i64 a2)]=>some ⟨(List Int)×Bool×(List Int),z117.F a0 a1 a2,z117.enc⟩
 |_=>none
def z118.F (a0:List Int) (a1:Bool) (a2:List Int) (a3:Bool):Option ((List Int)×Bool×(List Int)):=
 (bif a3 then ((z106.F a0 a1).bind λr1=>((z117.F r1.1 r1.2 a2).bind λr5=>(some (r5.1,r5.2.1,r5.2.2)))) else ((z117.F a0 a1 a2).bind λr6=>(some (r6.1,r6.2.1,r6.2.2))))
def z118.enc (r:(List Int)×Bool×(List Int)):V:=(.agg [(.ints false .i64 r.1),(.bool r.2.1),(.ints false .i64 r.2.2)])
def z118.pack:List V->Option Pack
 |[(.agg [(.ints _ .i64 a0),(.bool a1)]),(.agg [(.ints _ .i64 a2),(.bool a3)])]=>some ⟨(List Int)×Bool×(List Int),z118.F a0 a1 a2 a3,z118.enc⟩
 |_=>none
def z119.F (a0 a1:Int):Option ((List Int)×Bool×(List Int)):=
 ((z9.F a0).bind λr1=>((z9.F a1).bind λr2=>((z118.F r1.1 r1.2 r2.1 r2.2).bind λr3=>(some (r3.1,r3.2.1,r3.2.2)))))
def z119.enc (r:(List Int)×Bool×(List Int)):V:=(.agg [(.ints false .i64 r.1),(.bool r.2.1),(.ints false .i64 r.2.2)])
def z119.pack:List V->Option Pack
 |[(.int .i64 a0),(.int .i64 a1)]=>some ⟨(List Int)×Bool×(List Int),z119.F a0 a1,z119.enc⟩
 |_=>none
def z120.j11016a {R:Type} (rec:(Int×(List UInt8)×Int×Int×Bool)->Option R) (done:((Int×(List UInt8)×Int×Int×Bool)⊕(Int))->Option R) (a:Bool) (b:Int) (c d:List UInt8) (e g:Int):Option R:=
 (bif a then (if 0<=b/\b<(c.length:Int) then (if 0<=b/\b<=(wr .i64 (b+1))/\(wr .i64 (b+1))<=((c).length:Int) then (if d.length+((c.drop (b).toNat).take (((wr .i64 (b+1))).toNat-(b).toNat)).length<=9223372036854775807 then (rec ((wr .i64 (b+1)),(d++((c.drop (b).toNat).take (((wr .i64 (b+1))).toNat-(b).toNat))),e,g,(decide (((c.getD (b).toNat 0).toNat:Int)=48)))) else none) else none) else none) else (if 0<=b/\b<=(wr .i64 (b+1))/\(wr .i64 (b+1))<=((c).length:Int) then (if d.length+((c.drop (b).toNat).take (((wr .i64 (b+1))).toNat-(b).toNat)).length<=9223372036854775807 then (rec ((wr .i64 (b+1)),(d++((c.drop (b).toNat).take (((wr .i64 (b+1))).toNat-(b).toNat))),e,g,false)) else none) else none))
def z120.j11018a {R:Type} (rec:(Int×(List UInt8)×Int×Int×Bool)->Option R) (done:((Int×(List UInt8)×Int×Int×Bool)⊕(Int))->Option R) (a:Bool) (b:Int) (c d:List UInt8) (e g:Int):Option R:=
 (bif a then (if 0<=b/\b<(c.length:Int) then (if 0<=b/\b<=(wr .i64 (b+1))/\(wr .i64 (b+1))<=((c).length:Int) then (if d.length+((c.drop (b).toNat).take (((wr .i64 (b+1))).toNat-(b).toNat)).length<=9223372036854775807 then (rec ((wr .i64 (b+1)),(d++((c.drop (b).toNat).take (((wr .i64 (b+1))).toNat-(b).toNat))),e,g,(decide (((c.getD (b).toNat 0).toNat:Int)=48)))) else none) else none) else none) else (if 0<=b/\b<=(wr .i64 (b+1))/\(wr .i64 (b+1))<=((c).length:Int) then (if d.length+((c.drop (b).toNat).take (((wr .i64 (b+1))).toNat-(b).toNat)).length<=9223372036854775807 then (rec ((wr .i64 (b+1)),(d++((c.drop (b).toNat).take (((wr .i64 (b+1))).toNat-(b).toNat))),e,g,false)) else none) else none))
def z120.l0b10P (a:List UInt8) {R:Type} (rec:(Int×(List UInt8)×Int×Int×Bool)->Option R) (done:((Int×(List UInt8)×Int×Int×Bool)⊕(Int))->Option R):(Int×(List UInt8)×Int×Int×Bool)->Option R:=λx=>match x with
 |(b,c,d,e,g)=>(bif (decide (b<(a.length:Int))) then (if 0<=b/\b<(a.length:Int) then (bif (decide (((a.getD (b).toNat 0).toNat:Int)=46)) then (bif (decide (e<0)) then (rec ((wr .i64 (b+1)),c,d,(0:Int),g)) else (if 0<=b/\b<(a.length:Int) then (bif (decide (((a.getD (b).toNat 0).toNat:Int)<48)) then (done (.inr 5)) else (if 0<=b/\b<(a.length:Int) then (bif (decide (((a.getD (b).toNat 0).toNat:Int)>57)) then (done (.inr 5)) else (bif (decide (e<0)) then (z120.j11016a rec done g b a c (wr .i64 (d+1)) e) else (z120.j11016a rec done g b a c d (wr .i64 (e+1))))) else none)) else none)) else (if 0<=b/\b<(a.length:Int) then (bif (decide (((a.getD (b).toNat 0).toNat:Int)<48)) then (done (.inr 5)) else (if 0<=b/\b<(a.length:Int) then (bif (decide (((a.getD (b).toNat 0).toNat:Int)>57)) then (done (.inr 5)) else (bif (decide (e<0)) then (z120.j11018a rec done g b a c (wr .i64 (d+1)) e) else (z120.j11018a rec done g b a c d (wr .i64 (e+1))))) else none)) else none)) else none) else (done (.inl (b,c,d,e,g))))
def z120.l0b10 (a:List UInt8) (x:(Int×(List UInt8)×Int×Int×Bool)):Option (((Int×(List UInt8)×Int×Int×Bool)⊕(Int))):=lfp (λrec x=>z120.l0b10P a rec some x) x
def z120.j7 (p5:Int×(List UInt8)×Int×Int×Bool) (j2:Bool):Option ((List Int)×Bool×Int×Int):=
 (bif (decide (p5.2.2.2.1>64)) then (some ([],false,(0:Int),(10:Int))) else ((z101.F p5.2.1).bind λr8=>((z7.F r8 j2).bind λr9=>(some (r9.1,r9.2,(if 0>p5.2.2.2.1 then 0 else p5.2.2.2.1),(0:Int))))))
def z120.j3 (a0:List UInt8) (j3:Int) (j2:Bool):Option ((List Int)×Bool×Int×Int):=
 ((z120.l0b10 a0 (j3,([]:List UInt8),(0:Int),(-1:Int),true)).bind λo4=>match o4 with | .inl p5=>(bif (decide (p5.2.2.1=0)) then (some ([],false,(0:Int),(5:Int))) else (bif (decide (p5.2.2.2.1=0)) then (some ([],false,(0:Int),(5:Int))) else (bif (decide (p5.2.2.1>1)) then (if (0:Int)<=(0:Int)/\(0:Int)<(p5.2.1.length:Int) then (bif (decide (((p5.2.1.getD 0 0).toNat:Int)=48)) then (some ([],false,(0:Int),(5:Int))) else (bif j2 then (bif p5.2.2.2.2 then (some ([],false,(0:Int),(5:Int))) else (z120.j7 p5 j2)) else (z120.j7 p5 j2))) else none) else (bif j2 then (bif p5.2.2.2.2 then (some ([],false,(0:Int),(5:Int))) else (z120.j7 p5 j2)) else (z120.j7 p5 j2))))) | .inr q6=>(some ([],false,(0:Int),q6)))
def z120.F (a0:List UInt8):Option ((List Int)×Bool×Int×Int):=
 (bif (decide ((a0.length:Int)>0)) then (if (0:Int)<=(0:Int)/\(0:Int)<(a0.length:Int) then (bif (decide (((a0.getD 0 0).toNat:Int)=45)) then (z120.j3 a0 1 true) else (z120.j3 a0 0 false)) else none) else (z120.j3 a0 0 false))
def z120.enc (r:(List Int)×Bool×Int×Int):V:=(.tup [(.agg [(.ints false .i64 r.1),(.bool r.2.1),(.int .i64 r.2.2.1)]),(.int .i64 r.2.2.2)])
def z120.pack:List V->Option Pack
 |[(.str a0)]=>some ⟨(List Int)×Bool×Int×Int,z120.F a0,z120.enc⟩
 |_=>none
def z121.F (a0:List Int) (a1:Bool) (a2:Int):Option ((List Int)×Bool×(List Int)):=
 ((z105.F a2).bind λr1=>((z117.F a0 a1 r1).bind λr2=>(some (r2.1,r2.2.1,r2.2.2))))
def z121.enc (r:(List Int)×Bool×(List Int)):V:=(.agg [(.ints false .i64 r.1),(.bool r.2.1),(.ints false .i64 r.2.2)])
def z121.pack:List V->Option Pack
 |[(.agg [(.ints _ .i64 a0),(.bool a1),(.int .i64 a2)])]=>some ⟨(List Int)×Bool×(List Int),z121.F a0 a1 a2,z121.enc⟩
 |_=>none
def z122.F (a0:List Int) (a1:Bool) (a2 a3:List Int) (a4:Bool) (a5:List Int):Option ((List Int)×Bool):=
 ((z7.F a5 false).bind λr1=>((z16.F a0 a1 r1.1 r1.2).bind λr2=>(some (r2.1,r2.2))))
def z122.enc (r:(List Int)×Bool):V:=(.agg [(.ints false .i64 r.1),(.bool r.2)])
def z122.pack:List V->Option Pack
 |[(.agg [(.ints _ .i64 a0),(.bool a1),(.ints _ .i64 a2)]),(.agg [(.ints _ .i64 a3),(.bool a4),(.ints _ .i64 a5)])]=>some ⟨(List Int)×Bool,z122.F a0 a1 a2 a3 a4 a5,z122.enc⟩
 |_=>none
def z123.F (a0:List Int) (a1:Bool) (a2 a3:List Int) (a4:Bool) (a5:List Int):Option (Int):=
 ((z122.F a0 a1 a2 a3 a4 a5).bind λr1=>((z122.F a3 a4 a5 a0 a1 a2).bind λr2=>((z113.F r1.1 r1.2 r2.1 r2.2).bind λr3=>(some r3))))
def z123.enc (r:Int):V:=(.int .i64 r)
def z123.pack:List V->Option Pack
 |[(.agg [(.ints _ .i64 a0),(.bool a1),(.ints _ .i64 a2)]),(.agg [(.ints _ .i64 a3),(.bool a4),(.ints _ .i64 a5)])]=>some ⟨Int,z123.F a0 a1 a2 a3 a4 a5,z123.enc⟩
 |_=>none
def z124.F (a0:List Int) (a1:Bool) (a2 a3:List Int) (a4:Bool) (a5:List Int):Option ((List Int)×Bool×(List Int)):=
 ((z122.F a0 a1 a2 a3 a4 a5).bind λr1=>((z7.F a2 false).bind λr2=>((z16.F a3 a4 r2.1 r2.2).bind λr3=>((z118.F r1.1 r1.2 r3.1 r3.2).bind λr4=>(some (r4.1,r4.2.1,r4.2.2))))))
def z124.enc (r:(List Int)×Bool×(List Int)):V:=(.agg [(.ints false .i64 r.1),(.bool r.2.1),(.ints false .i64 r.2.2)])
def z124.pack:List V->Option Pack
 |[(.agg [(.ints _ .i64 a0),(.bool a1),(.ints _ .i64 a2)]),(.agg [(.ints _ .i64 a3),(.bool a4),(.ints _ .i64 a5)])]=>some ⟨(List Int)×Bool×(List Int),z124.F a0 a1 a2 a3 a4 a5,z124.enc⟩
 |_=>none
def z125.j6 (r3:(List Int)×Bool×(List Int)):Option ((List Int)×Bool×(List Int)×Int):=
 ((z119.F 100 1).bind λr7=>((z124.F r3.1 r3.2.1 r3.2.2 r7.1 r7.2.1 r7.2.2).bind λr8=>(some (r8.1,r8.2.1,r8.2.2,(0:Int)))))
def z125.F (a0:List UInt8):Option ((List Int)×Bool×(List Int)×Int):=
 ((z119.F 0 1).bind λr1=>(bif (decide ((a0.length:Int)>4096)) then (some (r1.1,r1.2.1,r1.2.2,(7:Int))) else ((z120.F a0).bind λr2=>(bif (!decide (r2.2.2.2=0)) then (some (r1.1,r1.2.1,r1.2.2,r2.2.2.2)) else ((z121.F r2.1 r2.2.1 r2.2.2.1).bind λr3=>((z119.F 1000 1).bind λr4=>((z123.F r3.1 r3.2.1 r3.2.2 r4.1 r4.2.1 r4.2.2).bind λr5=>(bif r2.2.1 then (some (r1.1,r1.2.1,r1.2.2,(18:Int))) else (bif (decide (r5>0)) then (some (r1.1,r1.2.1,r1.2.2,(18:Int))) else (bif (decide (r2.2.2.1>12)) then (some (r1.1,r1.2.1,r1.2.2,(18:Int))) else (z125.j6 r3)))))))))))
def z125.enc (r:(List Int)×Bool×(List Int)×Int):V:=(.tup [(.agg [(.ints false .i64 r.1),(.bool r.2.1),(.ints false .i64 r.2.2.1)]),(.int .i64 r.2.2.2)])
def z125.pack:List V->Option Pack
 |[(.str a0)]=>some ⟨(List Int)×Bool×(List Int)×Int,z125.F a0,z125.enc⟩
 |_=>none
def z126.F (a0 a1 a2:Int):Option (Bool):=
 ((z11.F a0 a1).bind λr1=>(bif (decide (a2>=1)) then (some (decide (a2<=r1))) else (some false)))
def z126.enc (r:Bool):V:=(.bool r)
def z126.pack:List V->Option Pack
 |[(.agg [(.int .i64 a0),(.int .i64 a1),(.int .i64 a2)])]=>some ⟨Bool,z126.F a0 a1 a2,z126.enc⟩
 |_=>none
def z132.l0P (a b:List Int) {R:Type} (rec:Int->Option R) (done:((Int)⊕(Int))->Option R):Int->Option R:=λc=>(bif (decide (c<3)) then (if 0<=c/\c<(a.length:Int) then (if 0<=c/\c<(b.length:Int) then (bif (decide ((a.getD (c).toNat 0)<(b.getD (c).toNat 0))) then (done (.inr (-1:Int))) else (if 0<=c/\c<(a.length:Int) then (if 0<=c/\c<(b.length:Int) then (bif (decide ((a.getD (c).toNat 0)>(b.getD (c).toNat 0))) then (done (.inr 1)) else (rec (wr .i64 (c+1)))) else none) else none)) else none) else none) else (done (.inl c)))
def z132.l0 (a b:List Int) (x:Int):Option (((Int)⊕(Int))):=lfp (λrec x=>z132.l0P a b rec some x) x
def z132.F (a0 a1 a2 a3 a4 a5:Int):Option (Int):=
 ((z132.l0 [a0,a1,a2] [a3,a4,a5] 0).bind λo1=>match o1 with | .inl p2=>(some 0) | .inr q3=>(some q3))
def z132.enc (r:Int):V:=(.int .i64 r)
def z132.pack:List V->Option Pack
 |[(.agg [(.int .i64 a0),(.int .i64 a1),(.int .i64 a2)]),(.agg [(.int .i64 a3),(.int .i64 a4),(.int .i64 a5)])]=>some ⟨Int,z132.F a0 a1 a2 a3 a4 a5,z132.enc⟩
 |_=>none
def z136.F (a0:List Int) (a1:Bool) (a2:List Int):Option ((List UInt8)):=
 ((z19.F a2).bind λr1=>(bif r1 then ((z135.F a0 a1).bind λr2=>(some r2)) else ((z135.F a0 a1).bind λr3=>(if r3.length+([47]:List UInt8).length<=9223372036854775807 then ((z73.F a0 a1 a2).bind λr4=>((z134.F r4).bind λr5=>(if (r3++([47]:List UInt8)).length+r5.length<=9223372036854775807 then (some ((r3++([47]:List UInt8))++r5)) else none))) else none))))
def z136.enc (r:(List UInt8)):V:=(.str r)
def z136.pack:List V->Option Pack
 |[(.agg [(.ints _ .u64 a0),(.bool a1),(.ints _ .u64 a2)])]=>some ⟨(List UInt8),z136.F a0 a1 a2,z136.enc⟩
 |_=>none
def z140.j2 (a2:List Int) (r1:(List UInt8)):Option ((List UInt8)):=
 ((z5.F a2).bind λr3=>(if r1.length+([47]:List UInt8).length<=9223372036854775807 then (if (r1++([47]:List UInt8)).length+r3.length<=9223372036854775807 then (some ((r1++([47]:List UInt8))++r3)) else none) else none))
def z140.F (a0:List Int) (a1:Bool) (a2:List Int):Option ((List UInt8)):=
 ((z6.F a0 a1).bind λr1=>(bif (decide ((((a2).length:Nat):Int)=1)) then (if (0:Int)<=(0:Int)/\(0:Int)<(a2.length:Int) then (bif (decide ((a2.getD 0 0)=1)) then (some r1) else (z140.j2 a2 r1)) else none) else (z140.j2 a2 r1)))
def z140.enc (r:(List UInt8)):V:=(.str r)
def z140.pack:List V->Option Pack
 |[(.agg [(.ints _ .i64 a0),(.bool a1),(.ints _ .i64 a2)])]=>some ⟨(List UInt8),z140.F a0 a1 a2,z140.enc⟩
 |_=>none
def z143.F (a0 a1 a2:Int):Option (Int×Int×Int×Bool):=
 ((z11.F a0 a1).bind λr1=>(bif (decide (a2<r1)) then (some (a0,a1,(wr .i64 (a2+1)),true)) else (bif (decide (a1<12)) then (some (a0,(wr .i64 (a1+1)),(1:Int),true)) else (some ((wr .i64 (a0+1)),(1:Int),(1:Int),(decide (a0<9999)))))))
def z143.enc (r:Int×Int×Int×Bool):V:=(.tup [(.agg [(.int .i64 r.1),(.int .i64 r.2.1),(.int .i64 r.2.2.1)]),(.bool r.2.2.2)])
def z143.pack:List V->Option Pack
 |[(.agg [(.int .i64 a0),(.int .i64 a1),(.int .i64 a2)])]=>some ⟨Int×Int×Int×Bool,z143.F a0 a1 a2,z143.enc⟩
 |_=>none
def z144.l2P (a:Int) (b:List Int) {R:Type} (rec done:(Int×Int×Int×Int)->Option R):(Int×Int×Int×Int)->Option R:=λx=>match x with
 |(c,d,e,g)=>(if 0<=a/\a<(b.length:Int) then (bif (decide (c<(Int.tmod (wr .i64 (b.getD (a).toNat 0)) 61))) then ((z143.F d e g).bind λh=>(rec ((wr .i64 (c+1)),h.1,h.2.1,h.2.2.1))) else (done (c,d,e,g))) else none)
def z144.l2 (a:Int) (b:List Int) (x:(Int×Int×Int×Int)):Option ((Int×Int×Int×Int)):=lfp (λrec x=>z144.l2P a b rec some x) x
def z144.j4015a {R:Type} (rec done:(Int×(List (List V))×Int×Int×Int)->Option R) (a b:Int) (c:List (List V)) (d e g:Int) (h:Int×Int×Int×Int) (j:Int):Option R:=
 ((z9.F a).bind λk=>((z9.F b).bind λm=>((z6.F k.1 k.2).bind λn=>((z6.F m.1 m.2).bind λo=>(if ((c).length+(([[(.int .i64 d),(.int .i64 e),(.int .i64 g),(.int .i64 h.2.1),(.int .i64 h.2.2.1),(.int .i64 h.2.2.2),(.str n),(.str o)]]:List (List V))).length)*80<=140737488355328 then (rec ((wr .i64 (j+1)),(c++([[(.int .i64 d),(.int .i64 e),(.int .i64 g),(.int .i64 h.2.1),(.int .i64 h.2.2.1),(.int .i64 h.2.2.2),(.str n),(.str o)]]:List (List V))),h.2.1,h.2.2.1,h.2.2.2)) else none)))))
def z144.j4014a {R:Type} (rec done:(Int×(List (List V))×Int×Int×Int)->Option R) (a:Int) (b:List Int) (c:Int) (d:List (List V)) (e g h:Int) (j:Int×Int×Int×Int):Option R:=
 (bif (decide (a<(((b).length:Nat):Int))) then (if 0<=a/\a<(b.length:Int) then (z144.j4015a rec done c (Int.tmod (wr .i64 (b.getD (a).toNat 0)) 1000) d e g h j a) else none) else (z144.j4015a rec done c a d e g h j a))
def z144.l0aaP (a b c:List Int) {R:Type} (rec done:(Int×(List (List V))×Int×Int×Int)->Option R):(Int×(List (List V))×Int×Int×Int)->Option R:=λx=>match x with
 |(d,e,g,h,j)=>(bif (decide (d<(((a).length:Nat):Int))) then (bif (decide (d<6)) then ((z144.l2 d a ((0:Int),g,h,j)).bind λk=>(bif (decide (d<(((b).length:Nat):Int))) then (if 0<=d/\d<(b.length:Int) then (z144.j4014a rec done d c (wr .i64 (b.getD (d).toNat 0)) e g h j k) else none) else (z144.j4014a rec done d c (wr .i64 ((1000:Int)*d)) e g h j k))) else (done (d,e,g,h,j))) else (done (d,e,g,h,j)))
def z144.l0aa (a b c:List Int) (x:(Int×(List (List V))×Int×Int×Int)):Option ((Int×(List (List V))×Int×Int×Int)):=lfp (λrec x=>z144.l0aaP a b c rec some x) x
def z144.F (a0 a1 a2:Int) (a3 a4 a5:List Int):Option ((List (List V))):=
 ((z12.F a0 a1 a2 9990).bind λr1=>((z144.l0aa a3 a4 a5 ((0:Int),[],r1.1,r1.2.1,r1.2.2)).bind λo2=>(some o2.2.1)))
def z144.enc (r:(List (List V))):V:=(.recs false 8 r)
def z144.pack:List V->Option Pack
 |[(.agg [(.int .i64 a0),(.int .i64 a1),(.int .i64 a2),(.ints _ .u8 a3),(.ints _ .u32 a4),(.ints _ .u16 a5)])]=>some ⟨(List (List V)),z144.F a0 a1 a2 a3 a4 a5,z144.enc⟩
 |_=>none
def z145.enc (r:Int):V:=(.int .i64 r)
def z145.pack:List V->Option Pack
 |[(.recs _ 8 a0)]=>some ⟨Int,z145.F a0,z145.enc⟩
 |_=>none
def z146.enc (r:Bool):V:=(.bool r)
def z146.pack:List V->Option Pack
 |[(.int .i64 a0)]=>some ⟨Bool,z146.F a0,z146.enc⟩
 |_=>none
def z147.F (a0:List Int) (a1:Bool) (a2:List Int):Option (Int):=
 ((z20.F a0 a1).bind λr1=>(some r1))
def z147.enc (r:Int):V:=(.int .i64 r)
def z147.pack:List V->Option Pack
 |[(.agg [(.ints _ .u64 a0),(.bool a1),(.ints _ .u64 a2)])]=>some ⟨Int,z147.F a0 a1 a2,z147.enc⟩
 |_=>none
def z148.F (a0:List Int) (a1:Bool) (a2:List Int):Option ((List Int)×Bool):=
 (some (a0,a1))
def z148.enc (r:(List Int)×Bool):V:=(.agg [(.ints false .u64 r.1),(.bool r.2)])
def z148.pack:List V->Option Pack
 |[(.agg [(.ints _ .u64 a0),(.bool a1),(.ints _ .u64 a2)])]=>some ⟨(List Int)×Bool,z148.F a0 a1 a2,z148.enc⟩
 |_=>none
def z149.F (a0:Int) (a1 a2 a3:List Int):Option (Bool):=
 ((z24.F a2 a2).bind λr1=>((z29.F r1 a3).bind λr2=>(bif (decide (a0=1)) then (some true) else (bif (decide (a0=2)) then (some (decide (r2>=0))) else (bif (decide (a0=3)) then (some (decide (r2>0))) else (bif (decide (a0=4)) then ((z60.F a1).bind λr3=>(bif (decide ((((r3).length:Nat):Int)>0)) then ((z60.F a1).bind λr4=>(if (0:Int)<=(0:Int)/\(0:Int)<(r4.length:Int) then (bif (decide (r2>0)) then (some true) else (bif (decide (r2=0)) then (some (decide ((wr .u64 ((BitVec.ofInt (IntKind.bits .u64) (r4.getD 0 0) &&& BitVec.ofInt (IntKind.bits .u64) 1).toNat:Int))=1))) else (some false))) else none)) else (bif (decide (r2>0)) then (some true) else (bif (decide (r2=0)) then (some false) else (some false))))) else (some false)))))))
def z149.enc (r:Bool):V:=(.bool r)
def z149.pack:List V->Option Pack
 |[(.int .i64 a0),(.agg [(.ints _ .u64 a1)]),(.agg [(.ints _ .u64 a2)]),(.agg [(.ints _ .u64 a3)])]=>some ⟨Bool,z149.F a0 a1 a2 a3,z149.enc⟩
 |_=>none
def z150.j14 (a0:List Int) (a1:Bool) (a2 j14:List Int):Option ((List Int)×Bool×Int):=
 ((z147.F a0 a1 a2).bind λr15=>((z21.F j14 (decide (r15<0))).bind λr16=>(some (r16.1,r16.2,(0:Int)))))
def z150.F (a0:List Int) (a1:Bool) (a2:List Int) (a3:Int):Option ((List Int)×Bool×Int):=
 ((z79.F a3).bind λr1=>(bif (!r1) then (some ([],false,(2:Int))) else ((z148.F a0 a1 a2).bind λr2=>((z59.F r2.1 r2.2).bind λr3=>((z73.F a0 a1 a2).bind λr4=>((z68.F r3 r4).bind λr5=>((z19.F r5.2.1).bind λr6=>(bif (!r6) then ((z73.F a0 a1 a2).bind λr7=>((z149.F a3 r5.1 r5.2.1 r7).bind λr8=>(bif r8 then ((z38.F [(1:Int)]).bind λr12=>((z24.F r5.1 r12).bind λr13=>(z150.j14 a0 a1 a2 r13))) else (z150.j14 a0 a1 a2 r5.1)))) else (z150.j14 a0 a1 a2 r5.1)))))))))
def z150.enc (r:(List Int)×Bool×Int):V:=(.tup [(.agg [(.ints false .u64 r.1),(.bool r.2.1)]),(.int .i64 r.2.2)])
def z150.pack:List V->Option Pack
 |[(.agg [(.ints _ .u64 a0),(.bool a1),(.ints _ .u64 a2)]),(.int .i64 a3)]=>some ⟨(List Int)×Bool×Int,z150.F a0 a1 a2 a3,z150.enc⟩
 |_=>none
def z151.enc (r:(List Int)×Bool×(List Int)):V:=(.agg [(.ints false .u64 r.1),(.bool r.2.1),(.ints false .u64 r.2.2)])
def z151.pack:List V->Option Pack
 |[(.agg [(.ints _ .u64 a0),(.bool a1),(.ints _ .u64 a2)]),(.agg [(.ints _ .u64 a3),(.bool a4),(.ints _ .u64 a5)])]=>some ⟨(List Int)×Bool×(List Int),z151.F a0 a1 a2 a3 a4 a5,z151.enc⟩
 |_=>none
def z152.enc (r:(List Int)×Bool×(List Int)):V:=(.agg [(.ints false .u64 r.1),(.bool r.2.1),(.ints false .u64 r.2.2)])
def z152.pack:List V->Option Pack
 |[(.agg [(.ints _ .u64 a0),(.bool a1),(.ints _ .u64 a2)]),(.agg [(.ints _ .u64 a3),(.bool a4),(.ints _ .u64 a5)])]=>some ⟨(List Int)×Bool×(List Int),z152.F a0 a1 a2 a3 a4 a5,z152.enc⟩
 |_=>none
def z153.enc (r:(List Int)×Bool×(List Int)):V:=(.agg [(.ints false .u64 r.1),(.bool r.2.1),(.ints false .u64 r.2.2)])
def z153.pack:List V->Option Pack
 |[(.int .i64 a0),(.int .i64 a1)]=>some ⟨(List Int)×Bool×(List Int),z153.F a0 a1,z153.enc⟩
 |_=>none
def z154.enc (r:(List Int)×Bool×(List Int)):V:=(.agg [(.ints false .u64 r.1),(.bool r.2.1),(.ints false .u64 r.2.2)])
def z154.pack:List V->Option Pack
 |[(.agg [(.int .i64 a0),(.int .i64 a1),(.int .i64 a2)]),(.agg [(.int .i64 a3),(.int .i64 a4),(.int .i64 a5)])]=>some ⟨(List Int)×Bool×(List Int),z154.F a0 a1 a2 a3 a4 a5,z154.enc⟩
 |_=>none
def z155.enc (r:Int×Int):V:=(.tup [(.int .i64 r.1),(.int .i64 r.2)])
def z155.pack:List V->Option Pack
 |[(.agg [(.int .i64 a0),(.int .i64 a1),(.int .i64 a2)]),(.agg [(.int .i64 a3),(.int .i64 a4),(.int .i64 a5)])]=>some ⟨Int×Int,z155.F a0 a1 a2 a3 a4 a5,z155.enc⟩
 |_=>none
def z156.enc (r:Int):V:=(.int .i64 r)
def z156.pack:List V->Option Pack
 |[(.agg [(.int .i64 a0),(.int .i64 a1),(.int .i64 a2)]),(.agg [(.int .i64 a3),(.int .i64 a4),(.int .i64 a5)])]=>some ⟨Int,z156.F a0 a1 a2 a3 a4 a5,z156.enc⟩
 |_=>none
def z157.enc (r:Int):V:=(.int .i64 r)
def z157.pack:List V->Option Pack
 |[(.int .i64 a0)]=>some ⟨Int,z157.F a0,z157.enc⟩
 |_=>none
def z158.enc (r:(List Int)×Bool×(List Int)):V:=(.agg [(.ints false .u64 r.1),(.bool r.2.1),(.ints false .u64 r.2.2)])
def z158.pack:List V->Option Pack
 |[(.agg [(.int .i64 a0),(.int .i64 a1),(.int .i64 a2)]),(.agg [(.int .i64 a3),(.int .i64 a4),(.int .i64 a5)])]=>some ⟨(List Int)×Bool×(List Int),z158.F a0 a1 a2 a3 a4 a5,z158.enc⟩
 |_=>none
def z159.enc (r:(List Int)×Bool×(List Int)×Int):V:=(.tup [(.agg [(.ints false .u64 r.1),(.bool r.2.1),(.ints false .u64 r.2.2.1)]),(.int .i64 r.2.2.2)])
def z159.pack:List V->Option Pack
 |[(.int .i64 a0),(.agg [(.int .i64 a1),(.int .i64 a2),(.int .i64 a3)]),(.agg [(.int .i64 a4),(.int .i64 a5),(.int .i64 a6)])]=>some ⟨(List Int)×Bool×(List Int)×Int,z159.F a0 a1 a2 a3 a4 a5 a6,z159.enc⟩
 |_=>none
def z160.enc (r:Int×Int×Int):V:=(.agg [(.int .i64 r.1),(.int .i64 r.2.1),(.int .i64 r.2.2)])
def z160.pack:List V->Option Pack
 |[(.agg [(.int .i64 a0),(.int .i64 a1),(.int .i64 a2)]),(.agg [(.int .i64 a3),(.int .i64 a4),(.int .i64 a5)])]=>some ⟨Int×Int×Int,z160.F a0 a1 a2 a3 a4 a5,z160.enc⟩
 |_=>none
def z161.enc (r:(List Int)×Bool×(List Int)):V:=(.agg [(.ints false .u64 r.1),(.bool r.2.1),(.ints false .u64 r.2.2)])
def z161.pack:List V->Option Pack
 |[(.int .i64 a0),(.recs _ 8 a1),(.agg [(.int .i64 a2),(.int .i64 a3),(.int .i64 a4)])]=>some ⟨(List Int)×Bool×(List Int),z161.F a0 a1 a2 a3 a4,z161.enc⟩
 |_=>none
def z162.l0P (a b:Int) (c:List (List V)) {R:Type} (rec done:((List (List V))×(List Int)×Bool×Int×Int×Int)->Option R):((List (List V))×(List Int)×Bool×Int×Int×Int)->Option R:=λx=>match x with
 |(d,e,g,h,j,k)=>(if 0<=(wr .i64 ((((c).length:Nat):Int)-1))/\(wr .i64 ((((c).length:Nat):Int)-1))<(c.length:Int) then (V.asInt .i64 (((c.getD ((wr .i64 ((((c).length:Nat):Int)-1))).toNat [])).getD 0 .undef) λm=>(V.asInt .i64 (((c.getD ((wr .i64 ((((c).length:Nat):Int)-1))).toNat [])).getD 1 .undef) λn=>(V.asInt .i64 (((c.getD ((wr .i64 ((((c).length:Nat):Int)-1))).toNat [])).getD 2 .undef) λo=>(V.asInt .i64 (((c.getD ((wr .i64 ((((c).length:Nat):Int)-1))).toNat [])).getD 3 .undef) λp=>(V.asInt .i64 (((c.getD ((wr .i64 ((((c).length:Nat):Int)-1))).toNat [])).getD 4 .undef) λq=>(V.asInt .i64 (((c.getD ((wr .i64 ((((c).length:Nat):Int)-1))).toNat [])).getD 5 .undef) λr=>(V.asStr (((c.getD ((wr .i64 ((((c).length:Nat):Int)-1))).toNat [])).getD 6 .undef) λs=>(V.asStr (((c.getD ((wr .i64 ((((c).length:Nat):Int)-1))).toNat [])).getD 7 .undef) λt=>(bif (!(decide (h=p)&&(decide (j=q)&&decide (k=r)))) then ((z100.F h j k 1).bind λu=>((z161.F a c u.1 u.2.1 u.2.2.1).bind λv=>((z150.F v.1 v.2.1 v.2.2 b).bind λw=>((z33.F w.1 w.2.1 e g).bind λy=>(if ((d).length+(([[(.ints false .u64 y.1),(.bool y.2)]]:List (List V))).length)*32<=140737488355328 then (rec ((d++([[(.ints false .u64 y.1),(.bool y.2)]]:List (List V))),w.1,w.2.1,u.1,u.2.1,u.2.2.1)) else none))))) else (done (d,e,g,h,j,k))))))))))) else none)
def z162.l0 (a b:Int) (c:List (List V)) (x:((List (List V))×(List Int)×Bool×Int×Int×Int)):Option (((List (List V))×(List Int)×Bool×Int×Int×Int)):=lfp (λrec x=>z162.l0P a b c rec some x) x
def z162.j4 (a2:List (List V)) (a0 a1:Int):Option ((List (List V))×Int):=
 (bif (decide ((((a2).length:Nat):Int)=0)) then (some ([],(0:Int))) else (if (0:Int)<=(0:Int)/\(0:Int)<(a2.length:Int) then (V.asInt .i64 (((a2.getD 0 [])).getD 0 .undef) λc5=>(V.asInt .i64 (((a2.getD 0 [])).getD 1 .undef) λc6=>(V.asInt .i64 (((a2.getD 0 [])).getD 2 .undef) λc7=>(V.asInt .i64 (((a2.getD 0 [])).getD 3 .undef) λc8=>(V.asInt .i64 (((a2.getD 0 [])).getD 4 .undef) λc9=>(V.asInt .i64 (((a2.getD 0 [])).getD 5 .undef) λc10=>(V.asStr (((a2.getD 0 [])).getD 6 .undef) λc11=>(V.asStr (((a2.getD 0 [])).getD 7 .undef) λc12=>((z162.l0 a0 a1 a2 ([],[],false,c5,c6,c7)).bind λo13=>(some (o13.1,(0:Int)))))))))))) else none))
def z162.F (a0 a1:Int) (a2:List (List V)):Option ((List (List V))×Int):=
 ((z145.F a2).bind λr1=>(bif (!decide (r1=0)) then (some ([],r1)) else ((z146.F a0).bind λr2=>(bif (!r2) then (some ([],(2:Int))) else ((z81.F a1).bind λr3=>(bif (decide (r3=([]:List UInt8))) then (some ([],(2:Int))) else (z162.j4 a2 a0 a1)))))))
def z162.enc (r:(List (List V))×Int):V:=(.tup [(.recs false 2 r.1),(.int .i64 r.2)])
def z162.pack:List V->Option Pack
 |[(.int .i64 a0),(.int .i64 a1),(.recs _ 8 a2)]=>some ⟨(List (List V))×Int,z162.F a0 a1 a2,z162.enc⟩
 |_=>none
def z163.F (a0:List Int) (a1:Bool) (a2 a3:List Int) (a4:Bool) (a5:List Int):Option ((List Int)×Bool×(List Int)):=
 ((z122.F a0 a1 a2 a3 a4 a5).bind λr1=>((z122.F a3 a4 a5 a0 a1 a2).bind λr2=>((z110.F r1.1 r1.2 r2.1 r2.2).bind λr3=>((z15.F a2 a5).bind λr4=>((z117.F r3.1 r3.2 r4).bind λr5=>(some (r5.1,r5.2.1,r5.2.2)))))))
def z163.enc (r:(List Int)×Bool×(List Int)):V:=(.agg [(.ints false .i64 r.1),(.bool r.2.1),(.ints false .i64 r.2.2)])
def z163.pack:List V->Option Pack
 |[(.agg [(.ints _ .i64 a0),(.bool a1),(.ints _ .i64 a2)]),(.agg [(.ints _ .i64 a3),(.bool a4),(.ints _ .i64 a5)])]=>some ⟨(List Int)×Bool×(List Int),z163.F a0 a1 a2 a3 a4 a5,z163.enc⟩
 |_=>none
def z164.l0P (a:Int) {R:Type} (rec done:(Int×Int)->Option R):(Int×Int)->Option R:=λx=>match x with
 |(b,c)=>(bif (decide (c<a)) then ((z10.F c).bind λd=>(bif d then (rec ((wr .i64 ((wr .i64 (b+365))+1)),(wr .i64 (c+1)))) else (rec ((wr .i64 (b+365)),(wr .i64 (c+1)))))) else (done (b,c)))
def z164.l0 (a:Int) (x:(Int×Int)):Option ((Int×Int)):=lfp (λrec x=>z164.l0P a rec some x) x
def z164.l2P (a b:Int) {R:Type} (rec done:(Int×Int)->Option R):(Int×Int)->Option R:=λx=>match x with
 |(c,d)=>(bif (decide (d<b)) then ((z11.F a d).bind λe=>(rec ((wr .i64 (c+e)),(wr .i64 (d+1))))) else (done (c,d)))
def z164.l2 (a b:Int) (x:(Int×Int)):Option ((Int×Int)):=lfp (λrec x=>z164.l2P a b rec some x) x
def z164.F (a0 a1 a2:Int):Option (Int):=
 ((z164.l0 a0 ((0:Int),(1:Int))).bind λo1=>((z164.l2 a0 a1 (o1.1,(1:Int))).bind λo2=>(some (wr .i64 (o2.1+a2)))))
def z164.enc (r:Int):V:=(.int .i64 r)
def z164.pack:List V->Option Pack
 |[(.agg [(.int .i64 a0),(.int .i64 a1),(.int .i64 a2)])]=>some ⟨Int,z164.F a0 a1 a2,z164.enc⟩
 |_=>none
def z165.j6 (a4 a1 a5 a2 j6:Int):Option ((List Int)×Bool×(List Int)):=
 ((z119.F (wr .i64 ((wr .i64 ((wr .i64 ((wr .i64 ((360:Int)*(wr .i64 (a4-a1))))+(wr .i64 ((30:Int)*(wr .i64 (a5-a2))))))+j6))-30)) 360).bind λr7=>(some (r7.1,r7.2.1,r7.2.2)))
def z165.j9 (a4 a1 a5 a2 j9 a3:Int):Option ((List Int)×Bool×(List Int)):=
 ((z119.F (wr .i64 ((wr .i64 ((wr .i64 ((wr .i64 ((360:Int)*(wr .i64 (a4-a1))))+(wr .i64 ((30:Int)*(wr .i64 (a5-a2))))))+j9))-a3)) 360).bind λr10=>(some (r10.1,r10.2.1,r10.2.2)))
def z165.j1015a {R:Type} (rec done:(Int×(List Int)×Bool×(List Int))->Option R) (a b c d:Int) (e:List Int) (g:Bool) (h:List Int) (j:Int):Option R:=
 ((z119.F (wr .i64 ((if a<(wr .i64 (b+c)) then a else (wr .i64 (b+c)))-(if d>b then d else b))) c).bind λk=>((z163.F e g h k.1 k.2.1 k.2.2).bind λm=>(rec ((wr .i64 (j+1)),m.1,m.2.1,m.2.2))))
def z165.l0P (a b c:Int) {R:Type} (rec done:(Int×(List Int)×Bool×(List Int))->Option R):(Int×(List Int)×Bool×(List Int))->Option R:=λx=>match x with
 |(d,e,g,h)=>(bif (decide (d<=c)) then ((z164.F d 1 1).bind λj=>((z10.F d).bind λk=>(bif k then (z165.j1015a rec done b j 366 a e g h d) else (z165.j1015a rec done b j 365 a e g h d)))) else (done (d,e,g,h)))
def z165.l0 (a b c:Int) (x:(Int×(List Int)×Bool×(List Int))):Option ((Int×(List Int)×Bool×(List Int))):=lfp (λrec x=>z165.l0P a b c rec some x) x
def z165.F (a0 a1 a2 a3 a4 a5 a6:Int):Option ((List Int)×Bool×(List Int)):=
 (bif (decide (a0=0)) then (bif (decide (a3=31)) then (bif (decide (a6=31)) then (z165.j6 a4 a1 a5 a2 30) else (z165.j6 a4 a1 a5 a2 a6)) else (bif (decide (a6=31)) then (bif (decide (a3=30)) then (z165.j9 a4 a1 a5 a2 30 a3) else (z165.j9 a4 a1 a5 a2 a6 a3)) else (z165.j9 a4 a1 a5 a2 a6 a3))) else ((z164.F a1 a2 a3).bind λr11=>((z164.F a4 a5 a6).bind λr12=>(bif (decide (a0=1)) then ((z119.F (wr .i64 (r12-r11)) 365).bind λr13=>(some (r13.1,r13.2.1,r13.2.2))) else ((z119.F 0 1).bind λr14=>((z165.l0 r11 r12 a4 (a1,r14.1,r14.2.1,r14.2.2)).bind λo15=>(some (o15.2.1,o15.2.2.1,o15.2.2.2))))))))
def z165.enc (r:(List Int)×Bool×(List Int)):V:=(.agg [(.ints false .i64 r.1),(.bool r.2.1),(.ints false .i64 r.2.2)])
def z165.pack:List V->Option Pack
 |[(.int .i64 a0),(.agg [(.int .i64 a1),(.int .i64 a2),(.int .i64 a3)]),(.agg [(.int .i64 a4),(.int .i64 a5),(.int .i64 a6)])]=>some ⟨(List Int)×Bool×(List Int),z165.F a0 a1 a2 a3 a4 a5 a6,z165.enc⟩
 |_=>none
def z166.F (a0:List Int) (a1:Bool):Option ((List Int)×Bool×(List Int)):=
 (some (a0,a1,[(1:Int)]))
def z166.enc (r:(List Int)×Bool×(List Int)):V:=(.agg [(.ints false .i64 r.1),(.bool r.2.1),(.ints false .i64 r.2.2)])
def z166.pack:List V->Option Pack
 |[(.agg [(.ints _ .i64 a0),(.bool a1)])]=>some ⟨(List Int)×Bool×(List Int),z166.F a0 a1,z166.enc⟩
 |_=>none
def z167.F (a0:List Int) (a1:Bool) (a2 a3:List Int) (a4:Bool) (a5:List Int):Option ((List Int)×Bool×(List Int)):=
 ((z16.F a0 a1 a3 a4).bind λr1=>((z15.F a2 a5).bind λr2=>((z117.F r1.1 r1.2 r2).bind λr3=>(some (r3.1,r3.2.1,r3.2.2)))))
def z167.enc (r:(List Int)×Bool×(List Int)):V:=(.agg [(.ints false .i64 r.1),(.bool r.2.1),(.ints false .i64 r.2.2)])
def z167.pack:List V->Option Pack
 |[(.agg [(.ints _ .i64 a0),(.bool a1),(.ints _ .i64 a2)]),(.agg [(.ints _ .i64 a3),(.bool a4),(.ints _ .i64 a5)])]=>some ⟨(List Int)×Bool×(List Int),z167.F a0 a1 a2 a3 a4 a5,z167.enc⟩
 |_=>none
def z168.j1024a {R:Type} (rec done:(Int×(List Int)×Bool×(List Int))->Option R) (a:Int) (b:List (List V)) (c d e:Int) (g:List Int) (h:Bool) (j:List Int) (k m n o:Int):Option R:=
 (if 0<=a/\a<(b.length:Int) then (V.asInt .i64 (((b.getD (a).toNat [])).getD 0 .undef) λp=>(V.asInt .i64 (((b.getD (a).toNat [])).getD 1 .undef) λq=>(V.asInt .i64 (((b.getD (a).toNat [])).getD 2 .undef) λr=>(V.asInt .i64 (((b.getD (a).toNat [])).getD 3 .undef) λs=>(V.asInt .i64 (((b.getD (a).toNat [])).getD 4 .undef) λt=>(V.asInt .i64 (((b.getD (a).toNat [])).getD 5 .undef) λu=>(V.asStr (((b.getD (a).toNat [])).getD 6 .undef) λv=>(V.asStr (((b.getD (a).toNat [])).getD 7 .undef) λw=>((z132.F p q r c d e).bind λx=>(bif (decide (x>=0)) then (rec ((wr .i64 (a+1)),g,h,j)) else (if 0<=a/\a<(b.length:Int) then (V.asInt .i64 (((b.getD (a).toNat [])).getD 0 .undef) λy=>(V.asInt .i64 (((b.getD (a).toNat [])).getD 1 .undef) λz=>(V.asInt .i64 (((b.getD (a).toNat [])).getD 2 .undef) λA=>(V.asInt .i64 (((b.getD (a).toNat [])).getD 3 .undef) λB=>(V.asInt .i64 (((b.getD (a).toNat [])).getD 4 .undef) λC=>(V.asInt .i64 (((b.getD (a).toNat [])).getD 5 .undef) λD=>(V.asStr (((b.getD (a).toNat [])).getD 6 .undef) λE=>(V.asStr (((b.getD (a).toNat [])).getD 7 .undef) λG=>((z114.F E).bind λH=>(if 0<=a/\a<(b.length:Int) then (V.asInt .i64 (((b.getD (a).toNat [])).getD 0 .undef) λI=>(V.asInt .i64 (((b.getD (a).toNat [])).getD 1 .undef) λJ=>(V.asInt .i64 (((b.getD (a).toNat [])).getD 2 .undef) λK=>(V.asInt .i64 (((b.getD (a).toNat [])).getD 3 .undef) λL=>(V.asInt .i64 (((b.getD (a).toNat [])).getD 4 .undef) λM=>(V.asInt .i64 (((b.getD (a).toNat [])).getD 5 .undef) λN=>(V.asStr (((b.getD (a).toNat [])).getD 6 .undef) λO=>(V.asStr (((b.getD (a).toNat [])).getD 7 .undef) λP=>((z125.F P).bind λQ=>(if 0<=a/\a<(b.length:Int) then (V.asInt .i64 (((b.getD (a).toNat [])).getD 0 .undef) λS=>(V.asInt .i64 (((b.getD (a).toNat [])).getD 1 .undef) λU=>(V.asInt .i64 (((b.getD (a).toNat [])).getD 2 .undef) λW=>(V.asInt .i64 (((b.getD (a).toNat [])).getD 3 .undef) λY=>(V.asInt .i64 (((b.getD (a).toNat [])).getD 4 .undef) λZ=>(V.asInt .i64 (((b.getD (a).toNat [])).getD 5 .undef) λa0=>(V.asStr (((b.getD (a).toNat [])).getD 6 .undef) λa1=>(V.asStr (((b.getD (a).toNat [])).getD 7 .undef) λa2=>((z165.F k S U W m n o).bind λa3=>((z166.F H.1 H.2.1).bind λa4=>((z167.F a4.1 a4.2.1 a4.2.2 Q.1 Q.2.1 Q.2.2.1).bind λa5=>((z167.F a5.1 a5.2.1 a5.2.2 a3.1 a3.2.1 a3.2.2).bind λa6=>((z163.F g h j a6.1 a6.2.1 a6.2.2).bind λa7=>(rec ((wr .i64 (a+1)),a7.1,a7.2.1,a7.2.2))))))))))))))) else none)))))))))) else none)))))))))) else none))))))))))) else none)
def z168.l0P (a:Int) (b:List (List V)) (c d e:Int) {R:Type} (rec done:(Int×(List Int)×Bool×(List Int))->Option R):(Int×(List Int)×Bool×(List Int))->Option R:=λx=>match x with
 |(g,h,j,k)=>(bif (decide (g<(((b).length:Nat):Int))) then (if 0<=g/\g<(b.length:Int) then (V.asInt .i64 (((b.getD (g).toNat [])).getD 0 .undef) λm=>(V.asInt .i64 (((b.getD (g).toNat [])).getD 1 .undef) λn=>(V.asInt .i64 (((b.getD (g).toNat [])).getD 2 .undef) λo=>(V.asInt .i64 (((b.getD (g).toNat [])).getD 3 .undef) λp=>(V.asInt .i64 (((b.getD (g).toNat [])).getD 4 .undef) λq=>(V.asInt .i64 (((b.getD (g).toNat [])).getD 5 .undef) λr=>(V.asStr (((b.getD (g).toNat [])).getD 6 .undef) λs=>(V.asStr (((b.getD (g).toNat [])).getD 7 .undef) λt=>((z132.F c d e p q r).bind λu=>(bif (decide (u<0)) then (z168.j1024a rec done g b c d e h j k a c d e) else (z168.j1024a rec done g b c d e h j k a p q r))))))))))) else none) else (done (g,h,j,k)))
def z168.l0 (a:Int) (b:List (List V)) (c d e:Int) (x:(Int×(List Int)×Bool×(List Int))):Option ((Int×(List Int)×Bool×(List Int))):=lfp (λrec x=>z168.l0P a b c d e rec some x) x
def z168.F (a0:Int) (a1:List (List V)) (a2 a3 a4:Int):Option ((List Int)×Bool×(List Int)):=
 ((z119.F 0 1).bind λr1=>((z168.l0 a0 a1 a2 a3 a4 ((0:Int),r1.1,r1.2.1,r1.2.2)).bind λo2=>(some (o2.2.1,o2.2.2.1,o2.2.2.2))))
def z168.enc (r:(List Int)×Bool×(List Int)):V:=(.agg [(.ints false .i64 r.1),(.bool r.2.1),(.ints false .i64 r.2.2)])
def z168.pack:List V->Option Pack
 |[(.int .i64 a0),(.recs _ 8 a1),(.agg [(.int .i64 a2),(.int .i64 a3),(.int .i64 a4)])]=>some ⟨(List Int)×Bool×(List Int),z168.F a0 a1 a2 a3 a4,z168.enc⟩
 |_=>none
def z169.j11 (j11:Bool) (r2:(List Int)) (a1:Bool) (r1:(List Int)×(List Int)):Option ((List Int)×Bool):=
 (bif j11 then ((z7.F r2 a1).bind λr12=>(some (r12.1,r12.2))) else ((z7.F r1.1 a1).bind λr13=>(some (r13.1,r13.2))))
def z169.j9 (a3 r4:Int) (r2:(List Int)) (a1:Bool) (r1 r5:(List Int)×(List Int)) (j9:Bool):Option ((List Int)×Bool):=
 (bif (decide (a3=4)) then (bif (decide (r4>0)) then (z169.j11 true r2 a1 r1) else (bif (decide (r4=0)) then (z169.j11 (decide ((((r5.2).length:Nat):Int)>0)) r2 a1 r1) else (z169.j11 false r2 a1 r1))) else (z169.j11 j9 r2 a1 r1))
def z169.j10 (a3 r4:Int) (r2:(List Int)) (a1:Bool) (r1 r5:(List Int)×(List Int)) (j10:Bool):Option ((List Int)×Bool):=
 (bif (decide (a3=4)) then (bif (decide (r4>0)) then (z169.j11 true r2 a1 r1) else (bif (decide (r4=0)) then (z169.j11 (decide ((((r5.2).length:Nat):Int)>0)) r2 a1 r1) else (z169.j11 false r2 a1 r1))) else (z169.j11 j10 r2 a1 r1))
def z169.j6 (a3 r4:Int) (r2:(List Int)) (a1:Bool) (r1 r5:(List Int)×(List Int)) (j6:Bool):Option ((List Int)×Bool):=
 (bif (decide (a3=2)) then (bif (decide (a3=3)) then (z169.j9 a3 r4 r2 a1 r1 r5 (decide (r4>0))) else (z169.j9 a3 r4 r2 a1 r1 r5 (decide (r4>=0)))) else (bif (decide (a3=3)) then (z169.j10 a3 r4 r2 a1 r1 r5 (decide (r4>0))) else (z169.j10 a3 r4 r2 a1 r1 r5 j6)))
def z169.F (a0:List Int) (a1:Bool) (a2:List Int) (a3:Int):Option ((List Int)×Bool):=
 ((z115.F a0 a2).bind λr1=>((z107.F r1.1 [(1:Int)]).bind λr2=>((z15.F r1.2 [(2:Int)]).bind λr3=>((z108.F r3 a2).bind λr4=>((z115.F r1.1 [(2:Int)]).bind λr5=>(bif (decide ((((r1.2).length:Nat):Int)>0)) then (bif (decide (a3=1)) then (z169.j6 a3 r4 r2 a1 r1 r5 true) else (z169.j6 a3 r4 r2 a1 r1 r5 false)) else (z169.j11 false r2 a1 r1)))))))
def z169.enc (r:(List Int)×Bool):V:=(.agg [(.ints false .i64 r.1),(.bool r.2)])
def z169.pack:List V->Option Pack
 |[(.agg [(.ints _ .i64 a0),(.bool a1),(.ints _ .i64 a2)]),(.int .i64 a3)]=>some ⟨(List Int)×Bool,z169.F a0 a1 a2 a3,z169.enc⟩
 |_=>none
def z170.F (a0 a1:Int) (a2:List (List V)) (a3 a4 a5:Int):Option ((List Int)×Bool):=
 ((z168.F a0 a2 a3 a4 a5).bind λr1=>((z169.F r1.1 r1.2.1 r1.2.2 a1).bind λr2=>(some (r2.1,r2.2))))
def z170.enc (r:(List Int)×Bool):V:=(.agg [(.ints false .i64 r.1),(.bool r.2)])
def z170.pack:List V->Option Pack
 |[(.int .i64 a0),(.int .i64 a1),(.recs _ 8 a2),(.agg [(.int .i64 a3),(.int .i64 a4),(.int .i64 a5)])]=>some ⟨(List Int)×Bool,z170.F a0 a1 a2 a3 a4 a5,z170.enc⟩
 |_=>none
def z171.enc (r:(List Int)×Bool×(List Int)×Int):V:=(.tup [(.agg [(.ints false .u64 r.1),(.bool r.2.1),(.ints false .u64 r.2.2.1)]),(.int .i64 r.2.2.2)])
def z171.pack:List V->Option Pack
 |[(.int .i64 a0),(.recs _ 8 a1),(.agg [(.int .i64 a2),(.int .i64 a3),(.int .i64 a4)])]=>some ⟨(List Int)×Bool×(List Int)×Int,z171.F a0 a1 a2 a3 a4,z171.enc⟩
 |_=>none
def z172.F (a0 a1:Int) (a2:List (List V)) (a3 a4 a5:Int):Option ((List Int)×Bool×Int):=
 ((z171.F a0 a2 a3 a4 a5).bind λr1=>(bif (!decide (r1.2.2.2=0)) then (some ([],false,r1.2.2.2)) else ((z150.F r1.1 r1.2.1 r1.2.2.1 a1).bind λr2=>(some (r2.1,r2.2.1,r2.2.2)))))
def z172.enc (r:(List Int)×Bool×Int):V:=(.tup [(.agg [(.ints false .u64 r.1),(.bool r.2.1)]),(.int .i64 r.2.2)])
def z172.pack:List V->Option Pack
 |[(.int .i64 a0),(.int .i64 a1),(.recs _ 8 a2),(.agg [(.int .i64 a3),(.int .i64 a4),(.int .i64 a5)])]=>some ⟨(List Int)×Bool×Int,z172.F a0 a1 a2 a3 a4 a5,z172.enc⟩
 |_=>none
def z173.F:Option (Bool):=
 ((z162.F 1 2 ([[(.int .i64 2024),(.int .i64 1),(.int .i64 1),(.int .i64 2024),(.int .i64 1),(.int .i64 4),(.str ([49,48,48,48,48,48]:List UInt8)),(.str ([51,46,54,53]:List UInt8))]]:List (List V))).bind λr1=>((z172.F 1 2 ([[(.int .i64 2024),(.int .i64 1),(.int .i64 1),(.int .i64 2024),(.int .i64 1),(.int .i64 4),(.str ([49,48,48,48,48,48]:List UInt8)),(.str ([51,46,54,53]:List UInt8))]]:List (List V)) 2024 1 3).bind λr2=>(bif (decide (r1.2=0)) then (bif (decide ((((r1.1).length:Nat):Int)=3)) then (if (0:Int)<=(1:Int)/\(1:Int)<(r1.1.length:Int) then (V.asInts .u64 (((r1.1.getD 1 [])).getD 0 .undef) λc3=>(V.asBool (((r1.1.getD 1 [])).getD 1 .undef) λc4=>((z135.F c3 c4).bind λr5=>(bif (decide (r5=([49,48]:List UInt8))) then ((z135.F r2.1 r2.2.1).bind λr6=>(bif (decide (r6=([50,48]:List UInt8))) then (bif (decide (r2.2.2=0)) then ((z145.F ([[(.int .i64 0),(.int .i64 0),(.int .i64 0),(.int .i64 0),(.int .i64 0),(.int .i64 0),(.str ([]:List UInt8)),(.str ([]:List UInt8))]]:List (List V))).bind λr7=>(some (decide (r7=11)))) else (some false)) else (some false))) else (some false))))) else none) else (some false)) else (some false))))
def z173.enc (r:Bool):V:=(.bool r)
def z173.pack:List V->Option Pack
 |[]=>some ⟨Bool,z173.F,z173.enc⟩
 |_=>none
def z179.l0b19P (a:List (List V)) {R:Type} (rec:Int->Option R) (done:((Int)⊕(Int))->Option R):Int->Option R:=λb=>(bif (decide (b<(((a).length:Nat):Int))) then (if 0<=b/\b<(a.length:Int) then (V.asInt .i64 (((a.getD (b).toNat [])).getD 0 .undef) λc=>(V.asInt .i64 (((a.getD (b).toNat [])).getD 1 .undef) λd=>(V.asInt .i64 (((a.getD (b).toNat [])).getD 2 .undef) λe=>(V.asInt .i64 (((a.getD (b).toNat [])).getD 3 .undef) λg=>(V.asInt .i64 (((a.getD (b).toNat [])).getD 4 .undef) λh=>(V.asInt .i64 (((a.getD (b).toNat [])).getD 5 .undef) λj=>(V.asStr (((a.getD (b).toNat [])).getD 6 .undef) λk=>(V.asStr (((a.getD (b).toNat [])).getD 7 .undef) λm=>((z126.F c d e).bind λn=>(if 0<=b/\b<(a.length:Int) then (V.asInt .i64 (((a.getD (b).toNat [])).getD 0 .undef) λo=>(V.asInt .i64 (((a.getD (b).toNat [])).getD 1 .undef) λp=>(V.asInt .i64 (((a.getD (b).toNat [])).getD 2 .undef) λq=>(V.asInt .i64 (((a.getD (b).toNat [])).getD 3 .undef) λr=>(V.asInt .i64 (((a.getD (b).toNat [])).getD 4 .undef) λs=>(V.asInt .i64 (((a.getD (b).toNat [])).getD 5 .undef) λt=>(V.asStr (((a.getD (b).toNat [])).getD 6 .undef) λu=>(V.asStr (((a.getD (b).toNat [])).getD 7 .undef) λv=>((z126.F r s t).bind λw=>(bif (!n) then (done (.inr 11)) else (bif (!w) then (done (.inr 11)) else (if 0<=b/\b<(a.length:Int) then (V.asInt .i64 (((a.getD (b).toNat [])).getD 0 .undef) λx=>(V.asInt .i64 (((a.getD (b).toNat [])).getD 1 .undef) λy=>(V.asInt .i64 (((a.getD (b).toNat [])).getD 2 .undef) λz=>(V.asInt .i64 (((a.getD (b).toNat [])).getD 3 .undef) λA=>(V.asInt .i64 (((a.getD (b).toNat [])).getD 4 .undef) λB=>(V.asInt .i64 (((a.getD (b).toNat [])).getD 5 .undef) λC=>(V.asStr (((a.getD (b).toNat [])).getD 6 .undef) λD=>(V.asStr (((a.getD (b).toNat [])).getD 7 .undef) λE=>(if 0<=b/\b<(a.length:Int) then (V.asInt .i64 (((a.getD (b).toNat [])).getD 0 .undef) λG=>(V.asInt .i64 (((a.getD (b).toNat [])).getD 1 .undef) λH=>(V.asInt .i64 (((a.getD (b).toNat [])).getD 2 .undef) λI=>(V.asInt .i64 (((a.getD (b).toNat [])).getD 3 .undef) λJ=>(V.asInt .i64 (((a.getD (b).toNat [])).getD 4 .undef) λK=>(V.asInt .i64 (((a.getD (b).toNat [])).getD 5 .undef) λL=>(V.asStr (((a.getD (b).toNat [])).getD 6 .undef) λM=>(V.asStr (((a.getD (b).toNat [])).getD 7 .undef) λN=>((z132.F x y z J K L).bind λO=>(bif (decide (O>0)) then (done (.inr 12)) else (bif (decide (b>0)) then (if 0<=b/\b<(a.length:Int) then (V.asInt .i64 (((a.getD (b).toNat [])).getD 0 .undef) λP=>(V.asInt .i64 (((a.getD (b).toNat [])).getD 1 .undef) λQ=>(V.asInt .i64 (((a.getD (b).toNat [])).getD 2 .undef) λS=>(V.asInt .i64 (((a.getD (b).toNat [])).getD 3 .undef) λU=>(V.asInt .i64 (((a.getD (b).toNat [])).getD 4 .undef) λW=>(V.asInt .i64 (((a.getD (b).toNat [])).getD 5 .undef) λY=>(V.asStr (((a.getD (b).toNat [])).getD 6 .undef) λZ=>(V.asStr (((a.getD (b).toNat [])).getD 7 .undef) λa0=>(if 0<=(wr .i64 ((if 1>b then 1 else b)-1))/\(wr .i64 ((if 1>b then 1 else b)-1))<(a.length:Int) then (V.asInt .i64 (((a.getD ((wr .i64 ((if 1>b then 1 else b)-1))).toNat [])).getD 0 .undef) λa1=>(V.asInt .i64 (((a.getD ((wr .i64 ((if 1>b then 1 else b)-1))).toNat [])).getD 1 .undef) λa2=>(V.asInt .i64 (((a.getD ((wr .i64 ((if 1>b then 1 else b)-1))).toNat [])).getD 2 .undef) λa3=>(V.asInt .i64 (((a.getD ((wr .i64 ((if 1>b then 1 else b)-1))).toNat [])).getD 3 .undef) λa4=>(V.asInt .i64 (((a.getD ((wr .i64 ((if 1>b then 1 else b)-1))).toNat [])).getD 4 .undef) λa5=>(V.asInt .i64 (((a.getD ((wr .i64 ((if 1>b then 1 else b)-1))).toNat [])).getD 5 .undef) λa6=>(V.asStr (((a.getD ((wr .i64 ((if 1>b then 1 else b)-1))).toNat [])).getD 6 .undef) λa7=>(V.asStr (((a.getD ((wr .i64 ((if 1>b then 1 else b)-1))).toNat [])).getD 7 .undef) λa8=>(bif (!(decide (P=a4)&&(decide (Q=a5)&&decide (S=a6)))) then (done (.inr 12)) else (if 0<=b/\b<(a.length:Int) then (V.asInt .i64 (((a.getD (b).toNat [])).getD 0 .undef) λa9=>(V.asInt .i64 (((a.getD (b).toNat [])).getD 1 .undef) λb0=>(V.asInt .i64 (((a.getD (b).toNat [])).getD 2 .undef) λb1=>(V.asInt .i64 (((a.getD (b).toNat [])).getD 3 .undef) λb2=>(V.asInt .i64 (((a.getD (b).toNat [])).getD 4 .undef) λb3=>(V.asInt .i64 (((a.getD (b).toNat [])).getD 5 .undef) λb4=>(V.asStr (((a.getD (b).toNat [])).getD 6 .undef) λb5=>(V.asStr (((a.getD (b).toNat [])).getD 7 .undef) λb6=>((z114.F b5).bind λb7=>(bif (!decide (b7.2.2=0)) then (done (.inr b7.2.2)) else (if 0<=b/\b<(a.length:Int) then (V.asInt .i64 (((a.getD (b).toNat [])).getD 0 .undef) λb8=>(V.asInt .i64 (((a.getD (b).toNat [])).getD 1 .undef) λb9=>(V.asInt .i64 (((a.getD (b).toNat [])).getD 2 .undef) λc0=>(V.asInt .i64 (((a.getD (b).toNat [])).getD 3 .undef) λc1=>(V.asInt .i64 (((a.getD (b).toNat [])).getD 4 .undef) λc2=>(V.asInt .i64 (((a.getD (b).toNat [])).getD 5 .undef) λc3=>(V.asStr (((a.getD (b).toNat [])).getD 6 .undef) λc4=>(V.asStr (((a.getD (b).toNat [])).getD 7 .undef) λc5=>((z125.F c5).bind λc6=>(bif (!decide (c6.2.2.2=0)) then (done (.inr c6.2.2.2)) else (rec (wr .i64 (b+1))))))))))))) else none))))))))))) else none)))))))))) else none))))))))) else none) else (if 0<=b/\b<(a.length:Int) then (V.asInt .i64 (((a.getD (b).toNat [])).getD 0 .undef) λc7=>(V.asInt .i64 (((a.getD (b).toNat [])).getD 1 .undef) λc8=>(V.asInt .i64 (((a.getD (b).toNat [])).getD 2 .undef) λc9=>(V.asInt .i64 (((a.getD (b).toNat [])).getD 3 .undef) λd0=>(V.asInt .i64 (((a.getD (b).toNat [])).getD 4 .undef) λd1=>(V.asInt .i64 (((a.getD (b).toNat [])).getD 5 .undef) λd2=>(V.asStr (((a.getD (b).toNat [])).getD 6 .undef) λd3=>(V.asStr (((a.getD (b).toNat [])).getD 7 .undef) λd4=>((z114.F d3).bind λd5=>(bif (!decide (d5.2.2=0)) then (done (.inr d5.2.2)) else (if 0<=b/\b<(a.length:Int) then (V.asInt .i64 (((a.getD (b).toNat [])).getD 0 .undef) λd6=>(V.asInt .i64 (((a.getD (b).toNat [])).getD 1 .undef) λd7=>(V.asInt .i64 (((a.getD (b).toNat [])).getD 2 .undef) λd8=>(V.asInt .i64 (((a.getD (b).toNat [])).getD 3 .undef) λd9=>(V.asInt .i64 (((a.getD (b).toNat [])).getD 4 .undef) λe0=>(V.asInt .i64 (((a.getD (b).toNat [])).getD 5 .undef) λe1=>(V.asStr (((a.getD (b).toNat [])).getD 6 .undef) λe2=>(V.asStr (((a.getD (b).toNat [])).getD 7 .undef) λe3=>((z125.F e3).bind λe4=>(bif (!decide (e4.2.2.2=0)) then (done (.inr e4.2.2.2)) else (rec (wr .i64 (b+1))))))))))))) else none))))))))))) else none)))))))))))) else none))))))))) else none)))))))))))) else none)))))))))) else none) else (done (.inl b)))
def z179.l0b19 (a:List (List V)) (x:Int):Option (((Int)⊕(Int))):=lfp (λrec x=>z179.l0b19P a rec some x) x
def z179.F (a0:List (List V)):Option (Int):=
 ((z179.l0b19 a0 0).bind λo1=>match o1 with | .inl p2=>(some 0) | .inr q3=>(some q3))
def z179.enc (r:Int):V:=(.int .i64 r)
def z179.pack:List V->Option Pack
 |[(.recs _ 8 a0)]=>some ⟨Int,z179.F a0,z179.enc⟩
 |_=>none
def z180.l1P (a:Int) (b:List (List V)) (c:Int) {R:Type} (rec:Int->Option R) (done:((Int)⊕(Bool))->Option R):Int->Option R:=λd=>(bif (decide (d<c)) then (if 0<=d/\d<(b.length:Int) then (V.asInt .i64 (((b.getD (d).toNat [])).getD 0 .undef) λe=>(V.asInt .i64 (((b.getD (d).toNat [])).getD 1 .undef) λg=>(V.asInt .i64 (((b.getD (d).toNat [])).getD 2 .undef) λh=>(V.asInt .i64 (((b.getD (d).toNat [])).getD 3 .undef) λj=>(V.asInt .i64 (((b.getD (d).toNat [])).getD 4 .undef) λk=>(V.asInt .i64 (((b.getD (d).toNat [])).getD 5 .undef) λm=>(V.asStr (((b.getD (d).toNat [])).getD 6 .undef) λn=>(V.asStr (((b.getD (d).toNat [])).getD 7 .undef) λo=>(bif (decide ((wr .i64 (j-e))>50)) then (done (.inr (decide (a=0)))) else (rec (wr .i64 (d+1)))))))))))) else none) else (done (.inl d)))
def z180.l1 (a:Int) (b:List (List V)) (c x:Int):Option (((Int)⊕(Bool))):=lfp (λrec x=>z180.l1P a b c rec some x) x
def z180.j33 (j33:Bool) (r2:(List Int)×Bool×Int) (a0:List (List V)) (r1:(List Int)×Bool×(List Int)×Int) (a4 a1 a2 a3 a5:Int):Option (Bool):=
 (bif j33 then (bif (decide (r2.2.2=2)) then ((z20.F r2.1 r2.2.1).bind λr34=>(some (decide (r34=0)))) else (some false)) else ((z180.l1 r2.2.2 a0 (((a0).length:Nat):Int) 0).bind λo35=>match o35 with | .inl p36=>(bif (decide (r2.2.2=0)) then ((z136.F r1.1 r1.2.1 r1.2.2.1).bind λr38=>((z168.F a4 a0 a1 a2 a3).bind λr39=>((z140.F r39.1 r39.2.1 r39.2.2).bind λr40=>(bif (decide (r38=r40)) then ((z135.F r2.1 r2.2.1).bind λr41=>((z170.F a4 a5 a0 a1 a2 a3).bind λr42=>((z6.F r42.1 r42.2).bind λr43=>(some (decide (r41=r43)))))) else (some false))))) else (some false)) | .inr q37=>(some q37)))
def z180.j44 (j44:Bool) (r2:(List Int)×Bool×Int) (a0:List (List V)) (r1:(List Int)×Bool×(List Int)×Int) (a4 a1 a2 a3 a5:Int):Option (Bool):=
 (bif j44 then (bif (decide (r2.2.2=2)) then ((z20.F r2.1 r2.2.1).bind λr45=>(some (decide (r45=0)))) else (some false)) else ((z180.l1 r2.2.2 a0 (((a0).length:Nat):Int) 0).bind λo46=>match o46 with | .inl p47=>(bif (decide (r2.2.2=0)) then ((z136.F r1.1 r1.2.1 r1.2.2.1).bind λr49=>((z168.F a4 a0 a1 a2 a3).bind λr50=>((z140.F r50.1 r50.2.1 r50.2.2).bind λr51=>(bif (decide (r49=r51)) then ((z135.F r2.1 r2.2.1).bind λr52=>((z170.F a4 a5 a0 a1 a2 a3).bind λr53=>((z6.F r53.1 r53.2).bind λr54=>(some (decide (r52=r54)))))) else (some false))))) else (some false)) | .inr q48=>(some q48)))
def z180.j7 (r1:(List Int)×Bool×(List Int)×Int) (j7:Int) (r2:(List Int)×Bool×Int) (a5:Int) (a0:List (List V)) (a4 a1 a2 a3:Int):Option (Bool):=
 (bif (!decide (r1.2.2.2=j7)) then (some false) else (bif (!decide (j7=0)) then ((z147.F r1.1 r1.2.1 r1.2.2.1).bind λr8=>(bif (!decide (r8=0)) then (some false) else (bif (!decide (r2.2.2=j7)) then (some false) else ((z20.F r2.1 r2.2.1).bind λr9=>(bif (!decide (r9=0)) then (some false) else (bif (!decide (j7=0)) then (some true) else (bif (decide (a5<0)) then (z180.j33 true r2 a0 r1 a4 a1 a2 a3 a5) else (z180.j33 (decide (a5>4)) r2 a0 r1 a4 a1 a2 a3 a5)))))))) else (bif (!decide (j7=0)) then (some true) else (bif (decide (a5<0)) then (z180.j44 true r2 a0 r1 a4 a1 a2 a3 a5) else (z180.j44 (decide (a5>4)) r2 a0 r1 a4 a1 a2 a3 a5)))))
def z180.F (a0:List (List V)) (a1 a2 a3 a4 a5:Int):Option (Bool):=
 ((z171.F a4 a0 a1 a2 a3).bind λr1=>((z172.F a4 a5 a0 a1 a2 a3).bind λr2=>((z179.F a0).bind λr3=>((z145.F a0).bind λr4=>(bif (!decide (r4=r3)) then (some false) else (bif (!decide (r3=0)) then (z180.j7 r1 r3 r2 a5 a0 a4 a1 a2 a3) else ((z126.F a1 a2 a3).bind λr5=>(bif (!r5) then (z180.j7 r1 11 r2 a5 a0 a4 a1 a2 a3) else (bif (decide (a4<0)) then (z180.j7 r1 2 r2 a5 a0 a4 a1 a2 a3) else (bif (decide (a4>2)) then (z180.j7 r1 2 r2 a5 a0 a4 a1 a2 a3) else (z180.j7 r1 r3 r2 a5 a0 a4 a1 a2 a3)))))))))))
def z180.enc (r:Bool):V:=(.bool r)
def z180.pack:List V->Option Pack
 |[(.recs _ 8 a0),(.agg [(.int .i64 a1),(.int .i64 a2),(.int .i64 a3)]),(.int .i64 a4),(.int .i64 a5)]=>some ⟨Bool,z180.F a0 a1 a2 a3 a4 a5,z180.enc⟩
 |_=>none
def z181.l0b7P (a:List (List V)) (b:Int) {R:Type} (rec:Int->Option R) (done:((Int)⊕(Bool))->Option R):Int->Option R:=λc=>(bif (decide (c<b)) then (if 0<=c/\c<(a.length:Int) then (V.asInt .i64 (((a.getD (c).toNat [])).getD 0 .undef) λd=>(V.asInt .i64 (((a.getD (c).toNat [])).getD 1 .undef) λe=>(V.asInt .i64 (((a.getD (c).toNat [])).getD 2 .undef) λg=>(V.asInt .i64 (((a.getD (c).toNat [])).getD 3 .undef) λh=>(V.asInt .i64 (((a.getD (c).toNat [])).getD 4 .undef) λj=>(V.asInt .i64 (((a.getD (c).toNat [])).getD 5 .undef) λk=>(V.asStr (((a.getD (c).toNat [])).getD 6 .undef) λm=>(V.asStr (((a.getD (c).toNat [])).getD 7 .undef) λn=>(bif (decide ((m.length:Int)>200)) then (z173.F.bind λo=>(done (.inr o))) else (if 0<=c/\c<(a.length:Int) then (V.asInt .i64 (((a.getD (c).toNat [])).getD 0 .undef) λp=>(V.asInt .i64 (((a.getD (c).toNat [])).getD 1 .undef) λq=>(V.asInt .i64 (((a.getD (c).toNat [])).getD 2 .undef) λr=>(V.asInt .i64 (((a.getD (c).toNat [])).getD 3 .undef) λs=>(V.asInt .i64 (((a.getD (c).toNat [])).getD 4 .undef) λt=>(V.asInt .i64 (((a.getD (c).toNat [])).getD 5 .undef) λu=>(V.asStr (((a.getD (c).toNat [])).getD 6 .undef) λv=>(V.asStr (((a.getD (c).toNat [])).getD 7 .undef) λw=>(bif (decide ((w.length:Int)>200)) then (z173.F.bind λx=>(done (.inr x))) else (rec (wr .i64 (c+1)))))))))))) else none)))))))))) else none) else (done (.inl c)))
def z181.l0b7 (a:List (List V)) (b x:Int):Option (((Int)⊕(Bool))):=lfp (λrec x=>z181.l0b7P a b rec some x) x
def z181.l6b9P (a:List (List V)) (b:List Int) (c d e g h:Int) {R:Type} (rec:Int->Option R) (done:((Int)⊕(Bool))->Option R):Int->Option R:=λj=>(bif (decide (j<c)) then (if 0<=j/\j<(b.length:Int) then ((z180.F a e g h (b.getD (j).toNat 0) d).bind λk=>(bif (!k) then (done (.inr false)) else ((z180.F a e g h (b.getD (j).toNat 0) (Int.tmod (if d>0 then d else 0) 5)).bind λm=>(bif (!m) then (done (.inr false)) else (rec (wr .i64 (j+1))))))) else none) else (done (.inl j)))
def z181.l6b9 (a:List (List V)) (b:List Int) (c d e g h x:Int):Option (((Int)⊕(Bool))):=lfp (λrec x=>z181.l6b9P a b c d e g h rec some x) x
def z181.l4P (a b:List (List V)) (c d e:Int) {R:Type} (rec:Int->Option R) (done:((Int)⊕(Bool))->Option R):Int->Option R:=λg=>(bif (decide (g<c)) then (if 0<=g/\g<(b.length:Int) then (V.asInt .i64 (((b.getD (g).toNat [])).getD 0 .undef) λh=>(V.asInt .i64 (((b.getD (g).toNat [])).getD 1 .undef) λj=>(V.asInt .i64 (((b.getD (g).toNat [])).getD 2 .undef) λk=>((z181.l6b9 a [d,(Int.tmod (if d>0 then d else 0) 3)] ((([d,(Int.tmod (if d>0 then d else 0) 3)]).length:Nat):Int) e h j k 0).bind λm=>match m with | .inl n=>(rec (wr .i64 (g+1))) | .inr o=>(done (.inr o)))))) else none) else (done (.inl g)))
def z181.l4 (a b:List (List V)) (c d e x:Int):Option (((Int)⊕(Bool))):=lfp (λrec x=>z181.l4P a b c d e rec some x) x
def z181.l2P (a:List (List V)) (b c d e g h j k m:Int) {R:Type} (rec:Int->Option R) (done:((Int)⊕(Bool))->Option R):Int->Option R:=λn=>(bif (decide (n<b)) then (if 0<=n/\n<(a.length:Int) then (V.asRecs 8 (((a.getD (n).toNat [])).getD 0 .undef) λo=>((z181.l4 o ([[(.int .i64 e),(.int .i64 g),(.int .i64 h)],[(.int .i64 j),(.int .i64 k),(.int .i64 m)]]:List (List V)) (((([[(.int .i64 e),(.int .i64 g),(.int .i64 h)],[(.int .i64 j),(.int .i64 k),(.int .i64 m)]]:List (List V))).length:Nat):Int) c d 0).bind λp=>match p with | .inl q=>(rec (wr .i64 (n+1))) | .inr r=>(done (.inr r)))) else none) else (done (.inl n)))
def z181.l2 (a:List (List V)) (b c d e g h j k m x:Int):Option (((Int)⊕(Bool))):=lfp (λrec x=>z181.l2P a b c d e g h j k m rec some x) x
def z181.j26 (r1:(List (List V))) (a6 j14:List (List V)) (a7 a8 a9 a10 a11 j24 j25 j26:Int):Option (Bool):=
 ((z181.l2 ([[(.recs false 8 r1)],[(.recs false 8 (a6.take ((if 4<(((a6).length:Nat):Int) then 4 else (((a6).length:Nat):Int))).toNat))],[(.recs false 8 j14)]]:List (List V)) (((([[(.recs false 8 r1)],[(.recs false 8 (a6.take ((if 4<(((a6).length:Nat):Int) then 4 else (((a6).length:Nat):Int))).toNat))],[(.recs false 8 j14)]]:List (List V))).length:Nat):Int) a7 a8 a9 a10 a11 j24 j25 j26 0).bind λo27=>match o27 with | .inl p28=>(z173.F.bind λr30=>(some r30)) | .inr q29=>(some q29))
def z181.j14 (r1:(List (List V))) (a12:Int) (a6 j14:List (List V)) (a7 a8 a9 a10 a11:Int):Option (Bool):=
 (bif (decide ((((r1).length:Nat):Int)>0)) then (if (0:Int)<=(0:Int)/\(0:Int)<(r1.length:Int) then (V.asInt .i64 (((r1.getD 0 [])).getD 0 .undef) λc15=>(V.asInt .i64 (((r1.getD 0 [])).getD 1 .undef) λc16=>(V.asInt .i64 (((r1.getD 0 [])).getD 2 .undef) λc17=>(V.asInt .i64 (((r1.getD 0 [])).getD 3 .undef) λc18=>(V.asInt .i64 (((r1.getD 0 [])).getD 4 .undef) λc19=>(V.asInt .i64 (((r1.getD 0 [])).getD 5 .undef) λc20=>(V.asStr (((r1.getD 0 [])).getD 6 .undef) λc21=>(V.asStr (((r1.getD 0 [])).getD 7 .undef) λc22=>((z100.F c15 c16 c17 (wr .i64 a12)).bind λr23=>(z181.j26 r1 a6 j14 a7 a8 a9 a10 a11 r23.1 r23.2.1 r23.2.2.1)))))))))) else none) else (z181.j26 r1 a6 j14 a7 a8 a9 a10 a11 a9 a10 a11))
def z181.j5 (j5:Bool) (r1:(List (List V))) (a6:List (List V)) (a13 a12 a7 a8 a9 a10 a11:Int):Option (Bool):=
 (bif j5 then (if (((([]++r1)).length:Nat):Int)=0 then none else (if (0:Int)<=(0:Int)/\(0:Int)<((a6.take ((if 4<(((a6).length:Nat):Int) then 4 else (((a6).length:Nat):Int))).toNat).length:Int) then (V.asInt .i64 ((((a6.take ((if 4<(((a6).length:Nat):Int) then 4 else (((a6).length:Nat):Int))).toNat).getD 0 [])).getD 0 .undef) λc6=>(V.asInt .i64 ((((a6.take ((if 4<(((a6).length:Nat):Int) then 4 else (((a6).length:Nat):Int))).toNat).getD 0 [])).getD 1 .undef) λc7=>(V.asInt .i64 ((((a6.take ((if 4<(((a6).length:Nat):Int) then 4 else (((a6).length:Nat):Int))).toNat).getD 0 [])).getD 2 .undef) λc8=>(V.asInt .i64 ((((a6.take ((if 4<(((a6).length:Nat):Int) then 4 else (((a6).length:Nat):Int))).toNat).getD 0 [])).getD 3 .undef) λc9=>(V.asInt .i64 ((((a6.take ((if 4<(((a6).length:Nat):Int) then 4 else (((a6).length:Nat):Int))).toNat).getD 0 [])).getD 4 .undef) λc10=>(V.asInt .i64 ((((a6.take ((if 4<(((a6).length:Nat):Int) then 4 else (((a6).length:Nat):Int))).toNat).getD 0 [])).getD 5 .undef) λc11=>(V.asStr ((((a6.take ((if 4<(((a6).length:Nat):Int) then 4 else (((a6).length:Nat):Int))).toNat).getD 0 [])).getD 6 .undef) λc12=>(V.asStr ((((a6.take ((if 4<(((a6).length:Nat):Int) then 4 else (((a6).length:Nat):Int))).toNat).getD 0 [])).getD 7 .undef) λc13=>(if 0<=(Int.tmod (wr .i64 a13) (((([]++r1)).length:Nat):Int))/\(Int.tmod (wr .i64 a13) (((([]++r1)).length:Nat):Int))<(([]++r1).length:Int) then (if ((Int.tmod (wr .i64 a13) (((([]++r1)).length:Nat):Int))).toNat<([]++r1).length then (z181.j14 r1 a12 a6 (([]++r1).set ((Int.tmod (wr .i64 a13) (((([]++r1)).length:Nat):Int))).toNat (((((((((([]++r1).getD ((Int.tmod (wr .i64 a13) (((([]++r1)).length:Nat):Int))).toNat []).set 0 (.int .i64 c6)).set 1 (.int .i64 c7)).set 2 (.int .i64 c8)).set 3 (.int .i64 c9)).set 4 (.int .i64 c10)).set 5 (.int .i64 c11)).set 6 (.str c12)).set 7 (.str c13))) a7 a8 a9 a10 a11) else none) else none))))))))) else none)) else (z181.j14 r1 a12 a6 ([]++r1) a7 a8 a9 a10 a11))
def z181.F (a0 a1 a2:Int) (a3 a4 a5:List Int) (a6:List (List V)) (a7 a8 a9 a10 a11 a12 a13:Int):Option (Bool):=
 ((z144.F a0 a1 a2 a3 a4 a5).bind λr1=>(if 0<=(if 4<(((a6).length:Nat):Int) then 4 else (((a6).length:Nat):Int))/\(if 4<(((a6).length:Nat):Int) then 4 else (((a6).length:Nat):Int))<=(a6.length:Int) then ((z181.l0b7 (a6.take ((if 4<(((a6).length:Nat):Int) then 4 else (((a6).length:Nat):Int))).toNat) ((((a6.take ((if 4<(((a6).length:Nat):Int) then 4 else (((a6).length:Nat):Int))).toNat)).length:Nat):Int) 0).bind λo2=>match o2 with | .inl p3=>(if (([]:List (List V)).length+(r1).length)*80<=140737488355328 then (bif (decide ((((([]++r1)).length:Nat):Int)>0)) then (z181.j5 (decide (((((a6.take ((if 4<(((a6).length:Nat):Int) then 4 else (((a6).length:Nat):Int))).toNat)).length:Nat):Int)>0)) r1 a6 a13 a12 a7 a8 a9 a10 a11) else (z181.j5 false r1 a6 a13 a12 a7 a8 a9 a10 a11)) else none) | .inr q4=>(some q4)) else none))
def z181.enc (r:Bool):V:=(.bool r)
def z181.pack:List V->Option Pack
 |[(.agg [(.int .i64 a0),(.int .i64 a1),(.int .i64 a2),(.ints _ .u8 a3),(.ints _ .u32 a4),(.ints _ .u16 a5)]),(.recs _ 8 a6),(.agg [(.int .i64 a7),(.int .i64 a8),(.int .i64 a9),(.int .i64 a10),(.int .i64 a11),(.int .i16 a12),(.int .u8 a13)])]=>some ⟨Bool,z181.F a0 a1 a2 a3 a4 a5 a6 a7 a8 a9 a10 a11 a12 a13,z181.enc⟩
 |_=>none
end
end Go.Proofs.YtgjncgiekniniaaGreatDoor.A
end
section
set_option maxRecDepth 100000
namespace Go.Proofs.YtgjncgiekniniaaGreatDoor.A
open Go
noncomputable section
def z10.C:Ctx where
 T:=tab
def z10.dec:V->Option (Bool)
 |(.bool x0)=>some x0
 |_=>none
theorem z10.link (a0:Int):z10.C.evTop 219 (ifun Tryz.f219) [(.int .i64 a0)] z10.dec=z10.F a0:=by kernel_rfl
def z15.l2aash:Env×Store:=((.ints false .i64 [])::(.ints false .i64 []) :: .undef :: .undef::(.sref 0 0)::(.sref 1 0)::(.int .i64 0)::(.int .i64 0)::(.int .i64 0)::un 54 [],[(.arr 0 true 3 (.ints false .i64 [])),(.arr 0 false 3 (.ints false .i64 []))])
def z15.l2aaout0 (a b:List Int) (c d e:Int) (g h:List Int) (o:Int×Int×(List Int)):X×Env×Store:=((.exit 2),Qb z15.l2aash [.li a,.li b,.i c,.i o.1,.i o.2.1,.li g,.li o.2.2])
def z15.l2aapack:List Leaf->Option LPack
 |[.li a,.li b,.i c,.i d,.i e,.li g,.li h]=>some (.one _ (z15.l2aa a b c (d,e,h)) (z15.l2aaout0 a b c d e g h))
 |_=>none
def z15.l0sh:Env×Store:=((.ints false .i64 [])::(.ints false .i64 []) :: .undef :: .undef::(.sref 0 0)::(.sref 1 0)::(.int .i64 0)::un 56 [],[(.arr 0 true 3 (.ints false .i64 [])),(.arr 0 false 3 (.ints false .i64 []))])
def z15.l0out0 (a b:List Int) (c:Int) (d e:List Int) (o:Int×(List Int)):X×Env×Store:=((.exit 0),Qb z15.l0sh [.li a,.li b,.i o.1,.li d,.li o.2])
def z15.l0pack:List Leaf->Option LPack
 |[.li a,.li b,.i c,.li d,.li e]=>some (.one _ (z15.l0 a b (c,e)) (z15.l0out0 a b c d e))
 |_=>none
def z15.C:Ctx where
 T:=tab
 draws:=λf i=>match f,i with|208,10=>([(38,[(5,0)],0),(39,[(6,0)],0),(40,[(8,0)],0),(41,[(38,2),(39,3)],6),(42,[(37,1),(40,4)],15),(43,[(41,5)],31),(44,[(0,0)],0),(45,[(6,0)],0),(46,[(43,7),(44,8)],192),(47,[(45,9)],448),(48,[(9,0)],0),(49,[(46,10),(47,11)],1984),(50,[(42,6),(48,12)],4095),(51,[(7,0)],0),(52,[(49,13),(50,14)],16383),(11,[(51,15)],32767)],4503462188418048)|_,_=>([],0)
 call:=λg args=>match g with|234=>z13.pack args|235=>z14.pack args|_=>none
 keep:=λf i=>match f,i with|208,2=>([0,1,4,5,6,7,8],[0,1],[])|208,0=>([0,1,4,5,6,29,30],[0,1],[])|_,_=>([],[],[])
 keepE:=λf i=>match f,i with|208,2=>([0,1,4,5,6,7,8],[0,1],[])|208,0=>([0,1,4,5,6,29,30],[0,1],[])|_,_=>([],[],[])
 keepR:=λf i=>match f,i with|208,2=>([4],[0,1],[4])|208,0=>([4],[0,1],[4])|_,_=>([],[],[])
 L:=λf i b st=>match f,i,b with|208,2,0=>(matchSt z15.l2aash st).bind z15.l2aapack|208,0,0=>(matchSt z15.l0sh st).bind z15.l0pack|_,_,_=>none
def z15.dec:V->Option ((List Int))
 |(.ints _ .i64 x0)=>some x0
 |_=>none
theorem z15.l2aa_link (R:Type) (k:Env×Store->Option R) (d:X×Env×Store->Option R) (a b:List Int) (c e g:Int) (h j:List Int) :
  z15.C.loopP 208 2 (Qf 2 (ifun Tryz.f208).body) 2 k d (Qb z15.l2aash [.li a,.li b,.i c,.i e,.i g,.li h,.li j]) =
  z15.l2aaP a b c (λx'=>k (Qb z15.l2aash [.li a,.li b,.i c,.i x'.1,.i x'.2.1,.li h,.li x'.2.2])) (λo=>d (z15.l2aaout0 a b c e g h j o)) (e,g,j):=by kernel_rfl
theorem z15.l0_link (R:Type) (k:Env×Store->Option R) (d:X×Env×Store->Option R) (a b:List Int) (c:Int) (e g:List Int) :
  z15.C.loopP 208 0 (Qf 0 (ifun Tryz.f208).body) 2 k d (Qb z15.l0sh [.li a,.li b,.i c,.li e,.li g]) =
  z15.l0P a b (λx'=>k (Qb z15.l0sh [.li a,.li b,.i x'.1,.li e,.li x'.2])) (λo=>d (z15.l0out0 a b c e g o)) (c,g):=by kernel_rfl
theorem z15.link (a0 a1:List Int):z15.C.evTop 208 (ifun Tryz.f208) [(.ints false .i64 a0),(.ints false .i64 a1)] z15.dec=z15.F a0 a1:=by kernel_rfl
def z95.l0sh:Env×Store:=(.undef :: .undef::(.int .i64 0)::(.int .i64 0) :: .undef :: .undef::(.ints false .i64 [])::(.int .i64 0)::(.int .i64 0)::un 9 [],[])
def z95.l0so1:Env×Store:=(.undef :: .undef::(.int .i64 0)::un 15 [],[])
def z95.l0out0 (a b:Int) (c:List Int) (d e o:Int):X×Env×Store:=((.exit 0),Qb z95.l0sh [.i a,.i b,.li c,.i d,.i o])
def z95.l0out1 (a b:Int) (c:List Int) (d e o:Int):X×Env×Store:=(.ret,Qb z95.l0so1 [.i o])
def z95.l0pack:List Leaf->Option LPack
 |[.i a,.i b,.li c,.i d,.i e]=>some (.two _ _ (z95.l0 b c d e) (z95.l0out0 a b c d e) (z95.l0out1 a b c d e))
 |_=>none
def z95.C:Ctx where
 T:=tab
 keep:=λf i=>match f,i with|145,0=>([2,3,6,7,8],[],[])|_,_=>([],[],[])
 keepE:=λf i=>match f,i with|145,0=>([2,3,6,7,8],[],[])|_,_=>([],[],[])
 keepR:=λf i=>match f,i with|145,0=>([2],[],[2])|_,_=>([],[],[])
 L:=λf i b st=>match f,i,b with|145,0,0=>(matchSt z95.l0sh st).bind z95.l0pack|_,_,_=>none
def z95.dec:V->Option (Int)
 |(.int .i64 x0)=>some x0
 |_=>none
theorem z95.l0_link (R:Type) (k:Env×Store->Option R) (d:X×Env×Store->Option R) (a b:Int) (c:List Int) (e g:Int) :
  z95.C.loopP 145 0 (Qf 0 (ifun Tryz.f145).body) 0 k d (Qb z95.l0sh [.i a,.i b,.li c,.i e,.i g]) =
  z95.l0P b c e (λx'=>k (Qb z95.l0sh [.i a,.i b,.li c,.i e,.i x'])) (λo=>match o with | .inl o=>d (z95.l0out0 a b c e g o) | .inr o=>d (z95.l0out1 a b c e g o)) g:=by kernel_rfl
theorem z95.link (a0:List Int):z95.C.evTop 145 (ifun Tryz.f145) [(.ints false .i64 a0)] z95.dec=z95.F a0:=by kernel_rfl
def z96.C:Ctx where
 T:=tab
 draws:=λf i=>match f,i with|57,1=>([(6,[(2,0)],0),(7,[(5,1)],1),(8,[(3,0)],0),(9,[(7,3)],4),(10,[(6,2),(8,4)],15),(11,[(2,0)],0),(12,[(10,6)],32),(13,[(3,0)],0),(14,[(12,8)],128),(15,[(11,7),(13,9)],511),(16,[(2,0)],0),(17,[(15,11)],1024),(18,[(3,0)],0),(19,[(17,13)],4096),(20,[(16,12),(18,14)],16383),(21,[(9,5),(14,10),(19,15)],32767),(22,[(20,16)],65535),(5,[(21,17)],131071)],4194288)|_,_=>([],0)
 call:=λg args=>match g with|146=>z26.pack args|145=>z95.pack args|_=>none
def z96.dec:V->Option (Int)
 |(.int .i64 x0)=>some x0
 |_=>none
theorem z96.link (a0 a1 a2 a3 a4 a5:Int):z96.C.evTop 57 (ifun Tryz.f57) [(.agg [(.int .i64 a0),(.int .i64 a1),(.int .i64 a2)]),(.agg [(.int .i64 a3),(.int .i64 a4),(.int .i64 a5)])] z96.dec=z96.F a0 a1 a2 a3 a4 a5:=by kernel_rfl
def z101.l2sh:Env×Store:=((.str ([]:List UInt8)) :: .undef::(.sref 0 0)::(.sref 1 0)::(.int .i64 0)::(.int .i64 0)::(.int .i64 0)::un 28 [],[(.arr 0 true 3 (.ints false .i64 [])),(.arr 0 true 3 (.ints false .i64 []))])
def z101.l2out0 (a:List UInt8) (b c d:Int) (e g:List Int) (o:Int×Int):X×Env×Store:=((.exit 2),Qb z101.l2sh [.s a,.i b,.i o.1,.i o.2,.li e,.li g])
def z101.l2pack:List Leaf->Option LPack
 |[.s a,.i b,.i c,.i d,.li e,.li g]=>some (.one _ (z101.l2 a b (c,d)) (z101.l2out0 a b c d e g))
 |_=>none
def z101.l0sh:Env×Store:=((.str ([]:List UInt8)) :: .undef::(.sref 0 0)::(.sref 1 0)::(.int .i64 0)::un 30 [],[(.arr 0 true 3 (.ints false .i64 [])),(.arr 0 true 3 (.ints false .i64 []))])
def z101.l0out0 (a:List UInt8) (b:Int) (c d:List Int) (o:Int×(List Int)):X×Env×Store:=((.exit 0),Qb z101.l0sh [.s a,.i o.1,.li c,.li o.2])
def z101.l0pack:List Leaf->Option LPack
 |[.s a,.i b,.li c,.li d]=>some (.one _ (z101.l0 a (b,d)) (z101.l0out0 a b c d))
 |_=>none
def z101.C:Ctx where
 T:=tab
 call:=λg args=>match g with|235=>z14.pack args|_=>none
 keep:=λf i=>match f,i with|192,2=>([0,2,3,4,5,6],[0,1],[])|192,0=>([0,2,3,4],[0,1],[])|_,_=>([],[],[])
 keepE:=λf i=>match f,i with|192,2=>([0,2,3,4,5,6],[0,1],[])|192,0=>([0,2,3,4],[0,1],[])|_,_=>([],[],[])
 keepR:=λf i=>match f,i with|192,2=>([2],[0,1],[2])|192,0=>([2],[0,1],[2])|_,_=>([],[],[])
 L:=λf i b st=>match f,i,b with|192,2,0=>(matchSt z101.l2sh st).bind z101.l2pack|192,0,0=>(matchSt z101.l0sh st).bind z101.l0pack|_,_,_=>none
def z101.dec:V->Option ((List Int))
 |(.ints _ .i64 x0)=>some x0
 |_=>none
theorem z101.l2_link (R:Type) (k:Env×Store->Option R) (d:X×Env×Store->Option R) (a:List UInt8) (b c e:Int) (g h:List Int) :
  z101.C.loopP 192 2 (Qf 2 (ifun Tryz.f192).body) 2 k d (Qb z101.l2sh [.s a,.i b,.i c,.i e,.li g,.li h]) =
  z101.l2P a b (λx'=>k (Qb z101.l2sh [.s a,.i b,.i x'.1,.i x'.2,.li g,.li h])) (λo=>d (z101.l2out0 a b c e g h o)) (c,e):=by kernel_rfl
theorem z101.l0_link (R:Type) (k:Env×Store->Option R) (d:X×Env×Store->Option R) (a:List UInt8) (b:Int) (c e:List Int) :
  z101.C.loopP 192 0 (Qf 0 (ifun Tryz.f192).body) 2 k d (Qb z101.l0sh [.s a,.i b,.li c,.li e]) =
  z101.l0P a (λx'=>k (Qb z101.l0sh [.s a,.i x'.1,.li c,.li x'.2])) (λo=>d (z101.l0out0 a b c e o)) (b,e):=by kernel_rfl
theorem z101.link (a0:List UInt8):z101.C.evTop 192 (ifun Tryz.f192) [(.str a0)] z101.dec=z101.F a0:=by kernel_rfl
def z104.C:Ctx where
 T:=tab
 call:=λg args=>match g with|60=>z9.pack args|196=>z103.pack args|103=>z102.pack args|_=>none
def z104.dec:V->Option ((List Int)×Bool×Int)
 |(.tup [(.agg [(.ints _ .i64 x0),(.bool x1)]),(.int .i64 x2)])=>some (x0,x1,x2)
 |_=>none
theorem z104.link (a0:List UInt8):z104.C.evTop 115 (ifun Tryz.f115) [(.str a0)] z104.dec=z104.F a0:=by kernel_rfl
def z114.C:Ctx where
 T:=tab
 call:=λg args=>match g with|60=>z9.pack args|115=>z104.pack args|116=>z105.pack args|113=>z7.pack args|117=>z113.pack args|_=>none
def z114.dec:V->Option ((List Int)×Bool×Int)
 |(.tup [(.agg [(.ints _ .i64 x0),(.bool x1)]),(.int .i64 x2)])=>some (x0,x1,x2)
 |_=>none
theorem z114.link (a0:List UInt8):z114.C.evTop 37 (ifun Tryz.f37) [(.str a0)] z114.dec=z114.F a0:=by kernel_rfl
def z119.C:Ctx where
 T:=tab
 call:=λg args=>match g with|60=>z9.pack args|205=>z118.pack args|_=>none
def z119.dec:V->Option ((List Int)×Bool×(List Int))
 |(.agg [(.ints _ .i64 x0),(.bool x1),(.ints _ .i64 x2)])=>some (x0,x1,x2)
 |_=>none
theorem z119.link (a0 a1:Int):z119.C.evTop 125 (ifun Tryz.f125) [(.int .i64 a0),(.int .i64 a1)] z119.dec=z119.F a0 a1:=by kernel_rfl
def z121.C:Ctx where
 T:=tab
 call:=λg args=>match g with|116=>z105.pack args|206=>z117.pack args|_=>none
def z121.dec:V->Option ((List Int)×Bool×(List Int))
 |(.agg [(.ints _ .i64 x0),(.bool x1),(.ints _ .i64 x2)])=>some (x0,x1,x2)
 |_=>none
theorem z121.link (a0:List Int) (a1:Bool) (a2:Int):z121.C.evTop 127 (ifun Tryz.f127) [(.agg [(.ints false .i64 a0),(.bool a1),(.int .i64 a2)])] z121.dec=z121.F a0 a1 a2:=by kernel_rfl
def z123.C:Ctx where
 T:=tab
 call:=λg args=>match g with|207=>z122.pack args|117=>z113.pack args|_=>none
def z123.dec:V->Option (Int)
 |(.int .i64 x0)=>some x0
 |_=>none
theorem z123.link (a0:List Int) (a1:Bool) (a2 a3:List Int) (a4:Bool) (a5:List Int):z123.C.evTop 128 (ifun Tryz.f128) [(.agg [(.ints false .i64 a0),(.bool a1),(.ints false .i64 a2)]),(.agg [(.ints false .i64 a3),(.bool a4),(.ints false .i64 a5)])] z123.dec=z123.F a0 a1 a2 a3 a4 a5:=by kernel_rfl
def z132.l0sh:Env×Store:=(un 4 ((.int .i64 0)::(.ints false .i64 [])::(.ints false .i64 [])::(.int .i64 0)::un 36 []),[.dead,.dead])
def z132.l0so1:Env×Store:=(un 4 ((.int .i64 0)::un 39 []),[.dead,.dead])
def z132.l0out0 (a:Int) (b c:List Int) (d o:Int):X×Env×Store:=((.exit 0),Qb z132.l0sh [.i a,.li b,.li c,.i o])
def z132.l0out1 (a:Int) (b c:List Int) (d o:Int):X×Env×Store:=(.ret,Qb z132.l0so1 [.i o])
def z132.l0pack:List Leaf->Option LPack
 |[.i a,.li b,.li c,.i d]=>some (.two _ _ (z132.l0 b c d) (z132.l0out0 a b c d) (z132.l0out1 a b c d))
 |_=>none
def z132.C:Ctx where
 T:=tab
 draws:=λf i=>match f,i with|81,6=>([(27,[(5,0)],0),(28,[(7,0)],0),(29,[(26,1),(27,2)],3),(30,[(28,3)],7),(31,[(6,0)],0),(32,[(7,0)],0),(33,[(30,5),(31,6)],48),(34,[(32,7)],112),(35,[(29,4),(33,8)],255)],34292629504)|81,8=>([(36,[(5,0)],0),(37,[(7,0)],0),(38,[(35,1),(36,2)],3),(39,[(37,3)],7),(40,[(6,0)],0),(41,[(7,0)],0),(42,[(39,5),(40,6)],48),(43,[(41,7)],112),(44,[(38,4),(42,8)],255)],17557826306048)|_,_=>([],0)
 keep:=λf i=>match f,i with|81,0=>([4,5,6,7],[],[])|_,_=>([],[],[])
 keepE:=λf i=>match f,i with|81,0=>([4,5,6,7],[],[])|_,_=>([],[],[])
 keepR:=λf i=>match f,i with|81,0=>([4],[],[4])|_,_=>([],[],[])
 L:=λf i b st=>match f,i,b with|81,0,0=>(matchSt z132.l0sh st).bind z132.l0pack|_,_,_=>none
def z132.dec:V->Option (Int)
 |(.int .i64 x0)=>some x0
 |_=>none
theorem z132.l0_link (R:Type) (k:Env×Store->Option R) (d:X×Env×Store->Option R) (a:Int) (b c:List Int) (e:Int) :
  z132.C.loopP 81 0 (Qf 0 (ifun Tryz.f81).body) 2 k d (Qb z132.l0sh [.i a,.li b,.li c,.i e]) =
  z132.l0P b c (λx'=>k (Qb z132.l0sh [.i a,.li b,.li c,.i x'])) (λo=>match o with | .inl o=>d (z132.l0out0 a b c e o) | .inr o=>d (z132.l0out1 a b c e o)) e:=by kernel_rfl
theorem z132.link (a0 a1 a2 a3 a4 a5:Int):z132.C.evTop 81 (ifun Tryz.f81) [(.agg [(.int .i64 a0),(.int .i64 a1),(.int .i64 a2)]),(.agg [(.int .i64 a3),(.int .i64 a4),(.int .i64 a5)])] z132.dec=z132.F a0 a1 a2 a3 a4 a5:=by kernel_rfl
def z145.l0sh:Env×Store:=((.recs false 8 []) :: .undef::(.int .i64 0)::(.cptr [(.int .i64 0),(.int .i64 0),(.int .i64 0),(.int .i64 0),(.int .i64 0),(.int .i64 0),(.str ([]:List UInt8)),(.str ([]:List UInt8))])::un 3 ((.recs false 8 [])::(.int .i64 0)::(.int .i64 0)::un 14 []),[.dead,.dead,.dead])
def z145.l0so1:Env×Store:=(.undef :: .undef::(.int .i64 0)::un 21 [],[.dead,.dead,.dead])
def z145.l0out0 (a:List (List V)) (b c d e g h j:Int) (k m:List UInt8) (n:List (List V)) (p q:Int) (o:Int×Int×Int×Int×Int×Int×(List UInt8)×(List UInt8)×Int):X×Env×Store:=((.exit 0),Qb z145.l0sh [.lr a,.i b,.i o.1,.i o.2.1,.i o.2.2.1,.i o.2.2.2.1,.i o.2.2.2.2.1,.i o.2.2.2.2.2.1,.s o.2.2.2.2.2.2.1,.s o.2.2.2.2.2.2.2.1,.lr n,.i p,.i o.2.2.2.2.2.2.2.2])
def z145.l0out1 (a:List (List V)) (b c d e g h j:Int) (k m:List UInt8) (n:List (List V)) (p q o:Int):X×Env×Store:=(.ret,Qb z145.l0so1 [.i o])
def z145.l0pack:List Leaf->Option LPack
 |[.lr a,.i b,.i c,.i d,.i e,.i g,.i h,.i j,.s k,.s m,.lr n,.i o,.i p]=>some (.two _ _ (z145.l0 a n o (c,d,e,g,h,j,k,m,p)) (z145.l0out0 a b c d e g h j k m n o p) (z145.l0out1 a b c d e g h j k m n o p))
 |_=>none
def z145.l0ash:Env×Store:=((.recs false 8 []) :: .undef::(.int .i64 0)::(.cptr [(.int .i64 0),(.int .i64 0),(.int .i64 0),(.int .i64 0),(.int .i64 0),(.int .i64 0),(.str ([]:List UInt8)),(.str ([]:List UInt8))])::un 3 ((.recs false 8 [])::(.int .i64 0)::(.int .i64 0)::un 14 []),[.dead,.dead,.dead,.dead])
def z145.l0aso1:Env×Store:=(.undef :: .undef::(.int .i64 0)::un 21 [],[.dead,.dead,.dead,.dead])
def z145.l0aout0 (a:List (List V)) (b c d e g h j:Int) (k m:List UInt8) (n:List (List V)) (p q:Int) (o:Int×Int×Int×Int×Int×Int×(List UInt8)×(List UInt8)×Int):X×Env×Store:=((.exit 0),Qb z145.l0ash [.lr a,.i b,.i o.1,.i o.2.1,.i o.2.2.1,.i o.2.2.2.1,.i o.2.2.2.2.1,.i o.2.2.2.2.2.1,.s o.2.2.2.2.2.2.1,.s o.2.2.2.2.2.2.2.1,.lr n,.i p,.i o.2.2.2.2.2.2.2.2])
def z145.l0aout1 (a:List (List V)) (b c d e g h j:Int) (k m:List UInt8) (n:List (List V)) (p q o:Int):X×Env×Store:=(.ret,Qb z145.l0aso1 [.i o])
def z145.l0apack:List Leaf->Option LPack
 |[.lr a,.i b,.i c,.i d,.i e,.i g,.i h,.i j,.s k,.s m,.lr n,.i o,.i p]=>some (.two _ _ (z145.l0a a n o (c,d,e,g,h,j,k,m,p)) (z145.l0aout0 a b c d e g h j k m n o p) (z145.l0aout1 a b c d e g h j k m n o p))
 |_=>none
def z145.C:Ctx where
 T:=tab
 draws:=λf i=>match f,i with|213,3=>([(22,[(2,0)],0),(23,[(21,1)],1),(24,[(2,0)],0),(25,[(23,3)],4),(26,[(22,2),(24,4)],15),(27,[(25,5)],31),(28,[(26,6)],63),(29,[(1,0),(27,7)],127),(30,[(28,8),(27,7)],255),(31,[(29,9),(27,7)],511),(32,[(2,0),(30,10)],1023),(33,[(31,11),(30,10)],2047),(34,[(1,0),(30,10)],1023),(35,[(33,13),(30,10)],5119),(36,[(34,14),(30,10)],13311),(37,[(35,15),(30,10)],29695),(38,[(32,12),(36,16),(30,10)],65535),(39,[(30,10),(37,17),(27,7)],131071),(40,[(27,7),(38,18)],262143),(21,[(39,19)],524287)],1099510579200)|_,_=>([],0)
 call:=λg args=>match g with|142=>z89.pack args|57=>z96.pack args|36=>z46.pack args|38=>z76.pack args|_=>none
 inl:=λg=>match g with|213=>some (ifun Tryz.f213)|_=>none
 keep:=λf i=>match f,i with|147,0=>([0,2,3,7,8,9],[],[])|_,_=>([],[],[])
 keepE:=λf i=>match f,i with|147,0=>([0,2,3,7,8,9],[],[])|_,_=>([],[],[])
 keepR:=λf i=>match f,i with|147,0=>([2],[],[2])|_,_=>([],[],[])
 unroll:=λf i=>match f,i with|147,0=>1|_,_=>0
 L:=λf i b st=>match f,i,b with|147,0,0=>(orP ((matchSt z145.l0sh st).bind z145.l0pack) ((matchSt z145.l0ash st).bind z145.l0apack))|_,_,_=>none
def z145.dec:V->Option (Int)
 |(.int .i64 x0)=>some x0
 |_=>none
theorem z145.l0_link (R:Type) (k:Env×Store->Option R) (d:X×Env×Store->Option R) (a:List (List V)) (b c e g h j m:Int) (n p:List UInt8) (q:List (List V)) (r t:Int) :
  z145.C.loopP 147 0 (Qf 0 (ifun Tryz.f147).body) 3 k d (Qb z145.l0sh [.lr a,.i b,.i c,.i e,.i g,.i h,.i j,.i m,.s n,.s p,.lr q,.i r,.i t]) =
  z145.l0P a q r (λx'=>k (Qb z145.l0sh [.lr a,.i b,.i x'.1,.i x'.2.1,.i x'.2.2.1,.i x'.2.2.2.1,.i x'.2.2.2.2.1,.i x'.2.2.2.2.2.1,.s x'.2.2.2.2.2.2.1,.s x'.2.2.2.2.2.2.2.1,.lr q,.i r,.i x'.2.2.2.2.2.2.2.2])) (λo=>match o with | .inl o=>d (z145.l0out0 a b c e g h j m n p q r t o) | .inr o=>d (z145.l0out1 a b c e g h j m n p q r t o)) (c,e,g,h,j,m,n,p,t):=by kernel_rfl
theorem z145.l0a_link (R:Type) (k:Env×Store->Option R) (d:X×Env×Store->Option R) (a:List (List V)) (b c e g h j m:Int) (n p:List UInt8) (q:List (List V)) (r t:Int) :
  z145.C.loopP 147 0 (Qf 0 (ifun Tryz.f147).body) 4 k d (Qb z145.l0ash [.lr a,.i b,.i c,.i e,.i g,.i h,.i j,.i m,.s n,.s p,.lr q,.i r,.i t]) =
  z145.l0aP a q r (λx'=>k (Qb z145.l0ash [.lr a,.i b,.i x'.1,.i x'.2.1,.i x'.2.2.1,.i x'.2.2.2.1,.i x'.2.2.2.2.1,.i x'.2.2.2.2.2.1,.s x'.2.2.2.2.2.2.1,.s x'.2.2.2.2.2.2.2.1,.lr q,.i r,.i x'.2.2.2.2.2.2.2.2])) (λo=>match o with | .inl o=>d (z145.l0aout0 a b c e g h j m n p q r t o) | .inr o=>d (z145.l0aout1 a b c e g h j m n p q r t o)) (c,e,g,h,j,m,n,p,t):=by kernel_rfl
theorem z145.link (a0:List (List V)):z145.C.evTop 147 (ifun Tryz.f147) [(.recs false 8 a0)] z145.dec=z145.F a0:=by kernel_rfl
def z146.C:Ctx where
 T:=tab
 call:=λg args=>match g with|209=>z84.pack args|_=>none
def z146.dec:V->Option (Bool)
 |(.bool x0)=>some x0
 |_=>none
theorem z146.link (a0:Int):z146.C.evTop 148 (ifun Tryz.f148) [(.int .i64 a0)] z146.dec=z146.F a0:=by kernel_rfl
def z147.C:Ctx where
 T:=tab
 call:=λg args=>match g with|28=>z20.pack args|_=>none
def z147.dec:V->Option (Int)
 |(.int .i64 x0)=>some x0
 |_=>none
theorem z147.link (a0:List Int) (a1:Bool) (a2:List Int):z147.C.evTop 71 (ifun Tryz.f71) [(.agg [(.ints false .u64 a0),(.bool a1),(.ints false .u64 a2)])] z147.dec=z147.F a0 a1 a2:=by kernel_rfl
def z148.C:Ctx where
 T:=tab
def z148.dec:V->Option ((List Int)×Bool)
 |(.agg [(.ints _ .u64 x0),(.bool x1)])=>some (x0,x1)
 |_=>none
theorem z148.link (a0:List Int) (a1:Bool) (a2:List Int):z148.C.evTop 216 (ifun Tryz.f216) [(.agg [(.ints false .u64 a0),(.bool a1),(.ints false .u64 a2)])] z148.dec=z148.F a0 a1 a2:=by kernel_rfl
def z149.C:Ctx where
 T:=tab
 draws:=λf i=>match f,i with|217,1=>([(12,[(6,0)],0),(13,[(6,0)],0),(14,[(11,1),(12,2)],3),(15,[(7,0)],0),(16,[(13,3),(14,4)],15),(10,[(15,5)],31)],64000)|_,_=>([],0)
 call:=λg args=>match g with|99=>z24.pack args|186=>z29.pack args|188=>z60.pack args|_=>none
def z149.dec:V->Option (Bool)
 |(.bool x0)=>some x0
 |_=>none
theorem z149.link (a0:Int) (a1 a2 a3:List Int):z149.C.evTop 217 (ifun Tryz.f217) [(.int .i64 a0),(.agg [(.ints false .u64 a1)]),(.agg [(.ints false .u64 a2)]),(.agg [(.ints false .u64 a3)])] z149.dec=z149.F a0 a1 a2 a3:=by kernel_rfl
def z150.C:Ctx where
 T:=tab
 draws:=λf i=>match f,i with|150,3=>([(15,[(2,0)],0),(16,[(14,1)],1),(17,[(15,2)],3),(18,[(2,0)],0),(19,[(17,4)],15),(20,[(16,3),(18,5)],31),(14,[(19,6)],63),(21,[(13,7)],127),(22,[(13,7)],127),(23,[(13,7)],127),(7,[],0),(8,[],0),(0,[(6,11),(20,8)],3327),(0,[(7,12),(21,9)],7679),(9,[(22,10)],16383)],8380864)|150,4=>([(24,[(7,0)],0),(25,[(23,1)],1),(26,[(24,2)],3),(27,[(25,3)],7),(28,[(1,0),(26,4)],15),(29,[(6,0),(26,4)],15),(30,[(7,0),(26,4)],15),(31,[(2,0),(26,4)],15),(32,[(30,8),(26,4)],143),(33,[(27,5),(28,6),(29,7),(31,9),(26,4)],511),(34,[(26,4),(32,10)],1023)],17171480576)|150,5=>([(35,[(6,0)],0),(36,[],0),(37,[(35,2)],2),(38,[(34,1),(36,3)],7),(0,[(6,0),(37,4)],15)],257698037760)|150,6=>([(39,[(6,0)],0),(40,[(2,0)],0),(41,[(39,2)],2),(42,[(40,3)],6),(43,[(38,1),(41,4)],15),(0,[(4,0),(42,5)],31),(6,[],63)],8521215115296)|_,_=>([],0)
 call:=λg args=>match g with|214=>z79.pack args|216=>z148.pack args|92=>z59.pack args|130=>z73.pack args|162=>z68.pack args|104=>z19.pack args|217=>z149.pack args|158=>z38.pack args|99=>z24.pack args|71=>z147.pack args|91=>z21.pack args|_=>none
def z150.dec:V->Option ((List Int)×Bool×Int)
 |(.tup [(.agg [(.ints _ .u64 x0),(.bool x1)]),(.int .i64 x2)])=>some (x0,x1,x2)
 |_=>none
theorem z150.link (a0:List Int) (a1:Bool) (a2:List Int) (a3:Int):z150.C.evTop 150 (ifun Tryz.f150) [(.agg [(.ints false .u64 a0),(.bool a1),(.ints false .u64 a2)]),(.int .i64 a3)] z150.dec=z150.F a0 a1 a2 a3:=by kernel_rfl
def z153.C:Ctx where
 T:=tab
 call:=λg args=>match g with|69=>z48.pack args|176=>z71.pack args|_=>none
def z153.dec:V->Option ((List Int)×Bool×(List Int))
 |(.agg [(.ints _ .u64 x0),(.bool x1),(.ints _ .u64 x2)])=>some (x0,x1,x2)
 |_=>none
theorem z153.link (a0 a1:Int):z153.C.evTop 230 (ifun Tryz.f230) [(.int .i64 a0),(.int .i64 a1)] z153.dec=z153.F a0 a1:=by kernel_rfl
def z165.l0sh:Env×Store:=(un 5 ((.ptr 1 0)::(.ptr 2 0) :: .undef :: .undef::(.int .i64 0)::(.int .i64 0)::(.ptr 3 0)::(.int .i64 0)::un 80 []),[.dead,(.cells 41 [(.int .i64 0),(.int .i64 0),(.int .i64 0)]),(.cells 72 [(.ints false .i64 []),(.bool false),(.ints false .i64 [])]),(.cells 72 [(.ints false .i64 []),(.bool false),(.ints false .i64 [])])])
def z165.l0out0 (a c d e g h:Int) (j:List Int) (k:Bool) (m n:List Int) (p:Bool) (q:List Int) (o:Int×(List Int)×Bool×(List Int)):X×Env×Store:=((.exit 0),Qb z165.l0sh [.i a,.i c,.i o.1,.i e,.i g,.i h,.li j,.b k,.li m,.li o.2.1,.b o.2.2.1,.li o.2.2.2])
def z165.l0pack:List Leaf->Option LPack
 |[.i a,.i c,.i d,.i e,.i g,.i h,.li j,.b k,.li m,.li n,.b o,.li p]=>some (.one _ (z165.l0 a c e (d,n,o,p)) (z165.l0out0 a c d e g h j k m n o p))
 |_=>none
def z165.C:Ctx where
 T:=tab
 call:=λg args=>match g with|125=>z119.pack args|233=>z164.pack args|219=>z10.pack args|220=>z163.pack args|_=>none
 keep:=λf i=>match f,i with|166,0=>([5,6,9,10,11,12],[1,2,3],[])|_,_=>([],[],[])
 keepE:=λf i=>match f,i with|166,0=>([5,6,9,10,11,12],[1,2,3],[])|_,_=>([],[],[])
 keepR:=λf i=>match f,i with|166,0=>([6],[1,2,3],[6])|_,_=>([],[],[])
 L:=λf i b st=>match f,i,b with|166,0,0=>(matchSt z165.l0sh st).bind z165.l0pack|_,_,_=>none
def z165.dec:V->Option ((List Int)×Bool×(List Int))
 |(.agg [(.ints _ .i64 x0),(.bool x1),(.ints _ .i64 x2)])=>some (x0,x1,x2)
 |_=>none
theorem z165.l0_link (R:Type) (k:Env×Store->Option R) (d:X×Env×Store->Option R) (a c e g h j:Int) (m:List Int) (n:Bool) (p q:List Int) (r:Bool) (s:List Int) :
  z165.C.loopP 166 0 (Qf 0 (ifun Tryz.f166).body) 4 k d (Qb z165.l0sh [.i a,.i c,.i e,.i g,.i h,.i j,.li m,.b n,.li p,.li q,.b r,.li s]) =
  z165.l0P a c g (λx'=>k (Qb z165.l0sh [.i a,.i c,.i x'.1,.i g,.i h,.i j,.li m,.b n,.li p,.li x'.2.1,.b x'.2.2.1,.li x'.2.2.2])) (λo=>d (z165.l0out0 a c e g h j m n p q r s o)) (e,q,r,s):=by kernel_rfl
theorem z165.link (a0 a1 a2 a3 a4 a5 a6:Int):z165.C.evTop 166 (ifun Tryz.f166) [(.int .i64 a0),(.agg [(.int .i64 a1),(.int .i64 a2),(.int .i64 a3)]),(.agg [(.int .i64 a4),(.int .i64 a5),(.int .i64 a6)])] z165.dec=z165.F a0 a1 a2 a3 a4 a5 a6:=by kernel_rfl
def z167.C:Ctx where
 T:=tab
 call:=λg args=>match g with|131=>z16.pack args|208=>z15.pack args|206=>z117.pack args|_=>none
def z167.dec:V->Option ((List Int)×Bool×(List Int))
 |(.agg [(.ints _ .i64 x0),(.bool x1),(.ints _ .i64 x2)])=>some (x0,x1,x2)
 |_=>none
theorem z167.link (a0:List Int) (a1:Bool) (a2 a3:List Int) (a4:Bool) (a5:List Int):z167.C.evTop 168 (ifun Tryz.f168) [(.agg [(.ints false .i64 a0),(.bool a1),(.ints false .i64 a2)]),(.agg [(.ints false .i64 a3),(.bool a4),(.ints false .i64 a5)])] z167.dec=z167.F a0 a1 a2 a3 a4 a5:=by kernel_rfl
def z168.l0sh:Env×Store:=((.int .i64 0)::(.recs false 8 [])::un 3 ((.ptr 0 0)::(.ptr 1 0)::(.ptr 2 0)::(.int .i64 0)::un 73 []),[(.cells 41 [(.int .i64 0),(.int .i64 0),(.int .i64 0)]),(.cells 72 [(.ints false .i64 []),(.bool false),(.ints false .i64 [])]),(.cells 72 [(.ints false .i64 []),(.bool false),(.ints false .i64 [])])])
def z168.l0out0 (a:Int) (c:List (List V)) (d e g h:Int) (j:List Int) (k:Bool) (m n:List Int) (p:Bool) (q:List Int) (o:Int×(List Int)×Bool×(List Int)):X×Env×Store:=((.exit 0),Qb z168.l0sh [.i a,.lr c,.i o.1,.i e,.i g,.i h,.li j,.b k,.li m,.li o.2.1,.b o.2.2.1,.li o.2.2.2])
def z168.l0pack:List Leaf->Option LPack
 |[.i a,.lr c,.i d,.i e,.i g,.i h,.li j,.b k,.li m,.li n,.b o,.li p]=>some (.one _ (z168.l0 a c e g h (d,n,o,p)) (z168.l0out0 a c d e g h j k m n o p))
 |_=>none
def z168.C:Ctx where
 T:=tab
 draws:=λf i=>match f,i with|154,9=>([(36,[(1,0)],0),(37,[(8,0)],0),(38,[(35,1),(36,2)],3),(39,[(37,3)],7),(40,[(38,4)],15),(41,[(5,0)],0),(42,[(39,5),(40,6)],63),(11,[(41,7)],127)],4363686773760)|154,13=>([(63,[(0,0)],0),(64,[(1,0)],0),(65,[(8,0)],0),(66,[(63,2),(64,3)],6),(67,[(65,4)],14),(68,[(66,5)],30),(69,[(9,0)],0),(70,[(62,1),(67,6),(68,7)],127),(16,[],0),(0,[(15,9),(69,8)],511)],1175979934698983948288)|_,_=>([],0)
 call:=λg args=>match g with|125=>z119.pack args|81=>z132.pack args|37=>z114.pack args|39=>z125.pack args|166=>z165.pack args|167=>z166.pack args|168=>z167.pack args|220=>z163.pack args|_=>none
 keep:=λf i=>match f,i with|154,0=>([0,1,5,6,7,8],[0,1,2],[])|_,_=>([],[],[])
 keepE:=λf i=>match f,i with|154,0=>([0,1,5,6,7,8],[0,1,2],[])|_,_=>([],[],[])
 keepR:=λf i=>match f,i with|154,0=>([6],[0,1,2],[6])|_,_=>([],[],[])
 L:=λf i b st=>match f,i,b with|154,0,0=>(matchSt z168.l0sh st).bind z168.l0pack|_,_,_=>none
def z168.dec:V->Option ((List Int)×Bool×(List Int))
 |(.agg [(.ints _ .i64 x0),(.bool x1),(.ints _ .i64 x2)])=>some (x0,x1,x2)
 |_=>none
theorem z168.l0_link (R:Type) (k:Env×Store->Option R) (d:X×Env×Store->Option R) (a:Int) (c:List (List V)) (e g h j:Int) (m:List Int) (n:Bool) (p q:List Int) (r:Bool) (s:List Int) :
  z168.C.loopP 154 0 (Qf 0 (ifun Tryz.f154).body) 3 k d (Qb z168.l0sh [.i a,.lr c,.i e,.i g,.i h,.i j,.li m,.b n,.li p,.li q,.b r,.li s]) =
  z168.l0P a c g h j (λx'=>k (Qb z168.l0sh [.i a,.lr c,.i x'.1,.i g,.i h,.i j,.li m,.b n,.li p,.li x'.2.1,.b x'.2.2.1,.li x'.2.2.2])) (λo=>d (z168.l0out0 a c e g h j m n p q r s o)) (e,q,r,s):=by kernel_rfl
theorem z168.link (a0:Int) (a1:List (List V)) (a2 a3 a4:Int):z168.C.evTop 154 (ifun Tryz.f154) [(.int .i64 a0),(.recs false 8 a1),(.agg [(.int .i64 a2),(.int .i64 a3),(.int .i64 a4)])] z168.dec=z168.F a0 a1 a2 a3 a4:=by kernel_rfl
def z170.C:Ctx where
 T:=tab
 call:=λg args=>match g with|154=>z168.pack args|155=>z169.pack args|_=>none
def z170.dec:V->Option ((List Int)×Bool)
 |(.agg [(.ints _ .i64 x0),(.bool x1)])=>some (x0,x1)
 |_=>none
theorem z170.link (a0 a1:Int) (a2:List (List V)) (a3 a4 a5:Int):z170.C.evTop 62 (ifun Tryz.f62) [(.int .i64 a0),(.int .i64 a1),(.recs false 8 a2),(.agg [(.int .i64 a3),(.int .i64 a4),(.int .i64 a5)])] z170.dec=z170.F a0 a1 a2 a3 a4 a5:=by kernel_rfl
def z171.C:Ctx where
 T:=tab
 call:=λg args=>match g with|147=>z145.pack args|142=>z89.pack args|148=>z146.pack args|151=>z161.pack args|_=>none
def z171.dec:V->Option ((List Int)×Bool×(List Int)×Int)
 |(.tup [(.agg [(.ints _ .u64 x0),(.bool x1),(.ints _ .u64 x2)]),(.int .i64 x3)])=>some (x0,x1,x2,x3)
 |_=>none
theorem z171.link (a0:Int) (a1:List (List V)) (a2 a3 a4:Int):z171.C.evTop 66 (ifun Tryz.f66) [(.int .i64 a0),(.recs false 8 a1),(.agg [(.int .i64 a2),(.int .i64 a3),(.int .i64 a4)])] z171.dec=z171.F a0 a1 a2 a3 a4:=by kernel_rfl
def z180.l1sh:Env×Store:=((.recs false 8 []) :: .undef::(.int .i64 0)::(.int .i64 0) :: .undef::(.ptr 0 0) :: .undef :: .undef::(.bool false)::(.ptr 1 0) :: .undef::(.ptr 2 0)::(.int .i64 0)::un 75 ((.recs false 8 [])::(.int .i64 0)::(.int .i64 0)::un 37 []),[(.cells 41 [(.int .i64 0),(.int .i64 0),(.int .i64 0)]),(.cells 68 [(.ints false .u64 []),(.bool false),(.ints false .u64 [])]),(.cells 39 [(.ints false .u64 []),(.bool false)])])
def z180.l1so1:Env×Store:=(un 8 ((.bool false)::un 119 []),[(.cells 41 [(.int .i64 0),(.int .i64 0),(.int .i64 0)]),(.cells 68 [(.ints false .u64 []),(.bool false),(.ints false .u64 [])]),(.cells 39 [(.ints false .u64 []),(.bool false)])])
def z180.l1out0 (a:List (List V)) (c d:Int) (e:Bool) (g:Int) (h:List (List V)) (j k m n p:Int) (q:List Int) (r:Bool) (s t:List Int) (u:Bool) (o:Int):X×Env×Store:=((.exit 1),Qb z180.l1sh [.lr a,.i c,.i d,.b e,.i g,.lr h,.i j,.i o,.i m,.i n,.i p,.li q,.b r,.li s,.li t,.b u])
def z180.l1out1 (a:List (List V)) (c d:Int) (e:Bool) (g:Int) (h:List (List V)) (j k m n p:Int) (q:List Int) (r:Bool) (s t:List Int) (u o:Bool):X×Env×Store:=(.ret,Qb z180.l1so1 [.b o,.i m,.i n,.i p,.li q,.b r,.li s,.li t,.b u])
def z180.l1pack:List Leaf->Option LPack
 |[.lr a,.i c,.i d,.b e,.i g,.lr h,.i j,.i k,.i m,.i n,.i o,.li p,.b q,.li r,.li s,.b t]=>some (.two _ _ (z180.l1 g h j k) (z180.l1out0 a c d e g h j k m n o p q r s t) (z180.l1out1 a c d e g h j k m n o p q r s t))
 |_=>none
def z180.C:Ctx where
 T:=tab
 draws:=λf i=>match f,i with|75,23=>([(106,[(12,0)],0),(107,[(105,1)],1),(108,[(106,2)],3),(109,[(9,0),(107,3)],7),(110,[(108,4),(107,3)],15),(111,[(2,0),(107,3)],7),(112,[(0,0),(107,3)],7),(113,[(5,0),(107,3)],7),(114,[(110,6),(111,7),(112,8),(107,3)],255),(115,[(113,9),(107,3)],511),(116,[(109,5),(114,10),(107,3)],1023),(117,[(107,3),(115,11)],2047),(118,[(116,12)],4095),(119,[(11,0),(117,13)],8191),(120,[(118,14),(117,13)],16383),(121,[(2,0),(117,13)],8191),(122,[(3,0),(117,13)],8191),(123,[(0,0),(117,13)],8191),(124,[(5,0),(117,13)],8191),(125,[(120,16),(121,17),(122,18),(123,19),(117,13)],524287),(126,[(124,20),(117,13)],1048575),(127,[(119,15),(125,21),(117,13)],2097151),(128,[(117,13),(126,22)],4194303),(9,[(127,23)],8388607)],340282326356119256160033759537265639680)|_,_=>([],0)
 call:=λg args=>match g with|66=>z171.pack args|73=>z172.pack args|159=>z179.pack args|147=>z145.pack args|80=>z126.pack args|71=>z147.pack args|28=>z20.pack args|41=>z136.pack args|154=>z168.pack args|42=>z140.pack args|25=>z135.pack args|62=>z170.pack args|26=>z6.pack args|_=>none
 keep:=λf i=>match f,i with|75,1=>([0,2,3,5,8,9,11,12,88,89,90,108,109,110,111,112,113,114,115,118,119,120,121,122,123,124,125,126],[0,1,2],[])|_,_=>([],[],[])
 keepE:=λf i=>match f,i with|75,1=>([0,2,3,5,8,9,11,12,88,89,90,108,109,110,111,112,113,114,115,118,119,120,121,122,123,124,125,126],[0,1,2],[])|_,_=>([],[],[])
 keepR:=λf i=>match f,i with|75,1=>([8],[0,1,2],[8])|_,_=>([],[],[])
 L:=λf i b st=>match f,i,b with|75,1,0=>(matchSt z180.l1sh st).bind z180.l1pack|_,_,_=>none
def z180.dec:V->Option (Bool)
 |(.bool x0)=>some x0
 |_=>none
theorem z180.l1_link (R:Type) (k:Env×Store->Option R) (d:X×Env×Store->Option R) (a:List (List V)) (c e:Int) (g:Bool) (h:Int) (j:List (List V)) (m n p q r:Int) (s:List Int) (t:Bool) (u v:List Int) (w:Bool) :
  z180.C.loopP 75 1 (Qf 1 (ifun Tryz.f75).body) 3 k d (Qb z180.l1sh [.lr a,.i c,.i e,.b g,.i h,.lr j,.i m,.i n,.i p,.i q,.i r,.li s,.b t,.li u,.li v,.b w]) =
  z180.l1P h j m (λx'=>k (Qb z180.l1sh [.lr a,.i c,.i e,.b g,.i h,.lr j,.i m,.i x',.i p,.i q,.i r,.li s,.b t,.li u,.li v,.b w])) (λo=>match o with | .inl o=>d (z180.l1out0 a c e g h j m n p q r s t u v w o) | .inr o=>d (z180.l1out1 a c e g h j m n p q r s t u v w o)) n:=by kernel_rfl
theorem z180.link (a0:List (List V)) (a1 a2 a3 a4 a5:Int):z180.C.evTop 75 (ifun Tryz.f75) [(.recs false 8 a0),(.agg [(.int .i64 a1),(.int .i64 a2),(.int .i64 a3)]),(.int .i64 a4),(.int .i64 a5)] z180.dec=z180.F a0 a1 a2 a3 a4 a5:=by kernel_rfl
def z181.l0b7sh:Env×Store:=(.undef::(.recs false 8 [])::un 3 ((.ptr 1 0)::(.bool false)::(.recs false 8 [])::un 17 ((.int .i64 0)::(.int .i64 0)::un 109 [])),[.dead,(.cells 148 [(.int .i64 0),(.int .i64 0),(.int .i64 0),(.int .i64 0),(.int .i64 0),(.int .i16 0),(.int .u8 0)])])
def z181.l0b7so1:Env×Store:=(un 6 ((.bool false)::un 129 []),[.dead,(.cells 148 [(.int .i64 0),(.int .i64 0),(.int .i64 0),(.int .i64 0),(.int .i64 0),(.int .i16 0),(.int .u8 0)])])
def z181.l0b7out0 (a:List (List V)) (c:Bool) (d:List (List V)) (e g h j k m n p q o:Int):X×Env×Store:=((.exit 0),Qb z181.l0b7sh [.lr a,.b c,.lr d,.i e,.i o,.i h,.i j,.i k,.i m,.i n,.i p,.i q])
def z181.l0b7out1 (a:List (List V)) (c:Bool) (d:List (List V)) (e g h j k m n p q:Int) (o:Bool):X×Env×Store:=(.ret,Qb z181.l0b7so1 [.b o,.i h,.i j,.i k,.i m,.i n,.i p,.i q])
def z181.l0b7pack:List Leaf->Option LPack
 |[.lr a,.b c,.lr d,.i e,.i g,.i h,.i j,.i k,.i m,.i n,.i o,.i p]=>some (.two _ _ (z181.l0b7 a e g) (z181.l0b7out0 a c d e g h j k m n o p) (z181.l0b7out1 a c d e g h j k m n o p))
 |_=>none
def z181.l6b9sh:Env×Store:=(un 5 ((.ptr 1 0)::(.bool false)::un 3 ((.ptr 3 0) :: .undef::(.recs false 8 []) :: .undef::(.ptr 4 0)::un 72 ((.recs false 1 [])::(.int .i64 0)::(.int .i64 0)::un 6 ((.recs false 3 [])::(.int .i64 0)::(.int .i64 0)::un 9 ((.ints false .i64 [])::(.int .i64 0)::(.int .i64 0)::un 25 []))))),[.dead,(.cells 148 [(.int .i64 0),(.int .i64 0),(.int .i64 0),(.int .i64 0),(.int .i64 0),(.int .i16 0),(.int .u8 0)]),.dead,(.cells 41 [(.int .i64 0),(.int .i64 0),(.int .i64 0)]),(.cells 41 [(.int .i64 0),(.int .i64 0),(.int .i64 0)])])
def z181.l6b9so1:Env×Store:=(un 6 ((.bool false)::un 129 []),[.dead,(.cells 148 [(.int .i64 0),(.int .i64 0),(.int .i64 0),(.int .i64 0),(.int .i64 0),(.int .i16 0),(.int .u8 0)]),.dead,(.cells 41 [(.int .i64 0),(.int .i64 0),(.int .i64 0)]),(.cells 41 [(.int .i64 0),(.int .i64 0),(.int .i64 0)])])
def z181.l6b9out0 (a:Bool) (c d:List (List V)) (e g:Int) (h:List (List V)) (j k:Int) (m:List Int) (n p q r s t u v w x y z A B C o:Int):X×Env×Store:=((.exit 6),Qb z181.l6b9sh [.b a,.lr c,.lr d,.i e,.i g,.lr h,.i j,.i k,.li m,.i n,.i o,.i q,.i r,.i s,.i t,.i u,.i v,.i w,.i x,.i y,.i z,.i A,.i B,.i C])
def z181.l6b9out1 (a:Bool) (c d:List (List V)) (e g:Int) (h:List (List V)) (j k:Int) (m:List Int) (n p q r s t u v w x y z A B C:Int) (o:Bool):X×Env×Store:=(.ret,Qb z181.l6b9so1 [.b o,.i q,.i r,.i s,.i t,.i u,.i v,.i w,.i x,.i y,.i z,.i A,.i B,.i C])
def z181.l6b9pack:List Leaf->Option LPack
 |[.b a,.lr c,.lr d,.i e,.i g,.lr h,.i j,.i k,.li m,.i n,.i o,.i p,.i q,.i r,.i s,.i t,.i u,.i v,.i w,.i x,.i y,.i z,.i A,.i B]=>some (.two _ _ (z181.l6b9 c m n q z A B o) (z181.l6b9out0 a c d e g h j k m n o p q r s t u v w x y z A B) (z181.l6b9out1 a c d e g h j k m n o p q r s t u v w x y z A B))
 |_=>none
def z181.l4sh:Env×Store:=(un 5 ((.ptr 1 0)::(.bool false)::un 3 ((.ptr 3 0) :: .undef::(.recs false 8 [])::un 74 ((.recs false 1 [])::(.int .i64 0)::(.int .i64 0)::un 6 ((.recs false 3 [])::(.int .i64 0)::(.int .i64 0)::un 37 [])))),[.dead,(.cells 148 [(.int .i64 0),(.int .i64 0),(.int .i64 0),(.int .i64 0),(.int .i64 0),(.int .i16 0),(.int .u8 0)]),.dead,(.cells 41 [(.int .i64 0),(.int .i64 0),(.int .i64 0)])])
def z181.l4so1:Env×Store:=(un 6 ((.bool false)::un 129 []),[.dead,(.cells 148 [(.int .i64 0),(.int .i64 0),(.int .i64 0),(.int .i64 0),(.int .i64 0),(.int .i16 0),(.int .u8 0)]),.dead,(.cells 41 [(.int .i64 0),(.int .i64 0),(.int .i64 0)])])
def z181.l4out0 (a:Bool) (c d:List (List V)) (e g:Int) (h:List (List V)) (j k m n p q r s t u v w o:Int):X×Env×Store:=((.exit 4),Qb z181.l4sh [.b a,.lr c,.lr d,.i e,.i g,.lr h,.i j,.i o,.i m,.i n,.i p,.i q,.i r,.i s,.i t,.i u,.i v,.i w])
def z181.l4out1 (a:Bool) (c d:List (List V)) (e g:Int) (h:List (List V)) (j k m n p q r s t u v w:Int) (o:Bool):X×Env×Store:=(.ret,Qb z181.l4so1 [.b o,.i m,.i n,.i p,.i q,.i r,.i s,.i t,.i u,.i v,.i w])
def z181.l4pack:List Leaf->Option LPack
 |[.b a,.lr c,.lr d,.i e,.i g,.lr h,.i j,.i k,.i m,.i n,.i o,.i p,.i q,.i r,.i s,.i t,.i u,.i v]=>some (.two _ _ (z181.l4 c h j m n k) (z181.l4out0 a c d e g h j k m n o p q r s t u v) (z181.l4out1 a c d e g h j k m n o p q r s t u v))
 |_=>none
def z181.l2sh:Env×Store:=(un 5 ((.ptr 1 0)::(.bool false)::un 3 ((.ptr 3 0)::un 76 ((.recs false 1 [])::(.int .i64 0)::(.int .i64 0)::un 46 []))),[.dead,(.cells 148 [(.int .i64 0),(.int .i64 0),(.int .i64 0),(.int .i64 0),(.int .i64 0),(.int .i16 0),(.int .u8 0)]),.dead,(.cells 41 [(.int .i64 0),(.int .i64 0),(.int .i64 0)])])
def z181.l2so1:Env×Store:=(un 6 ((.bool false)::un 129 []),[.dead,(.cells 148 [(.int .i64 0),(.int .i64 0),(.int .i64 0),(.int .i64 0),(.int .i64 0),(.int .i16 0),(.int .u8 0)]),.dead,(.cells 41 [(.int .i64 0),(.int .i64 0),(.int .i64 0)])])
def z181.l2out0 (a:Bool) (c:List (List V)) (d e g h j k m n p q r s o:Int):X×Env×Store:=((.exit 2),Qb z181.l2sh [.b a,.lr c,.i d,.i o,.i g,.i h,.i j,.i k,.i m,.i n,.i p,.i q,.i r,.i s])
def z181.l2out1 (a:Bool) (c:List (List V)) (d e g h j k m n p q r s:Int) (o:Bool):X×Env×Store:=(.ret,Qb z181.l2so1 [.b o,.i g,.i h,.i j,.i k,.i m,.i n,.i p,.i q,.i r,.i s])
def z181.l2pack:List Leaf->Option LPack
 |[.b a,.lr c,.i d,.i e,.i g,.i h,.i j,.i k,.i m,.i n,.i o,.i p,.i q,.i r]=>some (.two _ _ (z181.l2 c d g h j k m p q r e) (z181.l2out0 a c d e g h j k m n o p q r) (z181.l2out1 a c d e g h j k m n o p q r))
 |_=>none
def z181.C:Ctx where
 T:=tab
 draws:=λf i=>match f,i with|16,11=>([(58,[(9,0)],0),(59,[(5,0)],0),(60,[(58,2)],2),(61,[(59,3)],6),(62,[(9,0)],0),(63,[(61,5)],16),(64,[(60,4),(62,6)],62),(65,[(1,0)],0),(66,[(64,8)],128),(67,[(65,9)],384),(68,[(57,1),(63,7)],1023),(0,[(67,11),(66,10)],2047)],295003789991276969984)|16,14=>([(75,[(7,0)],0),(76,[(74,1)],1),(77,[(75,2)],3),(78,[(76,3)],7),(79,[(5,0)],0),(80,[(78,5)],16),(81,[(79,6)],48),(82,[(77,4),(80,7)],127),(74,[(81,8)],255),(83,[(73,9)],511),(84,[(73,9)],511),(0,[(10,0),(82,10)],1023)],19333368380868327504871424)|_,_=>([],0)
 call:=λg args=>match g with|58=>z144.pack args|64=>z173.pack args|54=>z100.pack args|75=>z180.pack args|_=>none
 keep:=λf i=>match f,i with|16,0=>([1,5,6,7,25,26,53,54,55,122,123,124,125,126,127,128,129,130],[1],[])|16,6=>([5,6,10,12,14,87,88,89,96,97,98,108,109,110],[1,3,4],[])|16,4=>([5,6,10,12,87,88,89,96,97,98,122,123,124,125,126,127,128,129,130],[1,3],[])|16,2=>([5,6,10,87,88,89,122,123,124,125,126,127,128,129,130],[1,3],[])|_,_=>([],[],[])
 keepE:=λf i=>match f,i with|16,0=>([1,5,6,7,25,26,53,54,55,122,123,124,125,126,127,128,129,130],[1],[])|16,6=>([5,6,10,12,14,87,88,89,96,97,98,108,109,110],[1,3,4],[])|16,4=>([5,6,10,12,87,88,89,96,97,98,122,123,124,125,126,127,128,129,130],[1,3],[])|16,2=>([5,6,10,87,88,89,122,123,124,125,126,127,128,129,130],[1,3],[])|_,_=>([],[],[])
 keepR:=λf i=>match f,i with|16,0=>([6],[1],[6])|16,6=>([6],[1,3,4],[6])|16,4=>([6],[1,3],[6])|16,2=>([6],[1,3],[6])|_,_=>([],[],[])
 L:=λf i b st=>match f,i,b with|16,0,0=>(matchSt z181.l0b7sh st).bind z181.l0b7pack|16,6,0=>(matchSt z181.l6b9sh st).bind z181.l6b9pack|16,4,0=>(matchSt z181.l4sh st).bind z181.l4pack|16,2,0=>(matchSt z181.l2sh st).bind z181.l2pack|_,_,_=>none
def z181.dec:V->Option (Bool)
 |(.bool x0)=>some x0
 |_=>none
theorem z181.l0b7_link (R:Type) (k:Env×Store->Option R) (d:X×Env×Store->Option R) (a:List (List V)) (c:Bool) (e:List (List V)) (g h j m n p q r s:Int) :
  z181.C.loopP 16 0 (Qf 0 (ifun Tryz.f16).body) 2 k d (Qb z181.l0b7sh [.lr a,.b c,.lr e,.i g,.i h,.i j,.i m,.i n,.i p,.i q,.i r,.i s]) =
  z181.l0b7P a g (λx'=>k (Qb z181.l0b7sh [.lr a,.b c,.lr e,.i g,.i x',.i j,.i m,.i n,.i p,.i q,.i r,.i s])) (λo=>match o with | .inl o=>d (z181.l0b7out0 a c e g h j m n p q r s o) | .inr o=>d (z181.l0b7out1 a c e g h j m n p q r s o)) h:=by kernel_rfl
theorem z181.l6b9_link (R:Type) (k:Env×Store->Option R) (d:X×Env×Store->Option R) (a:Bool) (c e:List (List V)) (g h:Int) (j:List (List V)) (m n:Int) (p:List Int) (q r s t u v w x y z A B D E G:Int) :
  z181.C.loopP 16 6 (Qf 6 (ifun Tryz.f16).body) 5 k d (Qb z181.l6b9sh [.b a,.lr c,.lr e,.i g,.i h,.lr j,.i m,.i n,.li p,.i q,.i r,.i s,.i t,.i u,.i v,.i w,.i x,.i y,.i z,.i A,.i B,.i D,.i E,.i G]) =
  z181.l6b9P c p q t D E G (λx'=>k (Qb z181.l6b9sh [.b a,.lr c,.lr e,.i g,.i h,.lr j,.i m,.i n,.li p,.i q,.i x',.i s,.i t,.i u,.i v,.i w,.i x,.i y,.i z,.i A,.i B,.i D,.i E,.i G])) (λo=>match o with | .inl o=>d (z181.l6b9out0 a c e g h j m n p q r s t u v w x y z A B D E G o) | .inr o=>d (z181.l6b9out1 a c e g h j m n p q r s t u v w x y z A B D E G o)) r:=by kernel_rfl
theorem z181.l4_link (R:Type) (k:Env×Store->Option R) (d:X×Env×Store->Option R) (a:Bool) (c e:List (List V)) (g h:Int) (j:List (List V)) (m n p q r s t u v w x y:Int) :
  z181.C.loopP 16 4 (Qf 4 (ifun Tryz.f16).body) 4 k d (Qb z181.l4sh [.b a,.lr c,.lr e,.i g,.i h,.lr j,.i m,.i n,.i p,.i q,.i r,.i s,.i t,.i u,.i v,.i w,.i x,.i y]) =
  z181.l4P c j m p q (λx'=>k (Qb z181.l4sh [.b a,.lr c,.lr e,.i g,.i h,.lr j,.i m,.i x',.i p,.i q,.i r,.i s,.i t,.i u,.i v,.i w,.i x,.i y])) (λo=>match o with | .inl o=>d (z181.l4out0 a c e g h j m n p q r s t u v w x y o) | .inr o=>d (z181.l4out1 a c e g h j m n p q r s t u v w x y o)) n:=by kernel_rfl
theorem z181.l2_link (R:Type) (k:Env×Store->Option R) (d:X×Env×Store->Option R) (a:Bool) (c:List (List V)) (e g h j m n p q r s t u:Int) :
  z181.C.loopP 16 2 (Qf 2 (ifun Tryz.f16).body) 4 k d (Qb z181.l2sh [.b a,.lr c,.i e,.i g,.i h,.i j,.i m,.i n,.i p,.i q,.i r,.i s,.i t,.i u]) =
  z181.l2P c e h j m n p s t u (λx'=>k (Qb z181.l2sh [.b a,.lr c,.i e,.i x',.i h,.i j,.i m,.i n,.i p,.i q,.i r,.i s,.i t,.i u])) (λo=>match o with | .inl o=>d (z181.l2out0 a c e g h j m n p q r s t u o) | .inr o=>d (z181.l2out1 a c e g h j m n p q r s t u o)) g:=by kernel_rfl
theorem z181.link (a0 a1 a2:Int) (a3 a4 a5:List Int) (a6:List (List V)) (a7 a8 a9 a10 a11 a12 a13:Int):z181.C.evTop 16 (ifun Tryz.f16) [(.agg [(.int .i64 a0),(.int .i64 a1),(.int .i64 a2),(.ints false .u8 a3),(.ints false .u32 a4),(.ints false .u16 a5)]),(.recs false 8 a6),(.agg [(.int .i64 a7),(.int .i64 a8),(.int .i64 a9),(.int .i64 a10),(.int .i64 a11),(.int .i16 a12),(.int .u8 a13)])] z181.dec=z181.F a0 a1 a2 a3 a4 a5 a6 a7 a8 a9 a10 a11 a12 a13:=by kernel_rfl
end
noncomputable section
def z6.C:Ctx where
 T:=tab
 call:=λg args=>match g with|102=>z5.pack args|_=>none
def z6.dec:V->Option ((List UInt8))
 |(.str x0)=>some x0
 |_=>none
theorem z6.link (a0:List Int) (a1:Bool):z6.C.evTop 26 (ifun Tryz.f26) [(.agg [(.ints false .i64 a0),(.bool a1)])] z6.dec=z6.F a0 a1:=by kernel_rfl
def z9.C:Ctx where
 T:=tab
 call:=λg args=>match g with|152=>z8.pack args|113=>z7.pack args|_=>none
def z9.dec:V->Option ((List Int)×Bool)
 |(.agg [(.ints _ .i64 x0),(.bool x1)])=>some (x0,x1)
 |_=>none
theorem z9.link (a0:Int):z9.C.evTop 60 (ifun Tryz.f60) [(.int .i64 a0)] z9.dec=z9.F a0:=by kernel_rfl
def z14.l0b6sh:Env×Store:=((.ints false .i64 []) :: .undef::(.sref 0 0)::(.int .i64 0)::un 17 [],[(.arr 0 true 3 (.ints false .i64 []))])
def z14.l0b6out0 (a:List Int) (b:Int) (c:List Int) (o:Int):X×Env×Store:=((.exit 0),Qb z14.l0b6sh [.li a,.i o,.li c])
def z14.l0b6pack:List Leaf->Option LPack
 |[.li a,.i b,.li c]=>some (.one _ (z14.l0b6 a b) (z14.l0b6out0 a b c))
 |_=>none
def z14.C:Ctx where
 T:=tab
 keep:=λf i=>match f,i with|235,0=>([0,2,3],[0],[])|_,_=>([],[],[])
 keepE:=λf i=>match f,i with|235,0=>([0,2,3],[0],[])|_,_=>([],[],[])
 keepR:=λf i=>match f,i with|235,0=>([2],[0],[2])|_,_=>([],[],[])
 L:=λf i b st=>match f,i,b with|235,0,0=>(matchSt z14.l0b6sh st).bind z14.l0b6pack|_,_,_=>none
def z14.dec:V->Option ((List Int))
 |(.ints _ .i64 x0)=>some x0
 |_=>none
theorem z14.l0b6_link (R:Type) (k:Env×Store->Option R) (d:X×Env×Store->Option R) (a:List Int) (b:Int) (c:List Int) :
  z14.C.loopP 235 0 (Qf 0 (ifun Tryz.f235).body) 1 k d (Qb z14.l0b6sh [.li a,.i b,.li c]) =
  z14.l0b6P a (λx'=>k (Qb z14.l0b6sh [.li a,.i x',.li c])) (λo=>d (z14.l0b6out0 a b c o)) b:=by kernel_rfl
theorem z14.link (a0:List Int):z14.C.evTop 235 (ifun Tryz.f235) [(.ints false .i64 a0)] z14.dec=z14.F a0:=by kernel_rfl
def z16.C:Ctx where
 T:=tab
 call:=λg args=>match g with|208=>z15.pack args|113=>z7.pack args|_=>none
def z16.dec:V->Option ((List Int)×Bool)
 |(.agg [(.ints _ .i64 x0),(.bool x1)])=>some (x0,x1)
 |_=>none
theorem z16.link (a0:List Int) (a1:Bool) (a2:List Int) (a3:Bool):z16.C.evTop 131 (ifun Tryz.f131) [(.agg [(.ints false .i64 a0),(.bool a1)]),(.agg [(.ints false .i64 a2),(.bool a3)])] z16.dec=z16.F a0 a1 a2 a3:=by kernel_rfl
def z98.l0sh:Env×Store:=(.undef::(.ptr 0 0)::(.int .i64 0)::(.int .i64 0) :: .undef::(.int .i64 0)::(.int .i64 0)::un 24 [],[(.cells 41 [(.int .i64 0),(.int .i64 0),(.int .i64 0)])])
def z98.l0out0 (a b c d e g h:Int) (o:Int×Int):X×Env×Store:=((.exit 0),Qb z98.l0sh [.i a,.i b,.i o.1,.i o.2,.i e,.i g,.i h])
def z98.l0pack:List Leaf->Option LPack
 |[.i a,.i b,.i c,.i d,.i e,.i g,.i h]=>some (.one _ (z98.l0 e g (c,d)) (z98.l0out0 a b c d e g h))
 |_=>none
def z98.C:Ctx where
 T:=tab
 call:=λg args=>match g with|142=>z89.pack args|211=>z97.pack args|210=>z88.pack args|_=>none
 keep:=λf i=>match f,i with|140,0=>([1,2,3,5,6],[0],[])|_,_=>([],[],[])
 keepE:=λf i=>match f,i with|140,0=>([1,2,3,5,6],[0],[])|_,_=>([],[],[])
 keepR:=λf i=>match f,i with|140,0=>([2,3],[0],[2,3])|_,_=>([],[],[])
 L:=λf i b st=>match f,i,b with|140,0,0=>(matchSt z98.l0sh st).bind z98.l0pack|_,_,_=>none
def z98.dec:V->Option (Int×Int)
 |(.tup [(.int .i64 x0),(.int .i64 x1)])=>some (x0,x1)
 |_=>none
theorem z98.l0_link (R:Type) (k:Env×Store->Option R) (d:X×Env×Store->Option R) (a b c e g h j:Int) :
  z98.C.loopP 140 0 (Qf 0 (ifun Tryz.f140).body) 1 k d (Qb z98.l0sh [.i a,.i b,.i c,.i e,.i g,.i h,.i j]) =
  z98.l0P g h (λx'=>k (Qb z98.l0sh [.i a,.i b,.i x'.1,.i x'.2,.i g,.i h,.i j])) (λo=>d (z98.l0out0 a b c e g h j o)) (c,e):=by kernel_rfl
theorem z98.link (a0 a1 a2:Int):z98.C.evTop 140 (ifun Tryz.f140) [(.agg [(.int .i64 a0),(.int .i64 a1),(.int .i64 a2)])] z98.dec=z98.F a0 a1 a2:=by kernel_rfl
def z99.l0sh:Env×Store:=((.int .i64 0) :: .undef::(.ptr 0 0)::(.int .i64 0)::(.ptr 1 0)::un 63 [],[(.cells 41 [(.int .i64 0),(.int .i64 0),(.int .i64 0)]),(.cells 41 [(.int .i64 0),(.int .i64 0),(.int .i64 0)])])
def z99.l0out0 (a b c d e g h j o:Int):X×Env×Store:=((.exit 0),Qb z99.l0sh [.i a,.i b,.i c,.i d,.i e,.i o,.i h,.i j])
def z99.l0pack:List Leaf->Option LPack
 |[.i a,.i b,.i c,.i d,.i e,.i g,.i h,.i j]=>some (.one _ (z99.l0 a g) (z99.l0out0 a b c d e g h j))
 |_=>none
def z99.l2b6sh:Env×Store:=((.int .i64 0) :: .undef::(.ptr 0 0)::(.int .i64 0)::(.ptr 1 0)::un 63 [],[(.cells 41 [(.int .i64 0),(.int .i64 0),(.int .i64 0)]),(.cells 41 [(.int .i64 0),(.int .i64 0),(.int .i64 0)])])
def z99.l2b6out0 (a b c d e g h j o:Int):X×Env×Store:=((.exit 2),Qb z99.l2b6sh [.i a,.i b,.i c,.i d,.i e,.i o,.i h,.i j])
def z99.l2b6pack:List Leaf->Option LPack
 |[.i a,.i b,.i c,.i d,.i e,.i g,.i h,.i j]=>some (.one _ (z99.l2b6 a g) (z99.l2b6out0 a b c d e g h j))
 |_=>none
def z99.l4sh:Env×Store:=((.int .i64 0) :: .undef::(.ptr 0 0)::(.int .i64 0)::(.ptr 1 0)::un 63 [],[(.cells 41 [(.int .i64 0),(.int .i64 0),(.int .i64 0)]),(.cells 41 [(.int .i64 0),(.int .i64 0),(.int .i64 0)])])
def z99.l4out0 (a b c d e g h j:Int) (o:Int×Int):X×Env×Store:=((.exit 4),Qb z99.l4sh [.i o.1,.i b,.i c,.i d,.i e,.i g,.i o.2,.i j])
def z99.l4pack:List Leaf->Option LPack
 |[.i a,.i b,.i c,.i d,.i e,.i g,.i h,.i j]=>some (.one _ (z99.l4 g (a,h)) (z99.l4out0 a b c d e g h j))
 |_=>none
def z99.C:Ctx where
 T:=tab
 call:=λg args=>match g with|211=>z97.pack args|210=>z88.pack args|_=>none
 keep:=λf i=>match f,i with|141,0=>([0,2,3,4,31,32,33,34,35,36],[0,1],[])|141,2=>([0,2,3,4],[0,1],[])|141,4=>([0,2,3,4],[0,1],[])|_,_=>([],[],[])
 keepE:=λf i=>match f,i with|141,0=>([0,2,3,4,31,32,33,34,35,36],[0,1],[])|141,2=>([0,2,3,4],[0,1],[])|141,4=>([0,2,3,4],[0,1],[])|_,_=>([],[],[])
 keepR:=λf i=>match f,i with|141,0=>([2,3],[0,1],[2,3])|141,2=>([2,3],[0,1],[2,3])|141,4=>([2,3],[0,1],[2,3])|_,_=>([],[],[])
 L:=λf i b st=>match f,i,b with|141,0,0=>(matchSt z99.l0sh st).bind z99.l0pack|141,2,0=>(matchSt z99.l2b6sh st).bind z99.l2b6pack|141,4,0=>(matchSt z99.l4sh st).bind z99.l4pack|_,_,_=>none
def z99.dec:V->Option (Int×Int×Int×Int)
 |(.tup [(.agg [(.int .i64 x0),(.int .i64 x1),(.int .i64 x2)]),(.int .i64 x3)])=>some (x0,x1,x2,x3)
 |_=>none
theorem z99.l0_link (R:Type) (k:Env×Store->Option R) (d:X×Env×Store->Option R) (a b c e g h j m:Int) :
  z99.C.loopP 141 0 (Qf 0 (ifun Tryz.f141).body) 2 k d (Qb z99.l0sh [.i a,.i b,.i c,.i e,.i g,.i h,.i j,.i m]) =
  z99.l0P a (λx'=>k (Qb z99.l0sh [.i a,.i b,.i c,.i e,.i g,.i x',.i j,.i m])) (λo=>d (z99.l0out0 a b c e g h j m o)) h:=by kernel_rfl
theorem z99.l2b6_link (R:Type) (k:Env×Store->Option R) (d:X×Env×Store->Option R) (a b c e g h j m:Int) :
  z99.C.loopP 141 2 (Qf 2 (ifun Tryz.f141).body) 2 k d (Qb z99.l2b6sh [.i a,.i b,.i c,.i e,.i g,.i h,.i j,.i m]) =
  z99.l2b6P a (λx'=>k (Qb z99.l2b6sh [.i a,.i b,.i c,.i e,.i g,.i x',.i j,.i m])) (λo=>d (z99.l2b6out0 a b c e g h j m o)) h:=by kernel_rfl
theorem z99.l4_link (R:Type) (k:Env×Store->Option R) (d:X×Env×Store->Option R) (a b c e g h j m:Int) :
  z99.C.loopP 141 4 (Qf 4 (ifun Tryz.f141).body) 2 k d (Qb z99.l4sh [.i a,.i b,.i c,.i e,.i g,.i h,.i j,.i m]) =
  z99.l4P h (λx'=>k (Qb z99.l4sh [.i x'.1,.i b,.i c,.i e,.i g,.i h,.i x'.2,.i m])) (λo=>d (z99.l4out0 a b c e g h j m o)) (a,j):=by kernel_rfl
theorem z99.link (a0:Int):z99.C.evTop 141 (ifun Tryz.f141) [(.int .i64 a0)] z99.dec=z99.F a0:=by kernel_rfl
def z102.C:Ctx where
 T:=tab
 call:=λg args=>match g with|192=>z101.pack args|113=>z7.pack args|_=>none
def z102.dec:V->Option ((List Int)×Bool)
 |(.agg [(.ints _ .i64 x0),(.bool x1)])=>some (x0,x1)
 |_=>none
theorem z102.link (a0:List UInt8):z102.C.evTop 103 (ifun Tryz.f103) [(.str a0)] z102.dec=z102.F a0:=by kernel_rfl
def z103.l0b4sh:Env×Store:=((.str ([]:List UInt8)) :: .undef::(.bool false)::(.int .i64 0)::un 29 [],[])
def z103.l0b4so1:Env×Store:=(.undef :: .undef::(.bool false)::un 30 [],[])
def z103.l0b4out0 (a:List UInt8) (c:Bool) (d o:Int):X×Env×Store:=((.exit 0),Qb z103.l0b4sh [.s a,.b c,.i o])
def z103.l0b4out1 (a:List UInt8) (c:Bool) (d:Int) (o:Bool):X×Env×Store:=(.ret,Qb z103.l0b4so1 [.b o])
def z103.l0b4pack:List Leaf->Option LPack
 |[.s a,.b c,.i d]=>some (.two _ _ (z103.l0b4 a d) (z103.l0b4out0 a c d) (z103.l0b4out1 a c d))
 |_=>none
def z103.C:Ctx where
 T:=tab
 keep:=λf i=>match f,i with|196,0=>([0,2,3],[],[])|_,_=>([],[],[])
 keepE:=λf i=>match f,i with|196,0=>([0,2,3],[],[])|_,_=>([],[],[])
 keepR:=λf i=>match f,i with|196,0=>([2],[],[2])|_,_=>([],[],[])
 L:=λf i b st=>match f,i,b with|196,0,0=>(matchSt z103.l0b4sh st).bind z103.l0b4pack|_,_,_=>none
def z103.dec:V->Option (Bool)
 |(.bool x0)=>some x0
 |_=>none
theorem z103.l0b4_link (R:Type) (k:Env×Store->Option R) (d:X×Env×Store->Option R) (a:List UInt8) (c:Bool) (e:Int) :
  z103.C.loopP 196 0 (Qf 0 (ifun Tryz.f196).body) 0 k d (Qb z103.l0b4sh [.s a,.b c,.i e]) =
  z103.l0b4P a (λx'=>k (Qb z103.l0b4sh [.s a,.b c,.i x'])) (λo=>match o with | .inl o=>d (z103.l0b4out0 a c e o) | .inr o=>d (z103.l0b4out1 a c e o)) e:=by kernel_rfl
theorem z103.link (a0:List UInt8):z103.C.evTop 196 (ifun Tryz.f196) [(.str a0)] z103.dec=z103.F a0:=by kernel_rfl
def z107.l0b6sh:Env×Store:=((.ints false .i64 [])::(.ints false .i64 []) :: .undef :: .undef::(.sref 0 0)::(.sref 1 0)::(.int .i64 0)::(.int .i64 0)::un 39 [],[(.arr 0 true 3 (.ints false .i64 [])),(.arr 0 true 3 (.ints false .i64 []))])
def z107.l0b6out0 (a b:List Int) (c d:Int) (e g:List Int) (o:Int×Int×(List Int)):X×Env×Store:=((.exit 0),Qb z107.l0b6sh [.li a,.li b,.i o.1,.i o.2.1,.li e,.li o.2.2])
def z107.l0b6pack:List Leaf->Option LPack
 |[.li a,.li b,.i c,.i d,.li e,.li g]=>some (.one _ (z107.l0b6 a b (c,d,g)) (z107.l0b6out0 a b c d e g))
 |_=>none
def z107.C:Ctx where
 T:=tab
 call:=λg args=>match g with|234=>z13.pack args|235=>z14.pack args|_=>none
 keep:=λf i=>match f,i with|170,0=>([0,1,4,5,6,7],[0,1],[])|_,_=>([],[],[])
 keepE:=λf i=>match f,i with|170,0=>([0,1,4,5,6,7],[0,1],[])|_,_=>([],[],[])
 keepR:=λf i=>match f,i with|170,0=>([4],[0,1],[4])|_,_=>([],[],[])
 L:=λf i b st=>match f,i,b with|170,0,0=>(matchSt z107.l0b6sh st).bind z107.l0b6pack|_,_,_=>none
def z107.dec:V->Option ((List Int))
 |(.ints _ .i64 x0)=>some x0
 |_=>none
theorem z107.l0b6_link (R:Type) (k:Env×Store->Option R) (d:X×Env×Store->Option R) (a b:List Int) (c e:Int) (g h:List Int) :
  z107.C.loopP 170 0 (Qf 0 (ifun Tryz.f170).body) 2 k d (Qb z107.l0b6sh [.li a,.li b,.i c,.i e,.li g,.li h]) =
  z107.l0b6P a b (λx'=>k (Qb z107.l0b6sh [.li a,.li b,.i x'.1,.i x'.2.1,.li g,.li x'.2.2])) (λo=>d (z107.l0b6out0 a b c e g h o)) (c,e,h):=by kernel_rfl
theorem z107.link (a0 a1:List Int):z107.C.evTop 170 (ifun Tryz.f170) [(.ints false .i64 a0),(.ints false .i64 a1)] z107.dec=z107.F a0 a1:=by kernel_rfl
def z108.l0sh:Env×Store:=((.ints false .i64 [])::(.ints false .i64 []) :: .undef :: .undef::(.int .i64 0)::(.int .i64 0)::un 35 [],[])
def z108.l0so1:Env×Store:=(un 4 ((.int .i64 0)::un 36 []),[])
def z108.l0out0 (a b:List Int) (c d o:Int):X×Env×Store:=((.exit 0),Qb z108.l0sh [.li a,.li b,.i c,.i o])
def z108.l0out1 (a b:List Int) (c d o:Int):X×Env×Store:=(.ret,Qb z108.l0so1 [.i o])
def z108.l0pack:List Leaf->Option LPack
 |[.li a,.li b,.i c,.i d]=>some (.two _ _ (z108.l0 a b d) (z108.l0out0 a b c d) (z108.l0out1 a b c d))
 |_=>none
def z108.C:Ctx where
 T:=tab
 draws:=λf i=>match f,i with|171,8=>([(24,[(0,0)],0),(25,[(5,0)],0),(26,[(23,1),(24,2)],3),(27,[(25,3)],7),(28,[(1,0)],0),(29,[(5,0)],0),(30,[(27,5),(28,6)],48),(31,[(29,7)],112),(32,[(26,4),(30,8)],255)],4286578688)|171,10=>([(33,[(0,0)],0),(34,[(5,0)],0),(35,[(32,1),(33,2)],3),(36,[(34,3)],7),(37,[(1,0)],0),(38,[(5,0)],0),(39,[(36,5),(37,6)],48),(40,[(38,7)],112),(41,[(35,4),(39,8)],255)],2194728288256)|_,_=>([],0)
 keep:=λf i=>match f,i with|171,0=>([0,1,4,5],[],[])|_,_=>([],[],[])
 keepE:=λf i=>match f,i with|171,0=>([0,1,4,5],[],[])|_,_=>([],[],[])
 keepR:=λf i=>match f,i with|171,0=>([4],[],[4])|_,_=>([],[],[])
 L:=λf i b st=>match f,i,b with|171,0,0=>(matchSt z108.l0sh st).bind z108.l0pack|_,_,_=>none
def z108.dec:V->Option (Int)
 |(.int .i64 x0)=>some x0
 |_=>none
theorem z108.l0_link (R:Type) (k:Env×Store->Option R) (d:X×Env×Store->Option R) (a b:List Int) (c e:Int) :
  z108.C.loopP 171 0 (Qf 0 (ifun Tryz.f171).body) 0 k d (Qb z108.l0sh [.li a,.li b,.i c,.i e]) =
  z108.l0P a b (λx'=>k (Qb z108.l0sh [.li a,.li b,.i c,.i x'])) (λo=>match o with | .inl o=>d (z108.l0out0 a b c e o) | .inr o=>d (z108.l0out1 a b c e o)) e:=by kernel_rfl
theorem z108.link (a0 a1:List Int):z108.C.evTop 171 (ifun Tryz.f171) [(.ints false .i64 a0),(.ints false .i64 a1)] z108.dec=z108.F a0 a1:=by kernel_rfl
def z115.l2sh:Env×Store:=((.ints false .i64 [])::(.ints false .i64 []) :: .undef :: .undef::(.sref 0 0)::(.sref 1 0)::(.sref 2 0)::(.ints false .i64 [])::(.int .i64 0) :: .undef::(.int .i64 0)::(.int .i64 0)::un 61 [],[(.arr 0 true 3 (.ints false .i64 [])),(.arr 0 true 3 (.ints false .i64 [])),(.arr 0 false 3 (.ints false .i64 [])),.dead])
def z115.l2out0 (a b c:List Int) (d e g:Int) (h j k:List Int) (o:Int×Int):X×Env×Store:=((.exit 2),Qb z115.l2sh [.li a,.li b,.li c,.i d,.i o.1,.i o.2,.li h,.li j,.li k])
def z115.l2pack:List Leaf->Option LPack
 |[.li a,.li b,.li c,.i d,.i e,.i g,.li h,.li j,.li k]=>some (.one _ (z115.l2 b c (e,g)) (z115.l2out0 a b c d e g h j k))
 |_=>none
def z115.l0ash:Env×Store:=((.ints false .i64 [])::(.ints false .i64 []) :: .undef :: .undef::(.sref 0 0)::(.sref 1 0)::(.sref 2 0)::(.ints false .i64 [])::(.int .i64 0)::un 64 [],[(.arr 0 true 3 (.ints false .i64 [])),(.arr 0 true 3 (.ints false .i64 [])),(.arr 0 false 3 (.ints false .i64 [])),.dead])
def z115.l0aout0 (a b c:List Int) (d:Int) (e g h:List Int) (o:(List Int)×Int×(List Int)):X×Env×Store:=((.exit 0),Qb z115.l0ash [.li a,.li b,.li o.1,.i o.2.1,.li e,.li g,.li o.2.2])
def z115.l0apack:List Leaf->Option LPack
 |[.li a,.li b,.li c,.i d,.li e,.li g,.li h]=>some (.one _ (z115.l0a a b (c,d,h)) (z115.l0aout0 a b c d e g h))
 |_=>none
def z115.C:Ctx where
 T:=tab
 call:=λg args=>match g with|235=>z14.pack args|152=>z8.pack args|208=>z15.pack args|171=>z108.pack args|172=>z109.pack args|_=>none
 keep:=λf i=>match f,i with|221,2=>([0,1,4,5,6,7,8,10,11],[0,1,2],[])|221,0=>([0,1,4,5,6,7,8],[0,1,2],[7])|_,_=>([],[],[])
 keepE:=λf i=>match f,i with|221,2=>([0,1,4,5,6,7,8,10,11],[0,1,2],[])|221,0=>([0,1,4,5,6,7,8],[0,1,2],[7])|_,_=>([],[],[])
 keepR:=λf i=>match f,i with|221,2=>([4,5],[0,1,2],[4,5])|221,0=>([4,5],[0,1,2],[4,5])|_,_=>([],[],[])
 L:=λf i b st=>match f,i,b with|221,2,0=>(matchSt z115.l2sh st).bind z115.l2pack|221,0,0=>(matchSt z115.l0ash st).bind z115.l0apack|_,_,_=>none
def z115.dec:V->Option ((List Int)×(List Int))
 |(.tup [(.ints _ .i64 x0),(.ints _ .i64 x1)])=>some (x0,x1)
 |_=>none
theorem z115.l2_link (R:Type) (k:Env×Store->Option R) (d:X×Env×Store->Option R) (a b c:List Int) (e g h:Int) (j m n:List Int) :
  z115.C.loopP 221 2 (Qf 2 (ifun Tryz.f221).body) 4 k d (Qb z115.l2sh [.li a,.li b,.li c,.i e,.i g,.i h,.li j,.li m,.li n]) =
  z115.l2P b c (λx'=>k (Qb z115.l2sh [.li a,.li b,.li c,.i e,.i x'.1,.i x'.2,.li j,.li m,.li n])) (λo=>d (z115.l2out0 a b c e g h j m n o)) (g,h):=by kernel_rfl
theorem z115.l0a_link (R:Type) (k:Env×Store->Option R) (d:X×Env×Store->Option R) (a b c:List Int) (e:Int) (g h j:List Int) :
  z115.C.loopP 221 0 (Qf 0 (ifun Tryz.f221).body) 4 k d (Qb z115.l0ash [.li a,.li b,.li c,.i e,.li g,.li h,.li j]) =
  z115.l0aP a b (λx'=>k (Qb z115.l0ash [.li a,.li b,.li x'.1,.i x'.2.1,.li g,.li h,.li x'.2.2])) (λo=>d (z115.l0aout0 a b c e g h j o)) (c,e,j):=by kernel_rfl
theorem z115.link (a0 a1:List Int):z115.C.evTop 221 (ifun Tryz.f221) [(.ints false .i64 a0),(.ints false .i64 a1)] z115.dec=z115.F a0 a1:=by kernel_rfl
def z116.l0sh:Env×Store:=((.ints false .i64 [])::(.ints false .i64 []) :: .undef :: .undef::(.sref 0 0)::un 14 [],[(.arr 0 true 3 (.ints false .i64 []))])
def z116.l0out0 (a b c:List Int) (o:(List Int)×(List Int)):X×Env×Store:=((.exit 0),Qb z116.l0sh [.li o.1,.li o.2,.li c])
def z116.l0pack:List Leaf->Option LPack
 |[.li a,.li b,.li c]=>some (.one _ (z116.l0 (a,b)) (z116.l0out0 a b c))
 |_=>none
def z116.C:Ctx where
 T:=tab
 call:=λg args=>match g with|221=>z115.pack args|_=>none
 keep:=λf i=>match f,i with|256,0=>([0,1,4],[0],[])|_,_=>([],[],[])
 keepE:=λf i=>match f,i with|256,0=>([0,1,4],[0],[])|_,_=>([],[],[])
 keepR:=λf i=>match f,i with|256,0=>([4],[0],[4])|_,_=>([],[],[])
 L:=λf i b st=>match f,i,b with|256,0,0=>(matchSt z116.l0sh st).bind z116.l0pack|_,_,_=>none
def z116.dec:V->Option ((List Int))
 |(.ints _ .i64 x0)=>some x0
 |_=>none
theorem z116.l0_link (R:Type) (k:Env×Store->Option R) (d:X×Env×Store->Option R) (a b c:List Int) :
  z116.C.loopP 256 0 (Qf 0 (ifun Tryz.f256).body) 1 k d (Qb z116.l0sh [.li a,.li b,.li c]) =
  z116.l0P (λx'=>k (Qb z116.l0sh [.li x'.1,.li x'.2,.li c])) (λo=>d (z116.l0out0 a b c o)) (a,b):=by kernel_rfl
theorem z116.link (a0 a1:List Int):z116.C.evTop 256 (ifun Tryz.f256) [(.ints false .i64 a0),(.ints false .i64 a1)] z116.dec=z116.F a0 a1:=by kernel_rfl
def z122.C:Ctx where
 T:=tab
 call:=λg args=>match g with|113=>z7.pack args|131=>z16.pack args|_=>none
def z122.dec:V->Option ((List Int)×Bool)
 |(.agg [(.ints _ .i64 x0),(.bool x1)])=>some (x0,x1)
 |_=>none
theorem z122.link (a0:List Int) (a1:Bool) (a2 a3:List Int) (a4:Bool) (a5:List Int):z122.C.evTop 207 (ifun Tryz.f207) [(.agg [(.ints false .i64 a0),(.bool a1),(.ints false .i64 a2)]),(.agg [(.ints false .i64 a3),(.bool a4),(.ints false .i64 a5)])] z122.dec=z122.F a0 a1 a2 a3 a4 a5:=by kernel_rfl
def z124.C:Ctx where
 T:=tab
 call:=λg args=>match g with|207=>z122.pack args|113=>z7.pack args|131=>z16.pack args|205=>z118.pack args|_=>none
def z124.dec:V->Option ((List Int)×Bool×(List Int))
 |(.agg [(.ints _ .i64 x0),(.bool x1),(.ints _ .i64 x2)])=>some (x0,x1,x2)
 |_=>none
theorem z124.link (a0:List Int) (a1:Bool) (a2 a3:List Int) (a4:Bool) (a5:List Int):z124.C.evTop 129 (ifun Tryz.f129) [(.agg [(.ints false .i64 a0),(.bool a1),(.ints false .i64 a2)]),(.agg [(.ints false .i64 a3),(.bool a4),(.ints false .i64 a5)])] z124.dec=z124.F a0 a1 a2 a3 a4 a5:=by kernel_rfl
def z125.C:Ctx where
 T:=tab
 call:=λg args=>match g with|125=>z119.pack args|126=>z120.pack args|127=>z121.pack args|128=>z123.pack args|129=>z124.pack args|_=>none
def z125.dec:V->Option ((List Int)×Bool×(List Int)×Int)
 |(.tup [(.agg [(.ints _ .i64 x0),(.bool x1),(.ints _ .i64 x2)]),(.int .i64 x3)])=>some (x0,x1,x2,x3)
 |_=>none
theorem z125.link (a0:List UInt8):z125.C.evTop 39 (ifun Tryz.f39) [(.str a0)] z125.dec=z125.F a0:=by kernel_rfl
def z136.C:Ctx where
 T:=tab
 draws:=λf i=>match f,i with|41,3=>([(10,[(1,0)],0),(11,[(9,1)],1),(12,[(10,2)],3),(13,[(11,3)],7),(14,[(1,0)],0),(15,[(13,5)],23),(16,[(14,6)],55),(17,[(12,4),(15,7)],127),(3,[(16,8)],255)],130564)|_,_=>([],0)
 call:=λg args=>match g with|104=>z19.pack args|25=>z135.pack args|130=>z73.pack args|101=>z134.pack args|_=>none
def z136.dec:V->Option ((List UInt8))
 |(.str x0)=>some x0
 |_=>none
theorem z136.link (a0:List Int) (a1:Bool) (a2:List Int):z136.C.evTop 41 (ifun Tryz.f41) [(.agg [(.ints false .u64 a0),(.bool a1),(.ints false .u64 a2)])] z136.dec=z136.F a0 a1 a2:=by kernel_rfl
def z143.C:Ctx where
 T:=tab
 draws:=λf i=>match f,i with|61,6=>([(32,[(1,0)],0),(33,[(31,1)],1),(34,[(32,2)],3),(35,[(33,3)],7),(36,[(1,0)],0),(37,[(35,5)],16),(38,[(36,6)],48),(0,[(2,0),(34,4)],15),(4,[(37,7)],255)],272730423304)|_,_=>([],0)
 call:=λg args=>match g with|153=>z11.pack args|_=>none
def z143.dec:V->Option (Int×Int×Int×Bool)
 |(.tup [(.agg [(.int .i64 x0),(.int .i64 x1),(.int .i64 x2)]),(.bool x3)])=>some (x0,x1,x2,x3)
 |_=>none
theorem z143.link (a0 a1 a2:Int):z143.C.evTop 61 (ifun Tryz.f61) [(.agg [(.int .i64 a0),(.int .i64 a1),(.int .i64 a2)])] z143.dec=z143.F a0 a1 a2:=by kernel_rfl
def z151.C:Ctx where
 T:=tab
 draws:=λf i=>match f,i with|78,1=>([(6,[(2,0)],0),(7,[(5,1)],1),(8,[(3,0)],0),(9,[(7,3)],4),(10,[(6,2),(8,4)],15),(11,[(3,0)],0),(12,[(10,6)],32),(13,[(2,0)],0),(14,[(12,8)],159),(15,[(11,7),(13,9)],511),(16,[(9,5),(14,10)],1023),(17,[(2,0)],0),(18,[(16,12)],4095),(19,[(3,0)],0),(20,[(18,14)],16383),(21,[(17,13),(19,15)],32767),(22,[(15,11),(20,16)],65535),(0,[(4,0),(21,17)],131071)],4194272)|_,_=>([],0)
 call:=λg args=>match g with|157=>z74.pack args|156=>z54.pack args|24=>z31.pack args|130=>z73.pack args|164=>z40.pack args|163=>z70.pack args|_=>none
def z151.dec:V->Option ((List Int)×Bool×(List Int))
 |(.agg [(.ints _ .u64 x0),(.bool x1),(.ints _ .u64 x2)])=>some (x0,x1,x2)
 |_=>none
theorem z151.link (a0:List Int) (a1:Bool) (a2 a3:List Int) (a4:Bool) (a5:List Int):z151.C.evTop 78 (ifun Tryz.f78) [(.agg [(.ints false .u64 a0),(.bool a1),(.ints false .u64 a2)]),(.agg [(.ints false .u64 a3),(.bool a4),(.ints false .u64 a5)])] z151.dec=z151.F a0 a1 a2 a3 a4 a5:=by kernel_rfl
def z161.l0sh:Env×Store:=((.int .i64 0)::un 4 ((.ptr 0 0)::(.ptr 1 0)::(.ptr 2 0)::un 8 ((.recs false 8 [])::(.int .i64 0)::(.int .i64 0)::un 41 [])),[(.cells 41 [(.int .i64 0),(.int .i64 0),(.int .i64 0)]),(.cells 68 [(.ints false .u64 []),(.bool false),(.ints false .u64 [])]),(.cells 68 [(.ints false .u64 []),(.bool false),(.ints false .u64 [])])])
def z161.l0out0 (a:Int) (c:List (List V)) (d e g h j:Int) (k:List Int) (m:Bool) (n p:List Int) (q:Bool) (r:List Int) (o:Int×(List Int)×Bool×(List Int)):X×Env×Store:=((.exit 0),Qb z161.l0sh [.i a,.lr c,.i d,.i o.1,.i g,.i h,.i j,.li k,.b m,.li n,.li o.2.1,.b o.2.2.1,.li o.2.2.2])
def z161.l0pack:List Leaf->Option LPack
 |[.i a,.lr c,.i d,.i e,.i g,.i h,.i j,.li k,.b m,.li n,.li o,.b p,.li q]=>some (.one _ (z161.l0 a c d g h j (e,o,p,q)) (z161.l0out0 a c d e g h j k m n o p q))
 |_=>none
def z161.C:Ctx where
 T:=tab
 draws:=λf i=>match f,i with|151,8=>([(41,[(0,0)],0),(42,[(9,0)],0),(43,[(41,2)],2),(44,[(9,0)],0),(45,[(43,4)],8),(46,[(5,0)],0),(47,[(44,5),(45,6)],56),(48,[(40,1),(42,3),(46,7)],127),(40,[(47,8)],255),(49,[(39,9)],511),(50,[(39,9)],511),(15,[],0),(0,[(14,12),(48,10)],3071),(16,[(49,11)],8191)],1125350151077888)|151,9=>([(51,[(7,0)],0),(52,[(10,0)],0),(53,[(51,2)],2),(54,[(12,0)],0),(55,[(52,3),(53,4)],14),(56,[(14,0)],0),(57,[(54,5),(55,6)],62),(58,[(50,1),(56,7)],127),(0,[(7,0),(57,8)],255)],287104476244869120)|_,_=>([],0)
 call:=λg args=>match g with|57=>z96.pack args|36=>z46.pack args|38=>z76.pack args|218=>z160.pack args|165=>z159.pack args|68=>z47.pack args|89=>z152.pack args|78=>z151.pack args|_=>none
 keep:=λf i=>match f,i with|151,0=>([0,5,6,7,16,17,18],[0,1,2],[])|_,_=>([],[],[])
 keepE:=λf i=>match f,i with|151,0=>([0,5,6,7,16,17,18],[0,1,2],[])|_,_=>([],[],[])
 keepR:=λf i=>match f,i with|151,0=>([6],[0,1,2],[6])|_,_=>([],[],[])
 L:=λf i b st=>match f,i,b with|151,0,0=>(matchSt z161.l0sh st).bind z161.l0pack|_,_,_=>none
def z161.dec:V->Option ((List Int)×Bool×(List Int))
 |(.agg [(.ints _ .u64 x0),(.bool x1),(.ints _ .u64 x2)])=>some (x0,x1,x2)
 |_=>none
theorem z161.l0_link (R:Type) (k:Env×Store->Option R) (d:X×Env×Store->Option R) (a:Int) (c:List (List V)) (e g h j m:Int) (n:List Int) (p:Bool) (q r:List Int) (s:Bool) (t:List Int) :
  z161.C.loopP 151 0 (Qf 0 (ifun Tryz.f151).body) 3 k d (Qb z161.l0sh [.i a,.lr c,.i e,.i g,.i h,.i j,.i m,.li n,.b p,.li q,.li r,.b s,.li t]) =
  z161.l0P a c e h j m (λx'=>k (Qb z161.l0sh [.i a,.lr c,.i e,.i x'.1,.i h,.i j,.i m,.li n,.b p,.li q,.li x'.2.1,.b x'.2.2.1,.li x'.2.2.2])) (λo=>d (z161.l0out0 a c e g h j m n p q r s t o)) (g,r,s,t):=by kernel_rfl
theorem z161.link (a0:Int) (a1:List (List V)) (a2 a3 a4:Int):z161.C.evTop 151 (ifun Tryz.f151) [(.int .i64 a0),(.recs false 8 a1),(.agg [(.int .i64 a2),(.int .i64 a3),(.int .i64 a4)])] z161.dec=z161.F a0 a1 a2 a3 a4:=by kernel_rfl
def z169.C:Ctx where
 T:=tab
 call:=λg args=>match g with|221=>z115.pack args|170=>z107.pack args|208=>z15.pack args|171=>z108.pack args|113=>z7.pack args|_=>none
def z169.dec:V->Option ((List Int)×Bool)
 |(.agg [(.ints _ .i64 x0),(.bool x1)])=>some (x0,x1)
 |_=>none
theorem z169.link (a0:List Int) (a1:Bool) (a2:List Int) (a3:Int):z169.C.evTop 155 (ifun Tryz.f155) [(.agg [(.ints false .i64 a0),(.bool a1),(.ints false .i64 a2)]),(.int .i64 a3)] z169.dec=z169.F a0 a1 a2 a3:=by kernel_rfl
def z172.C:Ctx where
 T:=tab
 call:=λg args=>match g with|66=>z171.pack args|150=>z150.pack args|_=>none
def z172.dec:V->Option ((List Int)×Bool×Int)
 |(.tup [(.agg [(.ints _ .u64 x0),(.bool x1)]),(.int .i64 x2)])=>some (x0,x1,x2)
 |_=>none
theorem z172.link (a0 a1:Int) (a2:List (List V)) (a3 a4 a5:Int):z172.C.evTop 73 (ifun Tryz.f73) [(.int .i64 a0),(.int .i64 a1),(.recs false 8 a2),(.agg [(.int .i64 a3),(.int .i64 a4),(.int .i64 a5)])] z172.dec=z172.F a0 a1 a2 a3 a4 a5:=by kernel_rfl
def z179.l0b19sh:Env×Store:=((.recs false 8 []) :: .undef::(.int .i64 0)::(.int .i64 0)::un 85 [],[])
def z179.l0b19so1:Env×Store:=(.undef :: .undef::(.int .i64 0)::un 86 [],[])
def z179.l0b19out0 (a:List (List V)) (b c o:Int):X×Env×Store:=((.exit 0),Qb z179.l0b19sh [.lr a,.i b,.i o])
def z179.l0b19out1 (a:List (List V)) (b c o:Int):X×Env×Store:=(.ret,Qb z179.l0b19so1 [.i o])
def z179.l0b19pack:List Leaf->Option LPack
 |[.lr a,.i b,.i c]=>some (.two _ _ (z179.l0b19 a c) (z179.l0b19out0 a b c) (z179.l0b19out1 a b c))
 |_=>none
def z179.C:Ctx where
 T:=tab
 draws:=λf i=>match f,i with|159,8=>([(34,[(0,0)],0),(35,[(3,0)],0),(36,[(33,1),(34,2)],3),(37,[(35,3)],7),(38,[(36,4)],15),(39,[(0,0)],0),(40,[(3,0)],0),(41,[(38,6),(39,7)],96),(42,[(40,8)],224),(43,[(41,9)],480),(44,[(37,5),(42,10)],1023),(7,[(43,11)],2047)],17583596109888)|159,9=>([(45,[(6,0)],0),(46,[(44,1)],1),(47,[(45,2)],3),(48,[(3,0),(46,3)],7),(49,[(47,4),(46,3)],15),(50,[(48,5),(46,3)],31),(51,[(0,0),(49,6)],63),(52,[(3,0),(49,6)],63),(53,[(50,7),(51,8),(49,6)],255),(54,[(52,9),(49,6)],511),(55,[(53,10),(49,6)],1023),(56,[(0,0),(49,6)],63),(57,[(3,0),(49,6)],63),(58,[(56,13),(49,6)],4159),(59,[(57,14),(49,6)],12351),(60,[(55,12),(58,15),(49,6)],30783),(61,[(59,16),(49,6)],63551),(62,[(60,17),(49,6)],129087),(63,[(54,11),(61,18),(49,6)],262143),(64,[(49,6),(62,19),(46,3)],524287),(65,[(46,3),(63,20)],1048575)],36893470555233058816)|_,_=>([],0)
 call:=λg args=>match g with|80=>z126.pack args|81=>z132.pack args|37=>z114.pack args|39=>z125.pack args|_=>none
 keep:=λf i=>match f,i with|159,0=>([0,2,3],[],[])|_,_=>([],[],[])
 keepE:=λf i=>match f,i with|159,0=>([0,2,3],[],[])|_,_=>([],[],[])
 keepR:=λf i=>match f,i with|159,0=>([2],[],[2])|_,_=>([],[],[])
 L:=λf i b st=>match f,i,b with|159,0,0=>(matchSt z179.l0b19sh st).bind z179.l0b19pack|_,_,_=>none
def z179.dec:V->Option (Int)
 |(.int .i64 x0)=>some x0
 |_=>none
theorem z179.l0b19_link (R:Type) (k:Env×Store->Option R) (d:X×Env×Store->Option R) (a:List (List V)) (b c:Int) :
  z179.C.loopP 159 0 (Qf 0 (ifun Tryz.f159).body) 0 k d (Qb z179.l0b19sh [.lr a,.i b,.i c]) =
  z179.l0b19P a (λx'=>k (Qb z179.l0b19sh [.lr a,.i b,.i x'])) (λo=>match o with | .inl o=>d (z179.l0b19out0 a b c o) | .inr o=>d (z179.l0b19out1 a b c o)) c:=by kernel_rfl
theorem z179.link (a0:List (List V)):z179.C.evTop 159 (ifun Tryz.f159) [(.recs false 8 a0)] z179.dec=z179.F a0:=by kernel_rfl
end
noncomputable section
def z5.l2sh:Env×Store:=((.ints false .i64 []) :: .undef::(.str ([]:List UInt8))::(.str ([]:List UInt8))::(.int .i64 0)::(.int .i64 0)::(.int .i64 0)::un 37 [],[])
def z5.l2out0 (a:List Int) (b c:List UInt8) (d e g:Int) (o:(List UInt8)×Int×Int):X×Env×Store:=((.exit 2),Qb z5.l2sh [.li a,.s b,.s o.1,.i d,.i o.2.1,.i o.2.2])
def z5.l2pack:List Leaf->Option LPack
 |[.li a,.s b,.s c,.i d,.i e,.i g]=>some (.one _ (z5.l2 (c,e,g)) (z5.l2out0 a b c d e g))
 |_=>none
def z5.l0sh:Env×Store:=((.ints false .i64 []) :: .undef::(.str ([]:List UInt8))::(.str ([]:List UInt8))::(.int .i64 0)::un 39 [],[])
def z5.l0out0 (a:List Int) (b c:List UInt8) (d:Int) (o:(List UInt8)×Int):X×Env×Store:=((.exit 0),Qb z5.l0sh [.li a,.s b,.s o.1,.i o.2])
def z5.l0pack:List Leaf->Option LPack
 |[.li a,.s b,.s c,.i d]=>some (.one _ (z5.l0 a (c,d)) (z5.l0out0 a b c d))
 |_=>none
def z5.l4sh:Env×Store:=(.undef :: .undef::(.str ([]:List UInt8))::(.str ([]:List UInt8))::un 3 ((.int .i64 0)::un 36 []),[])
def z5.l4out0 (a b:List UInt8) (c o:Int):X×Env×Store:=((.exit 4),Qb z5.l4sh [.s a,.s b,.i o])
def z5.l4pack:List Leaf->Option LPack
 |[.s a,.s b,.i c]=>some (.one _ (z5.l4 b c) (z5.l4out0 a b c))
 |_=>none
def z5.C:Ctx where
 T:=tab
 keep:=λf i=>match f,i with|102,2=>([0,2,3,4,5,6],[],[])|102,0=>([0,2,3,4],[],[])|102,4=>([2,3,7],[],[])|_,_=>([],[],[])
 keepE:=λf i=>match f,i with|102,2=>([0,2,3,4,5,6],[],[])|102,0=>([0,2,3,4],[],[])|102,4=>([2,3,7],[],[])|_,_=>([],[],[])
 keepR:=λf i=>match f,i with|102,2=>([2],[],[2])|102,0=>([2],[],[2])|102,4=>([2],[],[2])|_,_=>([],[],[])
 L:=λf i b st=>match f,i,b with|102,2,0=>(matchSt z5.l2sh st).bind z5.l2pack|102,0,0=>(matchSt z5.l0sh st).bind z5.l0pack|102,4,0=>(matchSt z5.l4sh st).bind z5.l4pack|_,_,_=>none
def z5.dec:V->Option ((List UInt8))
 |(.str x0)=>some x0
 |_=>none
theorem z5.l2_link (R:Type) (k:Env×Store->Option R) (d:X×Env×Store->Option R) (a:List Int) (b c:List UInt8) (e g h:Int) :
  z5.C.loopP 102 2 (Qf 2 (ifun Tryz.f102).body) 0 k d (Qb z5.l2sh [.li a,.s b,.s c,.i e,.i g,.i h]) =
  z5.l2P (λx'=>k (Qb z5.l2sh [.li a,.s b,.s x'.1,.i e,.i x'.2.1,.i x'.2.2])) (λo=>d (z5.l2out0 a b c e g h o)) (c,g,h):=by kernel_rfl
theorem z5.l0_link (R:Type) (k:Env×Store->Option R) (d:X×Env×Store->Option R) (a:List Int) (b c:List UInt8) (e:Int) :
  z5.C.loopP 102 0 (Qf 0 (ifun Tryz.f102).body) 0 k d (Qb z5.l0sh [.li a,.s b,.s c,.i e]) =
  z5.l0P a (λx'=>k (Qb z5.l0sh [.li a,.s b,.s x'.1,.i x'.2])) (λo=>d (z5.l0out0 a b c e o)) (c,e):=by kernel_rfl
theorem z5.l4_link (R:Type) (k:Env×Store->Option R) (d:X×Env×Store->Option R) (a b:List UInt8) (c:Int) :
  z5.C.loopP 102 4 (Qf 4 (ifun Tryz.f102).body) 0 k d (Qb z5.l4sh [.s a,.s b,.i c]) =
  z5.l4P b (λx'=>k (Qb z5.l4sh [.s a,.s b,.i x'])) (λo=>d (z5.l4out0 a b c o)) c:=by kernel_rfl
theorem z5.link (a0:List Int):z5.C.evTop 102 (ifun Tryz.f102) [(.ints false .i64 a0)] z5.dec=z5.F a0:=by kernel_rfl
def z8.l0sh:Env×Store:=((.int .i64 0) :: .undef::(.sref 0 0)::(.sref 1 0)::un 10 [],[(.arr 0 true 3 (.ints false .i64 [])),(.arr 0 true 3 (.ints false .i64 []))])
def z8.l0out0 (a:Int) (b c:List Int) (o:Int×(List Int)):X×Env×Store:=((.exit 0),Qb z8.l0sh [.i o.1,.li b,.li o.2])
def z8.l0pack:List Leaf->Option LPack
 |[.i a,.li b,.li c]=>some (.one _ (z8.l0 (a,c)) (z8.l0out0 a b c))
 |_=>none
def z8.C:Ctx where
 T:=tab
 keep:=λf i=>match f,i with|152,0=>([0,2,3],[0,1],[])|_,_=>([],[],[])
 keepE:=λf i=>match f,i with|152,0=>([0,2,3],[0,1],[])|_,_=>([],[],[])
 keepR:=λf i=>match f,i with|152,0=>([2],[0,1],[2])|_,_=>([],[],[])
 L:=λf i b st=>match f,i,b with|152,0,0=>(matchSt z8.l0sh st).bind z8.l0pack|_,_,_=>none
def z8.dec:V->Option ((List Int))
 |(.ints _ .i64 x0)=>some x0
 |_=>none
theorem z8.l0_link (R:Type) (k:Env×Store->Option R) (d:X×Env×Store->Option R) (a:Int) (b c:List Int) :
  z8.C.loopP 152 0 (Qf 0 (ifun Tryz.f152).body) 2 k d (Qb z8.l0sh [.i a,.li b,.li c]) =
  z8.l0P (λx'=>k (Qb z8.l0sh [.i x'.1,.li b,.li x'.2])) (λo=>d (z8.l0out0 a b c o)) (a,c):=by kernel_rfl
theorem z8.link (a0:Int):z8.C.evTop 152 (ifun Tryz.f152) [(.int .i64 a0)] z8.dec=z8.F a0:=by kernel_rfl
def z11.C:Ctx where
 T:=tab
 call:=λg args=>match g with|219=>z10.pack args|_=>none
def z11.dec:V->Option (Int)
 |(.int .i64 x0)=>some x0
 |_=>none
theorem z11.link (a0 a1:Int):z11.C.evTop 153 (ifun Tryz.f153) [(.int .i64 a0),(.int .i64 a1)] z11.dec=z11.F a0 a1:=by kernel_rfl
def z97.C:Ctx where
 T:=tab
def z97.dec:V->Option (Int)
 |(.int .i64 x0)=>some x0
 |_=>none
theorem z97.link (a0:Int):z97.C.evTop 211 (ifun Tryz.f211) [(.int .i64 a0)] z97.dec=z97.F a0:=by kernel_rfl
def z100.C:Ctx where
 T:=tab
 call:=λg args=>match g with|140=>z98.pack args|141=>z99.pack args|_=>none
def z100.dec:V->Option (Int×Int×Int×Int)
 |(.tup [(.agg [(.int .i64 x0),(.int .i64 x1),(.int .i64 x2)]),(.int .i64 x3)])=>some (x0,x1,x2,x3)
 |_=>none
theorem z100.link (a0 a1 a2 a3:Int):z100.C.evTop 54 (ifun Tryz.f54) [(.agg [(.int .i64 a0),(.int .i64 a1),(.int .i64 a2)]),(.int .i64 a3)] z100.dec=z100.F a0 a1 a2 a3:=by kernel_rfl
def z106.C:Ctx where
 T:=tab
 call:=λg args=>match g with|113=>z7.pack args|_=>none
def z106.dec:V->Option ((List Int)×Bool)
 |(.agg [(.ints _ .i64 x0),(.bool x1)])=>some (x0,x1)
 |_=>none
theorem z106.link (a0:List Int) (a1:Bool):z106.C.evTop 35 (ifun Tryz.f35) [(.agg [(.ints false .i64 a0),(.bool a1)])] z106.dec=z106.F a0 a1:=by kernel_rfl
def z109.l0sh:Env×Store:=((.ints false .i64 [])::(.ints false .i64 []) :: .undef :: .undef::(.sref 0 0)::(.sref 1 0)::(.int .i64 0)::(.int .i64 0)::un 29 [],[(.arr 0 true 3 (.ints false .i64 [])),(.arr 0 true 3 (.ints false .i64 []))])
def z109.l0out0 (a b:List Int) (c d:Int) (e g:List Int) (o:Int×Int×(List Int)):X×Env×Store:=((.exit 0),Qb z109.l0sh [.li a,.li b,.i o.1,.i o.2.1,.li e,.li o.2.2])
def z109.l0pack:List Leaf->Option LPack
 |[.li a,.li b,.i c,.i d,.li e,.li g]=>some (.one _ (z109.l0 a b (c,d,g)) (z109.l0out0 a b c d e g))
 |_=>none
def z109.C:Ctx where
 T:=tab
 call:=λg args=>match g with|234=>z13.pack args|235=>z14.pack args|_=>none
 keep:=λf i=>match f,i with|172,0=>([0,1,4,5,6,7],[0,1],[])|_,_=>([],[],[])
 keepE:=λf i=>match f,i with|172,0=>([0,1,4,5,6,7],[0,1],[])|_,_=>([],[],[])
 keepR:=λf i=>match f,i with|172,0=>([4],[0,1],[4])|_,_=>([],[],[])
 L:=λf i b st=>match f,i,b with|172,0,0=>(matchSt z109.l0sh st).bind z109.l0pack|_,_,_=>none
def z109.dec:V->Option ((List Int))
 |(.ints _ .i64 x0)=>some x0
 |_=>none
theorem z109.l0_link (R:Type) (k:Env×Store->Option R) (d:X×Env×Store->Option R) (a b:List Int) (c e:Int) (g h:List Int) :
  z109.C.loopP 172 0 (Qf 0 (ifun Tryz.f172).body) 2 k d (Qb z109.l0sh [.li a,.li b,.i c,.i e,.li g,.li h]) =
  z109.l0P a b (λx'=>k (Qb z109.l0sh [.li a,.li b,.i x'.1,.i x'.2.1,.li g,.li x'.2.2])) (λo=>d (z109.l0out0 a b c e g h o)) (c,e,h):=by kernel_rfl
theorem z109.link (a0 a1:List Int):z109.C.evTop 172 (ifun Tryz.f172) [(.ints false .i64 a0),(.ints false .i64 a1)] z109.dec=z109.F a0 a1:=by kernel_rfl
def z112.C:Ctx where
 T:=tab
def z112.dec:V->Option (Int)
 |(.int .i64 x0)=>some x0
 |_=>none
theorem z112.link (a0:List Int) (a1:Bool):z112.C.evTop 197 (ifun Tryz.f197) [(.agg [(.ints false .i64 a0),(.bool a1)])] z112.dec=z112.F a0 a1:=by kernel_rfl
def z113.C:Ctx where
 T:=tab
 call:=λg args=>match g with|63=>z111.pack args|197=>z112.pack args|_=>none
def z113.dec:V->Option (Int)
 |(.int .i64 x0)=>some x0
 |_=>none
theorem z113.link (a0:List Int) (a1:Bool) (a2:List Int) (a3:Bool):z113.C.evTop 117 (ifun Tryz.f117) [(.agg [(.ints false .i64 a0),(.bool a1)]),(.agg [(.ints false .i64 a2),(.bool a3)])] z113.dec=z113.F a0 a1 a2 a3:=by kernel_rfl
def z152.C:Ctx where
 T:=tab
 draws:=λf i=>match f,i with|89,1=>([(6,[(2,0)],0),(7,[(5,1)],1),(8,[(3,0)],0),(9,[(7,3)],4),(10,[(6,2),(8,4)],15),(11,[(2,0)],0),(12,[(10,6)],63),(13,[(3,0)],0),(14,[(12,8)],255),(15,[(11,7),(13,9)],511),(16,[(9,5),(14,10)],1023),(0,[(4,0),(15,11)],2047)],65504)|_,_=>([],0)
 call:=λg args=>match g with|156=>z54.pack args|130=>z73.pack args|164=>z40.pack args|163=>z70.pack args|_=>none
def z152.dec:V->Option ((List Int)×Bool×(List Int))
 |(.agg [(.ints _ .u64 x0),(.bool x1),(.ints _ .u64 x2)])=>some (x0,x1,x2)
 |_=>none
theorem z152.link (a0:List Int) (a1:Bool) (a2 a3:List Int) (a4:Bool) (a5:List Int):z152.C.evTop 89 (ifun Tryz.f89) [(.agg [(.ints false .u64 a0),(.bool a1),(.ints false .u64 a2)]),(.agg [(.ints false .u64 a3),(.bool a4),(.ints false .u64 a5)])] z152.dec=z152.F a0 a1 a2 a3 a4 a5:=by kernel_rfl
def z154.C:Ctx where
 T:=tab
 call:=λg args=>match g with|230=>z153.pack args|_=>none
def z154.dec:V->Option ((List Int)×Bool×(List Int))
 |(.agg [(.ints _ .u64 x0),(.bool x1),(.ints _ .u64 x2)])=>some (x0,x1,x2)
 |_=>none
theorem z154.link (a0 a1 a2 a3 a4 a5:Int):z154.C.evTop 229 (ifun Tryz.f229) [(.agg [(.int .i64 a0),(.int .i64 a1),(.int .i64 a2)]),(.agg [(.int .i64 a3),(.int .i64 a4),(.int .i64 a5)])] z154.dec=z154.F a0 a1 a2 a3 a4 a5:=by kernel_rfl
def z156.C:Ctx where
 T:=tab
 call:=λg args=>match g with|65=>z155.pack args|_=>none
def z156.dec:V->Option (Int)
 |(.int .i64 x0)=>some x0
 |_=>none
theorem z156.link (a0 a1 a2 a3 a4 a5:Int):z156.C.evTop 231 (ifun Tryz.f231) [(.agg [(.int .i64 a0),(.int .i64 a1),(.int .i64 a2)]),(.agg [(.int .i64 a3),(.int .i64 a4),(.int .i64 a5)])] z156.dec=z156.F a0 a1 a2 a3 a4 a5:=by kernel_rfl
def z157.C:Ctx where
 T:=tab
 call:=λg args=>match g with|259=>z87.pack args|_=>none
def z157.dec:V->Option (Int)
 |(.int .i64 x0)=>some x0
 |_=>none
theorem z157.link (a0:Int):z157.C.evTop 269 (ifun Tryz.f269) [(.int .i64 a0)] z157.dec=z157.F a0:=by kernel_rfl
def z158.C:Ctx where
 T:=tab
 draws:=λf i=>match f,i with|232,2=>([(13,[(2,0)],0),(14,[(3,0)],0),(15,[(12,1),(13,2)],3),(16,[(2,0)],0),(17,[(15,4)],8),(18,[(16,5)],31),(19,[(14,3),(17,6)],63),(0,[(4,0),(18,7)],127)],520192)|232,5=>([(31,[(5,0)],0),(32,[(2,0)],0),(33,[(31,2)],2),(34,[(32,3)],6),(35,[(30,1),(33,4)],15),(36,[(3,0)],0),(37,[(35,6)],32),(38,[(2,0)],0),(39,[(37,8)],128),(40,[(36,7),(38,9)],480),(41,[(39,10)],992),(42,[(40,11)],2047),(43,[(34,5),(41,12)],4095),(44,[(6,0)],0),(45,[(3,0)],0),(46,[(44,15)],16384),(47,[(45,16)],57343),(48,[(43,14),(46,17)],131071),(49,[(42,13),(47,18)],262143),(0,[(4,0),(48,19)],524287)],562948879679488)|_,_=>([],0)
 call:=λg args=>match g with|231=>z156.pack args|269=>z157.pack args|230=>z153.pack args|78=>z151.pack args|_=>none
def z158.dec:V->Option ((List Int)×Bool×(List Int))
 |(.agg [(.ints _ .u64 x0),(.bool x1),(.ints _ .u64 x2)])=>some (x0,x1,x2)
 |_=>none
theorem z158.link (a0 a1 a2 a3 a4 a5:Int):z158.C.evTop 232 (ifun Tryz.f232) [(.agg [(.int .i64 a0),(.int .i64 a1),(.int .i64 a2)]),(.agg [(.int .i64 a3),(.int .i64 a4),(.int .i64 a5)])] z158.dec=z158.F a0 a1 a2 a3 a4 a5:=by kernel_rfl
def z160.C:Ctx where
 T:=tab
 call:=λg args=>match g with|57=>z96.pack args|_=>none
def z160.dec:V->Option (Int×Int×Int)
 |(.agg [(.int .i64 x0),(.int .i64 x1),(.int .i64 x2)])=>some (x0,x1,x2)
 |_=>none
theorem z160.link (a0 a1 a2 a3 a4 a5:Int):z160.C.evTop 218 (ifun Tryz.f218) [(.agg [(.int .i64 a0),(.int .i64 a1),(.int .i64 a2)]),(.agg [(.int .i64 a3),(.int .i64 a4),(.int .i64 a5)])] z160.dec=z160.F a0 a1 a2 a3 a4 a5:=by kernel_rfl
def z173.C:Ctx where
 T:=tab
 call:=λg args=>match g with|59=>z162.pack args|73=>z172.pack args|25=>z135.pack args|147=>z145.pack args|_=>none
def z173.dec:V->Option (Bool)
 |(.bool x0)=>some x0
 |_=>none
theorem z173.link:z173.C.evTop 64 (ifun Tryz.f64) [] z173.dec=z173.F:=by kernel_rfl
end
noncomputable section
def z7.C:Ctx where
 T:=tab
def z7.dec:V->Option ((List Int)×Bool)
 |(.agg [(.ints _ .i64 x0),(.bool x1)])=>some (x0,x1)
 |_=>none
theorem z7.link (a0:List Int) (a1:Bool):z7.C.evTop 113 (ifun Tryz.f113) [(.ints false .i64 a0),(.bool a1)] z7.dec=z7.F a0 a1:=by kernel_rfl
def z12.C:Ctx where
 T:=tab
 call:=λg args=>match g with|153=>z11.pack args|_=>none
def z12.dec:V->Option (Int×Int×Int)
 |(.agg [(.int .i64 x0),(.int .i64 x1),(.int .i64 x2)])=>some (x0,x1,x2)
 |_=>none
theorem z12.link (a0 a1 a2 a3:Int):z12.C.evTop 95 (ifun Tryz.f95) [(.agg [(.int .i64 a0),(.int .i64 a1),(.int .i64 a2)]),(.int .i64 a3)] z12.dec=z12.F a0 a1 a2 a3:=by kernel_rfl
def z13.C:Ctx where
 T:=tab
def z13.dec:V->Option (Int)
 |(.int .i64 x0)=>some x0
 |_=>none
theorem z13.link (a0:List Int) (a1:Int):z13.C.evTop 234 (ifun Tryz.f234) [(.ints false .i64 a0),(.int .i64 a1)] z13.dec=z13.F a0 a1:=by kernel_rfl
def z105.l0sh:Env×Store:=((.int .i64 0) :: .undef::(.sref 0 0)::(.str ([]:List UInt8))::(.int .i64 0)::un 9 [],[(.arr 0 true 3 (.ints false .i64 []))])
def z105.l0out0 (a:Int) (b:List UInt8) (c:Int) (d:List Int) (o:(List UInt8)×Int):X×Env×Store:=((.exit 0),Qb z105.l0sh [.i a,.s o.1,.i o.2,.li d])
def z105.l0pack:List Leaf->Option LPack
 |[.i a,.s b,.i c,.li d]=>some (.one _ (z105.l0 a (b,c)) (z105.l0out0 a b c d))
 |_=>none
def z105.C:Ctx where
 T:=tab
 call:=λg args=>match g with|192=>z101.pack args|_=>none
 keep:=λf i=>match f,i with|116,0=>([0,2,3,4],[0],[])|_,_=>([],[],[])
 keepE:=λf i=>match f,i with|116,0=>([0,2,3,4],[0],[])|_,_=>([],[],[])
 keepR:=λf i=>match f,i with|116,0=>([2],[0],[2])|_,_=>([],[],[])
 L:=λf i b st=>match f,i,b with|116,0,0=>(matchSt z105.l0sh st).bind z105.l0pack|_,_,_=>none
def z105.dec:V->Option ((List Int))
 |(.ints _ .i64 x0)=>some x0
 |_=>none
theorem z105.l0_link (R:Type) (k:Env×Store->Option R) (d:X×Env×Store->Option R) (a:Int) (b:List UInt8) (c:Int) (e:List Int) :
  z105.C.loopP 116 0 (Qf 0 (ifun Tryz.f116).body) 1 k d (Qb z105.l0sh [.i a,.s b,.i c,.li e]) =
  z105.l0P a (λx'=>k (Qb z105.l0sh [.i a,.s x'.1,.i x'.2,.li e])) (λo=>d (z105.l0out0 a b c e o)) (b,c):=by kernel_rfl
theorem z105.link (a0:Int):z105.C.evTop 116 (ifun Tryz.f116) [(.int .i64 a0)] z105.dec=z105.F a0:=by kernel_rfl
def z110.C:Ctx where
 T:=tab
 call:=λg args=>match g with|170=>z107.pack args|113=>z7.pack args|171=>z108.pack args|172=>z109.pack args|_=>none
def z110.dec:V->Option ((List Int)×Bool)
 |(.agg [(.ints _ .i64 x0),(.bool x1)])=>some (x0,x1)
 |_=>none
theorem z110.link (a0:List Int) (a1:Bool) (a2:List Int) (a3:Bool):z110.C.evTop 85 (ifun Tryz.f85) [(.agg [(.ints false .i64 a0),(.bool a1)]),(.agg [(.ints false .i64 a2),(.bool a3)])] z110.dec=z110.F a0 a1 a2 a3:=by kernel_rfl
def z111.C:Ctx where
 T:=tab
 call:=λg args=>match g with|35=>z106.pack args|85=>z110.pack args|_=>none
def z111.dec:V->Option ((List Int)×Bool)
 |(.agg [(.ints _ .i64 x0),(.bool x1)])=>some (x0,x1)
 |_=>none
theorem z111.link (a0:List Int) (a1:Bool) (a2:List Int) (a3:Bool):z111.C.evTop 63 (ifun Tryz.f63) [(.agg [(.ints false .i64 a0),(.bool a1)]),(.agg [(.ints false .i64 a2),(.bool a3)])] z111.dec=z111.F a0 a1 a2 a3:=by kernel_rfl
def z117.C:Ctx where
 T:=tab
 call:=λg args=>match g with|256=>z116.pack args|221=>z115.pack args|113=>z7.pack args|_=>none
def z117.dec:V->Option ((List Int)×Bool×(List Int))
 |(.agg [(.ints _ .i64 x0),(.bool x1),(.ints _ .i64 x2)])=>some (x0,x1,x2)
 |_=>none
theorem z117.link (a0:List Int) (a1:Bool) (a2:List Int):z117.C.evTop 206 (ifun Tryz.f206) [(.agg [(.ints false .i64 a0),(.bool a1)]),(.ints false .i64 a2)] z117.dec=z117.F a0 a1 a2:=by kernel_rfl
def z118.C:Ctx where
 T:=tab
 call:=λg args=>match g with|35=>z106.pack args|206=>z117.pack args|_=>none
def z118.dec:V->Option ((List Int)×Bool×(List Int))
 |(.agg [(.ints _ .i64 x0),(.bool x1),(.ints _ .i64 x2)])=>some (x0,x1,x2)
 |_=>none
theorem z118.link (a0:List Int) (a1:Bool) (a2:List Int) (a3:Bool):z118.C.evTop 205 (ifun Tryz.f205) [(.agg [(.ints false .i64 a0),(.bool a1)]),(.agg [(.ints false .i64 a2),(.bool a3)])] z118.dec=z118.F a0 a1 a2 a3:=by kernel_rfl
def z120.l0b10sh:Env×Store:=((.str ([]:List UInt8)) :: .undef::(.ptr 0 0)::(.int .i64 0)::(.ptr 1 0)::(.bool false)::(.int .i64 0)::(.str ([]:List UInt8))::(.int .i64 0)::(.int .i64 0)::(.bool false)::un 90 [],[(.cells 213 [(.ints false .i64 []),(.bool false),(.int .i64 0)]),(.cells 213 [(.ints false .i64 []),(.bool false),(.int .i64 0)])])
def z120.l0b10so1:Env×Store:=(.undef :: .undef::(.ptr 0 0)::(.int .i64 0)::un 97 [],[(.cells 213 [(.ints false .i64 []),(.bool false),(.int .i64 0)]),(.cells 213 [(.ints false .i64 []),(.bool false),(.int .i64 0)])])
def z120.l0b10out0 (a:List UInt8) (c:Int) (d:Bool) (e:Int) (g:List UInt8) (h j:Int) (k:Bool) (m:List Int) (n:Bool) (p:Int) (q:List Int) (r:Bool) (t:Int) (o:Int×(List UInt8)×Int×Int×Bool):X×Env×Store:=((.exit 0),Qb z120.l0b10sh [.s a,.i c,.b d,.i o.1,.s o.2.1,.i o.2.2.1,.i o.2.2.2.1,.b o.2.2.2.2,.li m,.b n,.i p,.li q,.b r,.i t])
def z120.l0b10out1 (a:List UInt8) (c:Int) (d:Bool) (e:Int) (g:List UInt8) (h j:Int) (k:Bool) (m:List Int) (n:Bool) (p:Int) (q:List Int) (r:Bool) (s o:Int):X×Env×Store:=(.ret,Qb z120.l0b10so1 [.i o,.li q,.b r,.i s,.li q,.b r,.i s])
def z120.l0b10pack:List Leaf->Option LPack
 |[.s a,.i c,.b d,.i e,.s g,.i h,.i j,.b k,.li m,.b n,.i o,.li p,.b q,.i r]=>some (.two _ _ (z120.l0b10 a (e,g,h,j,k)) (z120.l0b10out0 a c d e g h j k m n o p q r) (z120.l0b10out1 a c d e g h j k m n o p q r))
 |_=>none
def z120.C:Ctx where
 T:=tab
 call:=λg args=>match g with|192=>z101.pack args|113=>z7.pack args|_=>none
 keep:=λf i=>match f,i with|126,0=>([0,2,3,4,5,6,7,8,9,10,70,71,74,75,76,77,78,79,80,83,84,85,86],[0,1],[])|_,_=>([],[],[])
 keepE:=λf i=>match f,i with|126,0=>([0,2,3,4,5,6,7,8,9,10,70,71,74,75,76,77,78,79,80,83,84,85,86],[0,1],[])|_,_=>([],[],[])
 keepR:=λf i=>match f,i with|126,0=>([2,3],[0,1],[2,3])|_,_=>([],[],[])
 L:=λf i b st=>match f,i,b with|126,0,0=>(matchSt z120.l0b10sh st).bind z120.l0b10pack|_,_,_=>none
def z120.dec:V->Option ((List Int)×Bool×Int×Int)
 |(.tup [(.agg [(.ints _ .i64 x0),(.bool x1),(.int .i64 x2)]),(.int .i64 x3)])=>some (x0,x1,x2,x3)
 |_=>none
theorem z120.l0b10_link (R:Type) (k:Env×Store->Option R) (d:X×Env×Store->Option R) (a:List UInt8) (c:Int) (e:Bool) (g:Int) (h:List UInt8) (j m:Int) (n:Bool) (p:List Int) (q:Bool) (r:Int) (t:List Int) (u:Bool) (v:Int) :
  z120.C.loopP 126 0 (Qf 0 (ifun Tryz.f126).body) 2 k d (Qb z120.l0b10sh [.s a,.i c,.b e,.i g,.s h,.i j,.i m,.b n,.li p,.b q,.i r,.li t,.b u,.i v]) =
  z120.l0b10P a (λx'=>k (Qb z120.l0b10sh [.s a,.i c,.b e,.i x'.1,.s x'.2.1,.i x'.2.2.1,.i x'.2.2.2.1,.b x'.2.2.2.2,.li p,.b q,.i r,.li t,.b u,.i v])) (λo=>match o with | .inl o=>d (z120.l0b10out0 a c e g h j m n p q r t u v o) | .inr o=>d (z120.l0b10out1 a c e g h j m n p q r t u v o)) (g,h,j,m,n):=by kernel_rfl
theorem z120.link (a0:List UInt8):z120.C.evTop 126 (ifun Tryz.f126) [(.str a0)] z120.dec=z120.F a0:=by kernel_rfl
def z126.C:Ctx where
 T:=tab
 call:=λg args=>match g with|153=>z11.pack args|_=>none
def z126.dec:V->Option (Bool)
 |(.bool x0)=>some x0
 |_=>none
theorem z126.link (a0 a1 a2:Int):z126.C.evTop 80 (ifun Tryz.f80) [(.agg [(.int .i64 a0),(.int .i64 a1),(.int .i64 a2)])] z126.dec=z126.F a0 a1 a2:=by kernel_rfl
def z140.C:Ctx where
 T:=tab
 call:=λg args=>match g with|26=>z6.pack args|102=>z5.pack args|_=>none
def z140.dec:V->Option ((List UInt8))
 |(.str x0)=>some x0
 |_=>none
theorem z140.link (a0:List Int) (a1:Bool) (a2:List Int):z140.C.evTop 42 (ifun Tryz.f42) [(.agg [(.ints false .i64 a0),(.bool a1),(.ints false .i64 a2)])] z140.dec=z140.F a0 a1 a2:=by kernel_rfl
def z144.l2sh:Env×Store:=(.undef::(.ptr 0 0)::(.sref 1 0)::(.sref 2 0)::(.ptr 3 0)::(.int .i64 0)::(.ptr 4 0)::(.int .i64 0)::un 15 ((.int .i64 0)::(.bool false)::un 64 []),[(.cells 124 [(.int .i64 0),(.int .i64 0),(.int .i64 0),(.ints false .u8 []),(.ints false .u32 []),(.ints false .u16 [])]),(.arr 0 true 130 (.recs false 8 [])),(.arr 0 true 130 (.recs false 8 [])),(.cells 41 [(.int .i64 0),(.int .i64 0),(.int .i64 0)]),(.cells 41 [(.int .i64 0),(.int .i64 0),(.int .i64 0)])])
def z144.l2out0 (a c d:Int) (e:Bool) (g h j:Int) (k m n:List Int) (p q:List (List V)) (r s t u v w:Int) (o:Int×Int×Int×Int):X×Env×Store:=((.exit 2),Qb z144.l2sh [.i a,.i o.1,.i d,.b e,.i g,.i h,.i j,.li k,.li m,.li n,.lr p,.lr q,.i r,.i s,.i t,.i o.2.1,.i o.2.2.1,.i o.2.2.2])
def z144.l2pack:List Leaf->Option LPack
 |[.i a,.i c,.i d,.b e,.i g,.i h,.i j,.li k,.li m,.li n,.lr o,.lr p,.i q,.i r,.i s,.i t,.i u,.i v]=>some (.one _ (z144.l2 a k (c,t,u,v)) (z144.l2out0 a c d e g h j k m n o p q r s t u v))
 |_=>none
def z144.l0aash:Env×Store:=(.undef::(.ptr 0 0)::(.sref 1 0)::(.sref 2 0)::(.ptr 3 0)::(.int .i64 0)::un 83 [],[(.cells 124 [(.int .i64 0),(.int .i64 0),(.int .i64 0),(.ints false .u8 []),(.ints false .u32 []),(.ints false .u16 [])]),(.arr 0 true 130 (.recs false 8 [])),(.arr 0 true 130 (.recs false 8 [])),(.cells 41 [(.int .i64 0),(.int .i64 0),(.int .i64 0)])])
def z144.l0aaout0 (a b c d:Int) (e g h:List Int) (j k:List (List V)) (m n p:Int) (o:Int×(List (List V))×Int×Int×Int):X×Env×Store:=((.exit 0),Qb z144.l0aash [.i o.1,.i b,.i c,.i d,.li e,.li g,.li h,.lr j,.lr o.2.1,.i o.2.2.1,.i o.2.2.2.1,.i o.2.2.2.2])
def z144.l0aapack:List Leaf->Option LPack
 |[.i a,.i b,.i c,.i d,.li e,.li g,.li h,.lr j,.lr k,.i m,.i n,.i o]=>some (.one _ (z144.l0aa e g h (a,k,m,n,o)) (z144.l0aaout0 a b c d e g h j k m n o))
 |_=>none
def z144.C:Ctx where
 T:=tab
 call:=λg args=>match g with|95=>z12.pack args|61=>z143.pack args|60=>z9.pack args|26=>z6.pack args|_=>none
 keep:=λf i=>match f,i with|58,2=>([1,2,3,4,5,6,7,23,24],[0,1,2,3,4],[])|58,0=>([1,2,3,4,5],[0,1,2,3],[])|_,_=>([],[],[])
 keepE:=λf i=>match f,i with|58,2=>([1,2,3,4,5,6,7,23,24],[0,1,2,3,4],[])|58,0=>([1,2,3,4,5],[0,1,2,3],[])|_,_=>([],[],[])
 keepR:=λf i=>match f,i with|58,2=>([2],[0,1,2,3,4],[2])|58,0=>([2],[0,1,2,3],[2])|_,_=>([],[],[])
 L:=λf i b st=>match f,i,b with|58,2,0=>(matchSt z144.l2sh st).bind z144.l2pack|58,0,0=>(matchSt z144.l0aash st).bind z144.l0aapack|_,_,_=>none
def z144.dec:V->Option ((List (List V)))
 |(.recs _ 8 x0)=>some x0
 |_=>none
theorem z144.l2_link (R:Type) (k:Env×Store->Option R) (d:X×Env×Store->Option R) (a c e:Int) (g:Bool) (h j m:Int) (n p q:List Int) (r s:List (List V)) (t u v w x y:Int) :
  z144.C.loopP 58 2 (Qf 2 (ifun Tryz.f58).body) 5 k d (Qb z144.l2sh [.i a,.i c,.i e,.b g,.i h,.i j,.i m,.li n,.li p,.li q,.lr r,.lr s,.i t,.i u,.i v,.i w,.i x,.i y]) =
  z144.l2P a n (λx'=>k (Qb z144.l2sh [.i a,.i x'.1,.i e,.b g,.i h,.i j,.i m,.li n,.li p,.li q,.lr r,.lr s,.i t,.i u,.i v,.i x'.2.1,.i x'.2.2.1,.i x'.2.2.2])) (λo=>d (z144.l2out0 a c e g h j m n p q r s t u v w x y o)) (c,w,x,y):=by kernel_rfl
theorem z144.l0aa_link (R:Type) (k:Env×Store->Option R) (d:X×Env×Store->Option R) (a b c e:Int) (g h j:List Int) (m n:List (List V)) (p q r:Int) :
  z144.C.loopP 58 0 (Qf 0 (ifun Tryz.f58).body) 4 k d (Qb z144.l0aash [.i a,.i b,.i c,.i e,.li g,.li h,.li j,.lr m,.lr n,.i p,.i q,.i r]) =
  z144.l0aaP g h j (λx'=>k (Qb z144.l0aash [.i x'.1,.i b,.i c,.i e,.li g,.li h,.li j,.lr m,.lr x'.2.1,.i x'.2.2.1,.i x'.2.2.2.1,.i x'.2.2.2.2])) (λo=>d (z144.l0aaout0 a b c e g h j m n p q r o)) (a,n,p,q,r):=by kernel_rfl
theorem z144.link (a0 a1 a2:Int) (a3 a4 a5:List Int):z144.C.evTop 58 (ifun Tryz.f58) [(.agg [(.int .i64 a0),(.int .i64 a1),(.int .i64 a2),(.ints false .u8 a3),(.ints false .u32 a4),(.ints false .u16 a5)])] z144.dec=z144.F a0 a1 a2 a3 a4 a5:=by kernel_rfl
def z155.C:Ctx where
 T:=tab
 call:=λg args=>match g with|140=>z98.pack args|_=>none
def z155.dec:V->Option (Int×Int)
 |(.tup [(.int .i64 x0),(.int .i64 x1)])=>some (x0,x1)
 |_=>none
theorem z155.link (a0 a1 a2 a3 a4 a5:Int):z155.C.evTop 65 (ifun Tryz.f65) [(.agg [(.int .i64 a0),(.int .i64 a1),(.int .i64 a2)]),(.agg [(.int .i64 a3),(.int .i64 a4),(.int .i64 a5)])] z155.dec=z155.F a0 a1 a2 a3 a4 a5:=by kernel_rfl
def z159.C:Ctx where
 T:=tab
 call:=λg args=>match g with|228=>z82.pack args|142=>z89.pack args|57=>z96.pack args|229=>z154.pack args|231=>z156.pack args|230=>z153.pack args|232=>z158.pack args|_=>none
def z159.dec:V->Option ((List Int)×Bool×(List Int)×Int)
 |(.tup [(.agg [(.ints _ .u64 x0),(.bool x1),(.ints _ .u64 x2)]),(.int .i64 x3)])=>some (x0,x1,x2,x3)
 |_=>none
theorem z159.link (a0 a1 a2 a3 a4 a5 a6:Int):z159.C.evTop 165 (ifun Tryz.f165) [(.int .i64 a0),(.agg [(.int .i64 a1),(.int .i64 a2),(.int .i64 a3)]),(.agg [(.int .i64 a4),(.int .i64 a5),(.int .i64 a6)])] z159.dec=z159.F a0 a1 a2 a3 a4 a5 a6:=by kernel_rfl
def z162.l0sh:Env×Store:=((.int .i64 0)::(.int .i64 0)::(.recs false 8 [])::un 3 ((.sref 0 0)::(.int .i64 0) :: .undef::(.sref 1 0)::(.ptr 2 0)::(.ptr 3 0)::un 54 []),[(.arr 0 true 39 (.recs false 2 [])),(.arr 0 true 39 (.recs false 2 [])),(.cells 39 [(.ints false .u64 []),(.bool false)]),(.cells 41 [(.int .i64 0),(.int .i64 0),(.int .i64 0)])])
def z162.l0out0 (a c:Int) (d:List (List V)) (e:Int) (g h:List (List V)) (j:List Int) (k:Bool) (m n p:Int) (o:(List (List V))×(List Int)×Bool×Int×Int×Int):X×Env×Store:=((.exit 0),Qb z162.l0sh [.i a,.i c,.lr d,.i e,.lr g,.lr o.1,.li o.2.1,.b o.2.2.1,.i o.2.2.2.1,.i o.2.2.2.2.1,.i o.2.2.2.2.2])
def z162.l0pack:List Leaf->Option LPack
 |[.i a,.i c,.lr d,.i e,.lr g,.lr h,.li j,.b k,.i m,.i n,.i o]=>some (.one _ (z162.l0 a c d (h,j,k,m,n,o)) (z162.l0out0 a c d e g h j k m n o))
 |_=>none
def z162.C:Ctx where
 T:=tab
 draws:=λf i=>match f,i with|59,11=>([(35,[(11,0)],0),(36,[(2,0)],0),(37,[(2,0)],0),(38,[(36,3)],4),(39,[(37,4)],12),(40,[(35,2),(38,5)],30),(41,[(39,6)],62),(42,[(40,7)],126),(43,[(34,1),(41,8)],255)],8778913153024)|_,_=>([],0)
 call:=λg args=>match g with|147=>z145.pack args|148=>z146.pack args|149=>z81.pack args|54=>z100.pack args|151=>z161.pack args|150=>z150.pack args|90=>z33.pack args|_=>none
 moves:=λf i=>match f,i with|59,0=>[(11,3)]|_,_=>[]
 keep:=λf i=>match f,i with|59,0=>([0,1,2,6,7,9,10,11],[0,1,2,3],[])|_,_=>([],[],[])
 keepE:=λf i=>match f,i with|59,0=>([0,1,2,6,7,9,10,11],[0,1,2,3],[])|_,_=>([],[],[])
 keepR:=λf i=>match f,i with|59,0=>([6,7],[0,1,2,3],[6,7])|_,_=>([],[],[])
 L:=λf i b st=>match f,i,b with|59,0,0=>(matchSt z162.l0sh st).bind z162.l0pack|_,_,_=>none
def z162.dec:V->Option ((List (List V))×Int)
 |(.tup [(.recs _ 2 x0),(.int .i64 x1)])=>some (x0,x1)
 |_=>none
theorem z162.l0_link (R:Type) (k:Env×Store->Option R) (d:X×Env×Store->Option R) (a c:Int) (e:List (List V)) (g:Int) (h j:List (List V)) (m:List Int) (n:Bool) (p q r:Int) :
  z162.C.loopP 59 0 (Qf 0 (ifun Tryz.f59).body) 4 k d (Qb z162.l0sh [.i a,.i c,.lr e,.i g,.lr h,.lr j,.li m,.b n,.i p,.i q,.i r]) =
  z162.l0P a c e (λx'=>k (Qb z162.l0sh [.i a,.i c,.lr e,.i g,.lr h,.lr x'.1,.li x'.2.1,.b x'.2.2.1,.i x'.2.2.2.1,.i x'.2.2.2.2.1,.i x'.2.2.2.2.2])) (λo=>d (z162.l0out0 a c e g h j m n p q r o)) (j,m,n,p,q,r):=by kernel_rfl
theorem z162.link (a0 a1:Int) (a2:List (List V)):z162.C.evTop 59 (ifun Tryz.f59) [(.int .i64 a0),(.int .i64 a1),(.recs false 8 a2)] z162.dec=z162.F a0 a1 a2:=by kernel_rfl
def z163.C:Ctx where
 T:=tab
 call:=λg args=>match g with|207=>z122.pack args|85=>z110.pack args|208=>z15.pack args|206=>z117.pack args|_=>none
def z163.dec:V->Option ((List Int)×Bool×(List Int))
 |(.agg [(.ints _ .i64 x0),(.bool x1),(.ints _ .i64 x2)])=>some (x0,x1,x2)
 |_=>none
theorem z163.link (a0:List Int) (a1:Bool) (a2 a3:List Int) (a4:Bool) (a5:List Int):z163.C.evTop 220 (ifun Tryz.f220) [(.agg [(.ints false .i64 a0),(.bool a1),(.ints false .i64 a2)]),(.agg [(.ints false .i64 a3),(.bool a4),(.ints false .i64 a5)])] z163.dec=z163.F a0 a1 a2 a3 a4 a5:=by kernel_rfl
def z164.l0sh:Env×Store:=(.undef::(.ptr 0 0)::(.int .i64 0)::(.int .i64 0)::(.int .i64 0)::un 33 [],[(.cells 41 [(.int .i64 0),(.int .i64 0),(.int .i64 0)])])
def z164.l0out0 (a b c d e g:Int) (o:Int×Int):X×Env×Store:=((.exit 0),Qb z164.l0sh [.i a,.i o.1,.i o.2,.i d,.i e,.i g])
def z164.l0pack:List Leaf->Option LPack
 |[.i a,.i b,.i c,.i d,.i e,.i g]=>some (.one _ (z164.l0 d (b,c)) (z164.l0out0 a b c d e g))
 |_=>none
def z164.l2sh:Env×Store:=(.undef::(.ptr 0 0)::(.int .i64 0)::(.int .i64 0) :: .undef :: .undef::(.int .i64 0)::un 31 [],[(.cells 41 [(.int .i64 0),(.int .i64 0),(.int .i64 0)])])
def z164.l2out0 (a b c d e g:Int) (o:Int×Int):X×Env×Store:=((.exit 2),Qb z164.l2sh [.i a,.i o.1,.i o.2,.i d,.i e,.i g])
def z164.l2pack:List Leaf->Option LPack
 |[.i a,.i b,.i c,.i d,.i e,.i g]=>some (.one _ (z164.l2 d e (b,c)) (z164.l2out0 a b c d e g))
 |_=>none
def z164.C:Ctx where
 T:=tab
 call:=λg args=>match g with|219=>z10.pack args|153=>z11.pack args|_=>none
 keep:=λf i=>match f,i with|233,0=>([1,2,3,4],[0],[])|233,2=>([1,2,3,6],[0],[])|_,_=>([],[],[])
 keepE:=λf i=>match f,i with|233,0=>([1,2,3,4],[0],[])|233,2=>([1,2,3,6],[0],[])|_,_=>([],[],[])
 keepR:=λf i=>match f,i with|233,0=>([2],[0],[2])|233,2=>([2],[0],[2])|_,_=>([],[],[])
 L:=λf i b st=>match f,i,b with|233,0,0=>(matchSt z164.l0sh st).bind z164.l0pack|233,2,0=>(matchSt z164.l2sh st).bind z164.l2pack|_,_,_=>none
def z164.dec:V->Option (Int)
 |(.int .i64 x0)=>some x0
 |_=>none
theorem z164.l0_link (R:Type) (k:Env×Store->Option R) (d:X×Env×Store->Option R) (a b c e g h:Int) :
  z164.C.loopP 233 0 (Qf 0 (ifun Tryz.f233).body) 1 k d (Qb z164.l0sh [.i a,.i b,.i c,.i e,.i g,.i h]) =
  z164.l0P e (λx'=>k (Qb z164.l0sh [.i a,.i x'.1,.i x'.2,.i e,.i g,.i h])) (λo=>d (z164.l0out0 a b c e g h o)) (b,c):=by kernel_rfl
theorem z164.l2_link (R:Type) (k:Env×Store->Option R) (d:X×Env×Store->Option R) (a b c e g h:Int) :
  z164.C.loopP 233 2 (Qf 2 (ifun Tryz.f233).body) 1 k d (Qb z164.l2sh [.i a,.i b,.i c,.i e,.i g,.i h]) =
  z164.l2P e g (λx'=>k (Qb z164.l2sh [.i a,.i x'.1,.i x'.2,.i e,.i g,.i h])) (λo=>d (z164.l2out0 a b c e g h o)) (b,c):=by kernel_rfl
theorem z164.link (a0 a1 a2:Int):z164.C.evTop 233 (ifun Tryz.f233) [(.agg [(.int .i64 a0),(.int .i64 a1),(.int .i64 a2)])] z164.dec=z164.F a0 a1 a2:=by kernel_rfl
def z166.C:Ctx where
 T:=tab
def z166.dec:V->Option ((List Int)×Bool×(List Int))
 |(.agg [(.ints _ .i64 x0),(.bool x1),(.ints _ .i64 x2)])=>some (x0,x1,x2)
 |_=>none
theorem z166.link (a0:List Int) (a1:Bool):z166.C.evTop 167 (ifun Tryz.f167) [(.agg [(.ints false .i64 a0),(.bool a1)])] z166.dec=z166.F a0 a1:=by kernel_rfl
end
noncomputable section
theorem z5.l2_sound (hI:InlOK Tryz.prog z5.C λR=>z5.C.inlK 6):Qh z5.C 6 102 2 0 (Qf 2 (ifun Tryz.f102).body) z5.l2sh z5.l2pack:=by
 refine Qi λls p h=>?_
 unfold z5.l2pack at h;split at h<;>cases h
 rename_i a b c e g j
 exact Qm hI (sh:=z5.l2sh) (so:=z5.l2sh) (F:=λR rec done x=>z5.l2P rec done x) (enc:=λ(x':((List UInt8)×Int×Int))=>Qb z5.l2sh [.li a,.s b,.s x'.1,.i e,.i x'.2.1,.i x'.2.2]) [2,4,5] [2,4,5] (c,g,j) (by kernel_rfl) (by kernel_rfl) (λx=>by kernel_rfl) (λo=>by kernel_rfl) λR k d x'=>z5.l2_link R k d a b (x'.1) e (x'.2.1) (x'.2.2)
theorem z5.l0_sound (hI:InlOK Tryz.prog z5.C λR=>z5.C.inlK 6):Qh z5.C 6 102 0 0 (Qf 0 (ifun Tryz.f102).body) z5.l0sh z5.l0pack:=by
 refine Qi λls p h=>?_
 unfold z5.l0pack at h;split at h<;>cases h
 rename_i a b c e
 exact Qm hI (sh:=z5.l0sh) (so:=z5.l0sh) (F:=λR rec done x=>z5.l0P a rec done x) (enc:=λ(x':((List UInt8)×Int))=>Qb z5.l0sh [.li a,.s b,.s x'.1,.i x'.2]) [2,3] [2,3] (c,e) (by kernel_rfl) (by kernel_rfl) (λx=>by kernel_rfl) (λo=>by kernel_rfl) λR k d x'=>z5.l0_link R k d a b (x'.1) (x'.2)
theorem z5.l4_sound (hI:InlOK Tryz.prog z5.C λR=>z5.C.inlK 6):Qh z5.C 6 102 4 0 (Qf 4 (ifun Tryz.f102).body) z5.l4sh z5.l4pack:=by
 refine Qi λls p h=>?_
 unfold z5.l4pack at h;split at h<;>cases h
 rename_i a b c
 exact Qm hI (sh:=z5.l4sh) (so:=z5.l4sh) (F:=λR rec done x=>z5.l4P b rec done x) (enc:=λ(x':Int)=>Qb z5.l4sh [.s a,.s b,.i x']) [2] [2] c (by kernel_rfl) (by kernel_rfl) (λx=>by kernel_rfl) (λo=>by kernel_rfl) λR k d x'=>z5.l4_link R k d a b (x')
theorem Q1y:Qk (ifun Tryz.f102).body=true:=by kernel_rfl
theorem z5.loopsT (hI:InlOK Tryz.prog z5.C λR=>z5.C.inlK 6):LoopsOK z5.C (λR=>z5.C.inlK 6) 102 0 (ifun Tryz.f102).body:=by
 intro id b hm st p hp
 obtain rfl:=Ql Q1y hm
 unfold z5.C at hp
 simp only at hp
 try split at hp
 all_goals first
  |(simp at hp;done)
  |(exfalso;omega)
  |exact z5.l2_sound hI st p hp
  |exact z5.l0_sound hI st p hp
  |exact z5.l4_sound hI st p hp
theorem z5.sound:Sn z5.pack 102:=by
 intro vs p h;unfold z5.pack at h;split at h<;>cases h
 exact Qo Qd Qe rfl rfl rfl (λg vs p h=>by simp [z5.C] at h) ⟨Tryz.func102,rfl,by kernel_rfl⟩ z5.loopsT rfl (z5.link _) (by intro v r h;unfold z5.dec at h;split at h<;>cases h;exact ⟨rfl,rfl⟩)
theorem z6.sound:Sn z6.pack 26:=by
 intro vs p h;unfold z6.pack at h;split at h<;>cases h
 exact Qg Qd Qe rfl rfl rfl rfl (λg vs p h=>by unfold z6.C at h;simp only at h;split at h;exact z5.sound vs p h;simp at h) ⟨Tryz.func26,rfl,by kernel_rfl⟩ rfl (z6.link _ _) (by intro v r h;unfold z6.dec at h;split at h<;>cases h;exact ⟨rfl,rfl⟩)
theorem z7.sound:Sn z7.pack 113:=by
 intro vs p h;unfold z7.pack at h;split at h<;>cases h
 exact Qg Qd Qe rfl rfl rfl rfl (λg vs p h=>by simp [z7.C] at h) ⟨Tryz.func113,rfl,by kernel_rfl⟩ rfl (z7.link _ _) (by intro v r h;unfold z7.dec at h;split at h<;>cases h;exact ⟨rfl,rfl⟩)
theorem z8.l0_sound (hI:InlOK Tryz.prog z8.C λR=>z8.C.inlK 6):Qh z8.C 6 152 0 0 (Qf 0 (ifun Tryz.f152).body) z8.l0sh z8.l0pack:=by
 refine Qi λls p h=>?_
 unfold z8.l0pack at h;split at h<;>cases h
 rename_i a b c
 exact Qm hI (sh:=z8.l0sh) (so:=z8.l0sh) (F:=λR rec done x=>z8.l0P rec done x) (enc:=λ(x':(Int×(List Int)))=>Qb z8.l0sh [.i x'.1,.li b,.li x'.2]) [0,2] [0,2] (a,c) (by kernel_rfl) (by kernel_rfl) (λx=>by kernel_rfl) (λo=>by kernel_rfl) λR k d x'=>z8.l0_link R k d (x'.1) b (x'.2)
theorem Qzi:Qk (ifun Tryz.f152).body=true:=by kernel_rfl
theorem z8.loopsT (hI:InlOK Tryz.prog z8.C λR=>z8.C.inlK 6):LoopsOK z8.C (λR=>z8.C.inlK 6) 152 0 (ifun Tryz.f152).body:=by
 intro id b hm st p hp
 obtain rfl:=Ql Qzi hm
 unfold z8.C at hp
 simp only at hp
 try split at hp
 all_goals first
  |(simp at hp;done)
  |(exfalso;omega)
  |exact z8.l0_sound hI st p hp
theorem z8.sound:Sn z8.pack 152:=by
 intro vs p h;unfold z8.pack at h;split at h<;>cases h
 exact Qo Qd Qe rfl rfl rfl (λg vs p h=>by simp [z8.C] at h) ⟨Tryz.func152,rfl,by kernel_rfl⟩ z8.loopsT rfl (z8.link _) (by intro v r h;unfold z8.dec at h;split at h<;>cases h;exact ⟨rfl,rfl⟩)
theorem z9.sound:Sn z9.pack 60:=by
 intro vs p h;unfold z9.pack at h;split at h<;>cases h
 exact Qg Qd Qe rfl rfl rfl rfl (λg vs p h=>by unfold z9.C at h;simp only at h;split at h;exact z8.sound vs p h;exact z7.sound vs p h;simp at h) ⟨Tryz.func60,rfl,by kernel_rfl⟩ rfl (z9.link _) (by intro v r h;unfold z9.dec at h;split at h<;>cases h;exact ⟨rfl,rfl⟩)
theorem z10.sound:Sn z10.pack 219:=by
 intro vs p h;unfold z10.pack at h;split at h<;>cases h
 exact Qg Qd Qe rfl rfl rfl rfl (λg vs p h=>by simp [z10.C] at h) ⟨Tryz.func219,rfl,by kernel_rfl⟩ rfl (z10.link _) (by intro v r h;unfold z10.dec at h;split at h<;>cases h;exact ⟨rfl,rfl⟩)
theorem z11.sound:Sn z11.pack 153:=by
 intro vs p h;unfold z11.pack at h;split at h<;>cases h
 exact Qg Qd Qe rfl rfl rfl rfl (λg vs p h=>by unfold z11.C at h;simp only at h;split at h;exact z10.sound vs p h;simp at h) ⟨Tryz.func153,rfl,by kernel_rfl⟩ rfl (z11.link _ _) (by intro v r h;unfold z11.dec at h;split at h<;>cases h;exact ⟨rfl,rfl⟩)
theorem z12.sound:Sn z12.pack 95:=by
 intro vs p h;unfold z12.pack at h;split at h<;>cases h
 exact Qg Qd Qe rfl rfl rfl rfl (λg vs p h=>by unfold z12.C at h;simp only at h;split at h;exact z11.sound vs p h;simp at h) ⟨Tryz.func95,rfl,by kernel_rfl⟩ rfl (z12.link _ _ _ _) (by intro v r h;unfold z12.dec at h;split at h<;>cases h;exact ⟨rfl,rfl⟩)
theorem z13.sound:Sn z13.pack 234:=by
 intro vs p h;unfold z13.pack at h;split at h<;>cases h
 exact Qg Qd Qe rfl rfl rfl rfl (λg vs p h=>by simp [z13.C] at h) ⟨Tryz.func234,rfl,by kernel_rfl⟩ rfl (z13.link _ _) (by intro v r h;unfold z13.dec at h;split at h<;>cases h;exact ⟨rfl,rfl⟩)
theorem z14.l0b6_sound (hI:InlOK Tryz.prog z14.C λR=>z14.C.inlK 6):Qh z14.C 6 235 0 0 (Qf 0 (ifun Tryz.f235).body) z14.l0b6sh z14.l0b6pack:=by
 refine Qi λls p h=>?_
 unfold z14.l0b6pack at h;split at h<;>cases h
 rename_i a b c
 exact Qm hI (sh:=z14.l0b6sh) (so:=z14.l0b6sh) (F:=λR rec done x=>z14.l0b6P a rec done x) (enc:=λ(x':Int)=>Qb z14.l0b6sh [.li a,.i x',.li c]) [1] [1] b (by kernel_rfl) (by kernel_rfl) (λx=>by kernel_rfl) (λo=>by kernel_rfl) λR k d x'=>z14.l0b6_link R k d a (x') c
theorem Qvu:Qk (ifun Tryz.f235).body=true:=by kernel_rfl
theorem z14.loopsT (hI:InlOK Tryz.prog z14.C λR=>z14.C.inlK 6):LoopsOK z14.C (λR=>z14.C.inlK 6) 235 0 (ifun Tryz.f235).body:=by
 intro id b hm st p hp
 obtain rfl:=Ql Qvu hm
 unfold z14.C at hp
 simp only at hp
 try split at hp
 all_goals first
  |(simp at hp;done)
  |(exfalso;omega)
  |exact z14.l0b6_sound hI st p hp
theorem z14.sound:Sn z14.pack 235:=by
 intro vs p h;unfold z14.pack at h;split at h<;>cases h
 exact Qo Qd Qe rfl rfl rfl (λg vs p h=>by simp [z14.C] at h) ⟨Tryz.func235,rfl,by kernel_rfl⟩ z14.loopsT rfl (z14.link _) (by intro v r h;unfold z14.dec at h;split at h<;>cases h;exact ⟨rfl,rfl⟩)
theorem z15.l2aa_sound (hI:InlOK Tryz.prog z15.C λR=>z15.C.inlK 6):Qh z15.C 6 208 2 0 (Qf 2 (ifun Tryz.f208).body) z15.l2aash z15.l2aapack:=by
 refine Qi λls p h=>?_
 unfold z15.l2aapack at h;split at h<;>cases h
 rename_i a b c e g j m
 exact Qm hI (sh:=z15.l2aash) (so:=z15.l2aash) (F:=λR rec done x=>z15.l2aaP a b c rec done x) (enc:=λ(x':(Int×Int×(List Int)))=>Qb z15.l2aash [.li a,.li b,.i c,.i x'.1,.i x'.2.1,.li j,.li x'.2.2]) [3,4,6] [3,4,6] (e,g,m) (by kernel_rfl) (by kernel_rfl) (λx=>by kernel_rfl) (λo=>by kernel_rfl) λR k d x'=>z15.l2aa_link R k d a b c (x'.1) (x'.2.1) j (x'.2.2)
theorem z15.l0_sound (hI:InlOK Tryz.prog z15.C λR=>z15.C.inlK 6):Qh z15.C 6 208 0 0 (Qf 0 (ifun Tryz.f208).body) z15.l0sh z15.l0pack:=by
 refine Qi λls p h=>?_
 unfold z15.l0pack at h;split at h<;>cases h
 rename_i a b c e g
 exact Qm hI (sh:=z15.l0sh) (so:=z15.l0sh) (F:=λR rec done x=>z15.l0P a b rec done x) (enc:=λ(x':(Int×(List Int)))=>Qb z15.l0sh [.li a,.li b,.i x'.1,.li e,.li x'.2]) [2,4] [2,4] (c,g) (by kernel_rfl) (by kernel_rfl) (λx=>by kernel_rfl) (λo=>by kernel_rfl) λR k d x'=>z15.l0_link R k d a b (x'.1) e (x'.2)
theorem Qzp:Qk (ifun Tryz.f208).body=true:=by kernel_rfl
theorem z15.loopsT (hI:InlOK Tryz.prog z15.C λR=>z15.C.inlK 6):LoopsOK z15.C (λR=>z15.C.inlK 6) 208 0 (ifun Tryz.f208).body:=by
 intro id b hm st p hp
 obtain rfl:=Ql Qzp hm
 unfold z15.C at hp
 simp only at hp
 try split at hp
 all_goals first
  |(simp at hp;done)
  |(exfalso;omega)
  |exact z15.l2aa_sound hI st p hp
  |exact z15.l0_sound hI st p hp
theorem z15.sound:Sn z15.pack 208:=by
 intro vs p h;unfold z15.pack at h;split at h<;>cases h
 exact Qo Qd Qe rfl rfl rfl (λg vs p h=>by unfold z15.C at h;simp only at h;split at h;exact z13.sound vs p h;exact z14.sound vs p h;simp at h) ⟨Tryz.func208,rfl,by kernel_rfl⟩ z15.loopsT rfl (z15.link _ _) (by intro v r h;unfold z15.dec at h;split at h<;>cases h;exact ⟨rfl,rfl⟩)
theorem z16.sound:Sn z16.pack 131:=by
 intro vs p h;unfold z16.pack at h;split at h<;>cases h
 exact Qg Qd Qe rfl rfl rfl rfl (λg vs p h=>by unfold z16.C at h;simp only at h;split at h;exact z15.sound vs p h;exact z7.sound vs p h;simp at h) ⟨Tryz.func131,rfl,by kernel_rfl⟩ rfl (z16.link _ _ _ _) (by intro v r h;unfold z16.dec at h;split at h<;>cases h;exact ⟨rfl,rfl⟩)
theorem z95.l0_sound (hI:InlOK Tryz.prog z95.C λR=>z95.C.inlK 6):Qh z95.C 6 145 0 0 (Qf 0 (ifun Tryz.f145).body) z95.l0sh z95.l0pack:=by
 refine Qi λls p h=>?_
 unfold z95.l0pack at h;split at h<;>cases h
 rename_i a b c e g
 exact Q4 hI (sh:=z95.l0sh) (so:=z95.l0sh) (so':=z95.l0so1) (F:=λR rec done x=>z95.l0P b c e rec done x) (enc:=λ(x':Int)=>Qb z95.l0sh [.i a,.i b,.li c,.i e,.i x']) (.exit 0) [4] [4] [0] g (by kernel_rfl) (by kernel_rfl) (λx=>by kernel_rfl) (λo=>by kernel_rfl) (λo=>by kernel_rfl) λR k d x'=>z95.l0_link R k d a b c e (x')
theorem Q1m:Qk (ifun Tryz.f145).body=true:=by kernel_rfl
theorem z95.loopsT (hI:InlOK Tryz.prog z95.C λR=>z95.C.inlK 6):LoopsOK z95.C (λR=>z95.C.inlK 6) 145 0 (ifun Tryz.f145).body:=by
 intro id b hm st p hp
 obtain rfl:=Ql Q1m hm
 unfold z95.C at hp
 simp only at hp
 try split at hp
 all_goals first
  |(simp at hp;done)
  |(exfalso;omega)
  |exact z95.l0_sound hI st p hp
theorem z95.sound:Sn z95.pack 145:=by
 intro vs p h;unfold z95.pack at h;split at h<;>cases h
 exact Qo Qd Qe rfl rfl rfl (λg vs p h=>by simp [z95.C] at h) ⟨Tryz.func145,rfl,by kernel_rfl⟩ z95.loopsT rfl (z95.link _) (by intro v r h;unfold z95.dec at h;split at h<;>cases h;exact ⟨rfl,rfl⟩)
theorem z96.sound:Sn z96.pack 57:=by
 intro vs p h;unfold z96.pack at h;split at h<;>cases h
 exact Qg Qd Qe rfl rfl rfl rfl (λg vs p h=>by unfold z96.C at h;simp only at h;split at h;exact z26.sound vs p h;exact z95.sound vs p h;simp at h) ⟨Tryz.func57,rfl,by kernel_rfl⟩ rfl (z96.link _ _ _ _ _ _) (by intro v r h;unfold z96.dec at h;split at h<;>cases h;exact ⟨rfl,rfl⟩)
theorem z97.sound:Sn z97.pack 211:=by
 intro vs p h;unfold z97.pack at h;split at h<;>cases h
 exact Qg Qd Qe rfl rfl rfl rfl (λg vs p h=>by simp [z97.C] at h) ⟨Tryz.func211,rfl,by kernel_rfl⟩ rfl (z97.link _) (by intro v r h;unfold z97.dec at h;split at h<;>cases h;exact ⟨rfl,rfl⟩)
theorem z98.l0_sound (hI:InlOK Tryz.prog z98.C λR=>z98.C.inlK 6):Qh z98.C 6 140 0 0 (Qf 0 (ifun Tryz.f140).body) z98.l0sh z98.l0pack:=by
 refine Qi λls p h=>?_
 unfold z98.l0pack at h;split at h<;>cases h
 rename_i a b c e g j m
 exact Qm hI (sh:=z98.l0sh) (so:=z98.l0sh) (F:=λR rec done x=>z98.l0P g j rec done x) (enc:=λ(x':(Int×Int))=>Qb z98.l0sh [.i a,.i b,.i x'.1,.i x'.2,.i g,.i j,.i m]) [2,3] [2,3] (c,e) (by kernel_rfl) (by kernel_rfl) (λx=>by kernel_rfl) (λo=>by kernel_rfl) λR k d x'=>z98.l0_link R k d a b (x'.1) (x'.2) g j m
theorem Qz2:Qk (ifun Tryz.f140).body=true:=by kernel_rfl
theorem z98.loopsT (hI:InlOK Tryz.prog z98.C λR=>z98.C.inlK 6):LoopsOK z98.C (λR=>z98.C.inlK 6) 140 0 (ifun Tryz.f140).body:=by
 intro id b hm st p hp
 obtain rfl:=Ql Qz2 hm
 unfold z98.C at hp
 simp only at hp
 try split at hp
 all_goals first
  |(simp at hp;done)
  |(exfalso;omega)
  |exact z98.l0_sound hI st p hp
theorem z98.sound:Sn z98.pack 140:=by
 intro vs p h;unfold z98.pack at h;split at h<;>cases h
 exact Qo Qd Qe rfl rfl rfl (λg vs p h=>by unfold z98.C at h;simp only at h;split at h;exact z89.sound vs p h;exact z97.sound vs p h;exact z88.sound vs p h;simp at h) ⟨Tryz.func140,rfl,by kernel_rfl⟩ z98.loopsT rfl (z98.link _ _ _) (by intro v r h;unfold z98.dec at h;split at h<;>cases h;exact ⟨rfl,rfl⟩)
theorem z99.l0_sound (hI:InlOK Tryz.prog z99.C λR=>z99.C.inlK 6):Qh z99.C 6 141 0 0 (Qf 0 (ifun Tryz.f141).body) z99.l0sh z99.l0pack:=by
 refine Qi λls p h=>?_
 unfold z99.l0pack at h;split at h<;>cases h
 rename_i a b c e g j m n
 exact Qm hI (sh:=z99.l0sh) (so:=z99.l0sh) (F:=λR rec done x=>z99.l0P a rec done x) (enc:=λ(x':Int)=>Qb z99.l0sh [.i a,.i b,.i c,.i e,.i g,.i x',.i m,.i n]) [5] [5] j (by kernel_rfl) (by kernel_rfl) (λx=>by kernel_rfl) (λo=>by kernel_rfl) λR k d x'=>z99.l0_link R k d a b c e g (x') m n
theorem z99.l2b6_sound (hI:InlOK Tryz.prog z99.C λR=>z99.C.inlK 6):Qh z99.C 6 141 2 0 (Qf 2 (ifun Tryz.f141).body) z99.l2b6sh z99.l2b6pack:=by
 refine Qi λls p h=>?_
 unfold z99.l2b6pack at h;split at h<;>cases h
 rename_i a b c e g j m n
 exact Qm hI (sh:=z99.l2b6sh) (so:=z99.l2b6sh) (F:=λR rec done x=>z99.l2b6P a rec done x) (enc:=λ(x':Int)=>Qb z99.l2b6sh [.i a,.i b,.i c,.i e,.i g,.i x',.i m,.i n]) [5] [5] j (by kernel_rfl) (by kernel_rfl) (λx=>by kernel_rfl) (λo=>by kernel_rfl) λR k d x'=>z99.l2b6_link R k d a b c e g (x') m n
theorem z99.l4_sound (hI:InlOK Tryz.prog z99.C λR=>z99.C.inlK 6):Qh z99.C 6 141 4 0 (Qf 4 (ifun Tryz.f141).body) z99.l4sh z99.l4pack:=by
 refine Qi λls p h=>?_
 unfold z99.l4pack at h;split at h<;>cases h
 rename_i a b c e g j m n
 exact Qm hI (sh:=z99.l4sh) (so:=z99.l4sh) (F:=λR rec done x=>z99.l4P j rec done x) (enc:=λ(x':(Int×Int))=>Qb z99.l4sh [.i x'.1,.i b,.i c,.i e,.i g,.i j,.i x'.2,.i n]) [0,6] [0,6] (a,m) (by kernel_rfl) (by kernel_rfl) (λx=>by kernel_rfl) (λo=>by kernel_rfl) λR k d x'=>z99.l4_link R k d (x'.1) b c e g j (x'.2) n
theorem Qxx:Qk (ifun Tryz.f141).body=true:=by kernel_rfl
theorem z99.loopsT (hI:InlOK Tryz.prog z99.C λR=>z99.C.inlK 6):LoopsOK z99.C (λR=>z99.C.inlK 6) 141 0 (ifun Tryz.f141).body:=by
 intro id b hm st p hp
 obtain rfl:=Ql Qxx hm
 unfold z99.C at hp
 simp only at hp
 try split at hp
 all_goals first
  |(simp at hp;done)
  |(exfalso;omega)
  |exact z99.l0_sound hI st p hp
  |exact z99.l2b6_sound hI st p hp
  |exact z99.l4_sound hI st p hp
theorem z99.sound:Sn z99.pack 141:=by
 intro vs p h;unfold z99.pack at h;split at h<;>cases h
 exact Qo Qd Qe rfl rfl rfl (λg vs p h=>by unfold z99.C at h;simp only at h;split at h;exact z97.sound vs p h;exact z88.sound vs p h;simp at h) ⟨Tryz.func141,rfl,by kernel_rfl⟩ z99.loopsT rfl (z99.link _) (by intro v r h;unfold z99.dec at h;split at h<;>cases h;exact ⟨rfl,rfl⟩)
theorem z100.sound:Sn z100.pack 54:=by
 intro vs p h;unfold z100.pack at h;split at h<;>cases h
 exact Qg Qd Qe rfl rfl rfl rfl (λg vs p h=>by unfold z100.C at h;simp only at h;split at h;exact z98.sound vs p h;exact z99.sound vs p h;simp at h) ⟨Tryz.func54,rfl,by kernel_rfl⟩ rfl (z100.link _ _ _ _) (by intro v r h;unfold z100.dec at h;split at h<;>cases h;exact ⟨rfl,rfl⟩)
theorem z101.l2_sound (hI:InlOK Tryz.prog z101.C λR=>z101.C.inlK 6):Qh z101.C 6 192 2 0 (Qf 2 (ifun Tryz.f192).body) z101.l2sh z101.l2pack:=by
 refine Qi λls p h=>?_
 unfold z101.l2pack at h;split at h<;>cases h
 rename_i a b c e g j
 exact Qm hI (sh:=z101.l2sh) (so:=z101.l2sh) (F:=λR rec done x=>z101.l2P a b rec done x) (enc:=λ(x':(Int×Int))=>Qb z101.l2sh [.s a,.i b,.i x'.1,.i x'.2,.li g,.li j]) [2,3] [2,3] (c,e) (by kernel_rfl) (by kernel_rfl) (λx=>by kernel_rfl) (λo=>by kernel_rfl) λR k d x'=>z101.l2_link R k d a b (x'.1) (x'.2) g j
theorem z101.l0_sound (hI:InlOK Tryz.prog z101.C λR=>z101.C.inlK 6):Qh z101.C 6 192 0 0 (Qf 0 (ifun Tryz.f192).body) z101.l0sh z101.l0pack:=by
 refine Qi λls p h=>?_
 unfold z101.l0pack at h;split at h<;>cases h
 rename_i a b c e
 exact Qm hI (sh:=z101.l0sh) (so:=z101.l0sh) (F:=λR rec done x=>z101.l0P a rec done x) (enc:=λ(x':(Int×(List Int)))=>Qb z101.l0sh [.s a,.i x'.1,.li c,.li x'.2]) [1,3] [1,3] (b,e) (by kernel_rfl) (by kernel_rfl) (λx=>by kernel_rfl) (λo=>by kernel_rfl) λR k d x'=>z101.l0_link R k d a (x'.1) c (x'.2)
theorem Qyj:Qk (ifun Tryz.f192).body=true:=by kernel_rfl
theorem z101.loopsT (hI:InlOK Tryz.prog z101.C λR=>z101.C.inlK 6):LoopsOK z101.C (λR=>z101.C.inlK 6) 192 0 (ifun Tryz.f192).body:=by
 intro id b hm st p hp
 obtain rfl:=Ql Qyj hm
 unfold z101.C at hp
 simp only at hp
 try split at hp
 all_goals first
  |(simp at hp;done)
  |(exfalso;omega)
  |exact z101.l2_sound hI st p hp
  |exact z101.l0_sound hI st p hp
theorem z101.sound:Sn z101.pack 192:=by
 intro vs p h;unfold z101.pack at h;split at h<;>cases h
 exact Qo Qd Qe rfl rfl rfl (λg vs p h=>by unfold z101.C at h;simp only at h;split at h;exact z14.sound vs p h;simp at h) ⟨Tryz.func192,rfl,by kernel_rfl⟩ z101.loopsT rfl (z101.link _) (by intro v r h;unfold z101.dec at h;split at h<;>cases h;exact ⟨rfl,rfl⟩)
theorem z102.sound:Sn z102.pack 103:=by
 intro vs p h;unfold z102.pack at h;split at h<;>cases h
 exact Qg Qd Qe rfl rfl rfl rfl (λg vs p h=>by unfold z102.C at h;simp only at h;split at h;exact z101.sound vs p h;exact z7.sound vs p h;simp at h) ⟨Tryz.func103,rfl,by kernel_rfl⟩ rfl (z102.link _) (by intro v r h;unfold z102.dec at h;split at h<;>cases h;exact ⟨rfl,rfl⟩)
theorem z103.l0b4_sound (hI:InlOK Tryz.prog z103.C λR=>z103.C.inlK 6):Qh z103.C 6 196 0 0 (Qf 0 (ifun Tryz.f196).body) z103.l0b4sh z103.l0b4pack:=by
 refine Qi λls p h=>?_
 unfold z103.l0b4pack at h;split at h<;>cases h
 rename_i a c e
 exact Q4 hI (sh:=z103.l0b4sh) (so:=z103.l0b4sh) (so':=z103.l0b4so1) (F:=λR rec done x=>z103.l0b4P a rec done x) (enc:=λ(x':Int)=>Qb z103.l0b4sh [.s a,.b c,.i x']) (.exit 0) [2] [2] [0] e (by kernel_rfl) (by kernel_rfl) (λx=>by kernel_rfl) (λo=>by kernel_rfl) (λo=>by kernel_rfl) λR k d x'=>z103.l0b4_link R k d a c (x')
theorem Qui:Qk (ifun Tryz.f196).body=true:=by kernel_rfl
theorem z103.loopsT (hI:InlOK Tryz.prog z103.C λR=>z103.C.inlK 6):LoopsOK z103.C (λR=>z103.C.inlK 6) 196 0 (ifun Tryz.f196).body:=by
 intro id b hm st p hp
 obtain rfl:=Ql Qui hm
 unfold z103.C at hp
 simp only at hp
 try split at hp
 all_goals first
  |(simp at hp;done)
  |(exfalso;omega)
  |exact z103.l0b4_sound hI st p hp
theorem z103.sound:Sn z103.pack 196:=by
 intro vs p h;unfold z103.pack at h;split at h<;>cases h
 exact Qo Qd Qe rfl rfl rfl (λg vs p h=>by simp [z103.C] at h) ⟨Tryz.func196,rfl,by kernel_rfl⟩ z103.loopsT rfl (z103.link _) (by intro v r h;unfold z103.dec at h;split at h<;>cases h;exact ⟨rfl,rfl⟩)
theorem z104.sound:Sn z104.pack 115:=by
 intro vs p h;unfold z104.pack at h;split at h<;>cases h
 exact Qg Qd Qe rfl rfl rfl rfl (λg vs p h=>by unfold z104.C at h;simp only at h;split at h;exact z9.sound vs p h;exact z103.sound vs p h;exact z102.sound vs p h;simp at h) ⟨Tryz.func115,rfl,by kernel_rfl⟩ rfl (z104.link _) (by intro v r h;unfold z104.dec at h;split at h<;>cases h;exact ⟨rfl,rfl⟩)
theorem z105.l0_sound (hI:InlOK Tryz.prog z105.C λR=>z105.C.inlK 6):Qh z105.C 6 116 0 0 (Qf 0 (ifun Tryz.f116).body) z105.l0sh z105.l0pack:=by
 refine Qi λls p h=>?_
 unfold z105.l0pack at h;split at h<;>cases h
 rename_i a b c e
 exact Qm hI (sh:=z105.l0sh) (so:=z105.l0sh) (F:=λR rec done x=>z105.l0P a rec done x) (enc:=λ(x':((List UInt8)×Int))=>Qb z105.l0sh [.i a,.s x'.1,.i x'.2,.li e]) [1,2] [1,2] (b,c) (by kernel_rfl) (by kernel_rfl) (λx=>by kernel_rfl) (λo=>by kernel_rfl) λR k d x'=>z105.l0_link R k d a (x'.1) (x'.2) e
theorem Qu7:Qk (ifun Tryz.f116).body=true:=by kernel_rfl
theorem z105.loopsT (hI:InlOK Tryz.prog z105.C λR=>z105.C.inlK 6):LoopsOK z105.C (λR=>z105.C.inlK 6) 116 0 (ifun Tryz.f116).body:=by
 intro id b hm st p hp
 obtain rfl:=Ql Qu7 hm
 unfold z105.C at hp
 simp only at hp
 try split at hp
 all_goals first
  |(simp at hp;done)
  |(exfalso;omega)
  |exact z105.l0_sound hI st p hp
theorem z105.sound:Sn z105.pack 116:=by
 intro vs p h;unfold z105.pack at h;split at h<;>cases h
 exact Qo Qd Qe rfl rfl rfl (λg vs p h=>by unfold z105.C at h;simp only at h;split at h;exact z101.sound vs p h;simp at h) ⟨Tryz.func116,rfl,by kernel_rfl⟩ z105.loopsT rfl (z105.link _) (by intro v r h;unfold z105.dec at h;split at h<;>cases h;exact ⟨rfl,rfl⟩)
theorem z106.sound:Sn z106.pack 35:=by
 intro vs p h;unfold z106.pack at h;split at h<;>cases h
 exact Qg Qd Qe rfl rfl rfl rfl (λg vs p h=>by unfold z106.C at h;simp only at h;split at h;exact z7.sound vs p h;simp at h) ⟨Tryz.func35,rfl,by kernel_rfl⟩ rfl (z106.link _ _) (by intro v r h;unfold z106.dec at h;split at h<;>cases h;exact ⟨rfl,rfl⟩)
theorem z107.l0b6_sound (hI:InlOK Tryz.prog z107.C λR=>z107.C.inlK 6):Qh z107.C 6 170 0 0 (Qf 0 (ifun Tryz.f170).body) z107.l0b6sh z107.l0b6pack:=by
 refine Qi λls p h=>?_
 unfold z107.l0b6pack at h;split at h<;>cases h
 rename_i a b c e g j
 exact Qm hI (sh:=z107.l0b6sh) (so:=z107.l0b6sh) (F:=λR rec done x=>z107.l0b6P a b rec done x) (enc:=λ(x':(Int×Int×(List Int)))=>Qb z107.l0b6sh [.li a,.li b,.i x'.1,.i x'.2.1,.li g,.li x'.2.2]) [2,3,5] [2,3,5] (c,e,j) (by kernel_rfl) (by kernel_rfl) (λx=>by kernel_rfl) (λo=>by kernel_rfl) λR k d x'=>z107.l0b6_link R k d a b (x'.1) (x'.2.1) g (x'.2.2)
theorem Qud:Qk (ifun Tryz.f170).body=true:=by kernel_rfl
theorem z107.loopsT (hI:InlOK Tryz.prog z107.C λR=>z107.C.inlK 6):LoopsOK z107.C (λR=>z107.C.inlK 6) 170 0 (ifun Tryz.f170).body:=by
 intro id b hm st p hp
 obtain rfl:=Ql Qud hm
 unfold z107.C at hp
 simp only at hp
 try split at hp
 all_goals first
  |(simp at hp;done)
  |(exfalso;omega)
  |exact z107.l0b6_sound hI st p hp
theorem z107.sound:Sn z107.pack 170:=by
 intro vs p h;unfold z107.pack at h;split at h<;>cases h
 exact Qo Qd Qe rfl rfl rfl (λg vs p h=>by unfold z107.C at h;simp only at h;split at h;exact z13.sound vs p h;exact z14.sound vs p h;simp at h) ⟨Tryz.func170,rfl,by kernel_rfl⟩ z107.loopsT rfl (z107.link _ _) (by intro v r h;unfold z107.dec at h;split at h<;>cases h;exact ⟨rfl,rfl⟩)
theorem z108.l0_sound (hI:InlOK Tryz.prog z108.C λR=>z108.C.inlK 6):Qh z108.C 6 171 0 0 (Qf 0 (ifun Tryz.f171).body) z108.l0sh z108.l0pack:=by
 refine Qi λls p h=>?_
 unfold z108.l0pack at h;split at h<;>cases h
 rename_i a b c e
 exact Q4 hI (sh:=z108.l0sh) (so:=z108.l0sh) (so':=z108.l0so1) (F:=λR rec done x=>z108.l0P a b rec done x) (enc:=λ(x':Int)=>Qb z108.l0sh [.li a,.li b,.i c,.i x']) (.exit 0) [3] [3] [0] e (by kernel_rfl) (by kernel_rfl) (λx=>by kernel_rfl) (λo=>by kernel_rfl) (λo=>by kernel_rfl) λR k d x'=>z108.l0_link R k d a b c (x')
theorem Q3z:Qk (ifun Tryz.f171).body=true:=by kernel_rfl
theorem z108.loopsT (hI:InlOK Tryz.prog z108.C λR=>z108.C.inlK 6):LoopsOK z108.C (λR=>z108.C.inlK 6) 171 0 (ifun Tryz.f171).body:=by
 intro id b hm st p hp
 obtain rfl:=Ql Q3z hm
 unfold z108.C at hp
 simp only at hp
 try split at hp
 all_goals first
  |(simp at hp;done)
  |(exfalso;omega)
  |exact z108.l0_sound hI st p hp
theorem z108.sound:Sn z108.pack 171:=by
 intro vs p h;unfold z108.pack at h;split at h<;>cases h
 exact Qo Qd Qe rfl rfl rfl (λg vs p h=>by simp [z108.C] at h) ⟨Tryz.func171,rfl,by kernel_rfl⟩ z108.loopsT rfl (z108.link _ _) (by intro v r h;unfold z108.dec at h;split at h<;>cases h;exact ⟨rfl,rfl⟩)
theorem z109.l0_sound (hI:InlOK Tryz.prog z109.C λR=>z109.C.inlK 6):Qh z109.C 6 172 0 0 (Qf 0 (ifun Tryz.f172).body) z109.l0sh z109.l0pack:=by
 refine Qi λls p h=>?_
 unfold z109.l0pack at h;split at h<;>cases h
 rename_i a b c e g j
 exact Qm hI (sh:=z109.l0sh) (so:=z109.l0sh) (F:=λR rec done x=>z109.l0P a b rec done x) (enc:=λ(x':(Int×Int×(List Int)))=>Qb z109.l0sh [.li a,.li b,.i x'.1,.i x'.2.1,.li g,.li x'.2.2]) [2,3,5] [2,3,5] (c,e,j) (by kernel_rfl) (by kernel_rfl) (λx=>by kernel_rfl) (λo=>by kernel_rfl) λR k d x'=>z109.l0_link R k d a b (x'.1) (x'.2.1) g (x'.2.2)
theorem Qxz:Qk (ifun Tryz.f172).body=true:=by kernel_rfl
theorem z109.loopsT (hI:InlOK Tryz.prog z109.C λR=>z109.C.inlK 6):LoopsOK z109.C (λR=>z109.C.inlK 6) 172 0 (ifun Tryz.f172).body:=by
 intro id b hm st p hp
 obtain rfl:=Ql Qxz hm
 unfold z109.C at hp
 simp only at hp
 try split at hp
 all_goals first
  |(simp at hp;done)
  |(exfalso;omega)
  |exact z109.l0_sound hI st p hp
theorem z109.sound:Sn z109.pack 172:=by
 intro vs p h;unfold z109.pack at h;split at h<;>cases h
 exact Qo Qd Qe rfl rfl rfl (λg vs p h=>by unfold z109.C at h;simp only at h;split at h;exact z13.sound vs p h;exact z14.sound vs p h;simp at h) ⟨Tryz.func172,rfl,by kernel_rfl⟩ z109.loopsT rfl (z109.link _ _) (by intro v r h;unfold z109.dec at h;split at h<;>cases h;exact ⟨rfl,rfl⟩)
theorem z110.sound:Sn z110.pack 85:=by
 intro vs p h;unfold z110.pack at h;split at h<;>cases h
 exact Qg Qd Qe rfl rfl rfl rfl (λg vs p h=>by unfold z110.C at h;simp only at h;split at h;exact z107.sound vs p h;exact z7.sound vs p h;exact z108.sound vs p h;exact z109.sound vs p h;simp at h) ⟨Tryz.func85,rfl,by kernel_rfl⟩ rfl (z110.link _ _ _ _) (by intro v r h;unfold z110.dec at h;split at h<;>cases h;exact ⟨rfl,rfl⟩)
theorem z111.sound:Sn z111.pack 63:=by
 intro vs p h;unfold z111.pack at h;split at h<;>cases h
 exact Qg Qd Qe rfl rfl rfl rfl (λg vs p h=>by unfold z111.C at h;simp only at h;split at h;exact z106.sound vs p h;exact z110.sound vs p h;simp at h) ⟨Tryz.func63,rfl,by kernel_rfl⟩ rfl (z111.link _ _ _ _) (by intro v r h;unfold z111.dec at h;split at h<;>cases h;exact ⟨rfl,rfl⟩)
theorem z112.sound:Sn z112.pack 197:=by
 intro vs p h;unfold z112.pack at h;split at h<;>cases h
 exact Qg Qd Qe rfl rfl rfl rfl (λg vs p h=>by simp [z112.C] at h) ⟨Tryz.func197,rfl,by kernel_rfl⟩ rfl (z112.link _ _) (by intro v r h;unfold z112.dec at h;split at h<;>cases h;exact ⟨rfl,rfl⟩)
theorem z113.sound:Sn z113.pack 117:=by
 intro vs p h;unfold z113.pack at h;split at h<;>cases h
 exact Qg Qd Qe rfl rfl rfl rfl (λg vs p h=>by unfold z113.C at h;simp only at h;split at h;exact z111.sound vs p h;exact z112.sound vs p h;simp at h) ⟨Tryz.func117,rfl,by kernel_rfl⟩ rfl (z113.link _ _ _ _) (by intro v r h;unfold z113.dec at h;split at h<;>cases h;exact ⟨rfl,rfl⟩)
theorem z114.sound:Sn z114.pack 37:=by
 intro vs p h;unfold z114.pack at h;split at h<;>cases h
 exact Qg Qd Qe rfl rfl rfl rfl (λg vs p h=>by unfold z114.C at h;simp only at h;split at h;exact z9.sound vs p h;exact z104.sound vs p h;exact z105.sound vs p h;exact z7.sound vs p h;exact z113.sound vs p h;simp at h) ⟨Tryz.func37,rfl,by kernel_rfl⟩ rfl (z114.link _) (by intro v r h;unfold z114.dec at h;split at h<;>cases h;exact ⟨rfl,rfl⟩)
theorem z115.l2_sound (hI:InlOK Tryz.prog z115.C λR=>z115.C.inlK 6):Qh z115.C 6 221 2 0 (Qf 2 (ifun Tryz.f221).body) z115.l2sh z115.l2pack:=by
 refine Qi λls p h=>?_
 unfold z115.l2pack at h;split at h<;>cases h
 rename_i a b c e g j m n q
 exact Qm hI (sh:=z115.l2sh) (so:=z115.l2sh) (F:=λR rec done x=>z115.l2P b c rec done x) (enc:=λ(x':(Int×Int))=>Qb z115.l2sh [.li a,.li b,.li c,.i e,.i x'.1,.i x'.2,.li m,.li n,.li q]) [4,5] [4,5] (g,j) (by kernel_rfl) (by kernel_rfl) (λx=>by kernel_rfl) (λo=>by kernel_rfl) λR k d x'=>z115.l2_link R k d a b c e (x'.1) (x'.2) m n q
theorem z115.l0a_sound (hI:InlOK Tryz.prog z115.C λR=>z115.C.inlK 6):Qh z115.C 6 221 0 0 (Qf 0 (ifun Tryz.f221).body) z115.l0ash z115.l0apack:=by
 refine Qi λls p h=>?_
 unfold z115.l0apack at h;split at h<;>cases h
 rename_i a b c e g j m
 exact Qm hI (sh:=z115.l0ash) (so:=z115.l0ash) (F:=λR rec done x=>z115.l0aP a b rec done x) (enc:=λ(x':((List Int)×Int×(List Int)))=>Qb z115.l0ash [.li a,.li b,.li x'.1,.i x'.2.1,.li g,.li j,.li x'.2.2]) [2,3,6] [2,3,6] (c,e,m) (by kernel_rfl) (by kernel_rfl) (λx=>by kernel_rfl) (λo=>by kernel_rfl) λR k d x'=>z115.l0a_link R k d a b (x'.1) (x'.2.1) g j (x'.2.2)
theorem Qzz:Qk (ifun Tryz.f221).body=true:=by kernel_rfl
theorem z115.loopsT (hI:InlOK Tryz.prog z115.C λR=>z115.C.inlK 6):LoopsOK z115.C (λR=>z115.C.inlK 6) 221 0 (ifun Tryz.f221).body:=by
 intro id b hm st p hp
 obtain rfl:=Ql Qzz hm
 unfold z115.C at hp
 simp only at hp
 try split at hp
 all_goals first
  |(simp at hp;done)
  |(exfalso;omega)
  |exact z115.l2_sound hI st p hp
  |exact z115.l0a_sound hI st p hp
theorem z115.sound:Sn z115.pack 221:=by
 intro vs p h;unfold z115.pack at h;split at h<;>cases h
 exact Qo Qd Qe rfl rfl rfl (λg vs p h=>by unfold z115.C at h;simp only at h;split at h;exact z14.sound vs p h;exact z8.sound vs p h;exact z15.sound vs p h;exact z108.sound vs p h;exact z109.sound vs p h;simp at h) ⟨Tryz.func221,rfl,by kernel_rfl⟩ z115.loopsT rfl (z115.link _ _) (by intro v r h;unfold z115.dec at h;split at h<;>cases h;exact ⟨rfl,rfl⟩)
theorem z116.l0_sound (hI:InlOK Tryz.prog z116.C λR=>z116.C.inlK 6):Qh z116.C 6 256 0 0 (Qf 0 (ifun Tryz.f256).body) z116.l0sh z116.l0pack:=by
 refine Qi λls p h=>?_
 unfold z116.l0pack at h;split at h<;>cases h
 rename_i a b c
 exact Qm hI (sh:=z116.l0sh) (so:=z116.l0sh) (F:=λR rec done x=>z116.l0P rec done x) (enc:=λ(x':((List Int)×(List Int)))=>Qb z116.l0sh [.li x'.1,.li x'.2,.li c]) [0,1] [0,1] (a,b) (by kernel_rfl) (by kernel_rfl) (λx=>by kernel_rfl) (λo=>by kernel_rfl) λR k d x'=>z116.l0_link R k d (x'.1) (x'.2) c
theorem Qtq:Qk (ifun Tryz.f256).body=true:=by kernel_rfl
theorem z116.loopsT (hI:InlOK Tryz.prog z116.C λR=>z116.C.inlK 6):LoopsOK z116.C (λR=>z116.C.inlK 6) 256 0 (ifun Tryz.f256).body:=by
 intro id b hm st p hp
 obtain rfl:=Ql Qtq hm
 unfold z116.C at hp
 simp only at hp
 try split at hp
 all_goals first
  |(simp at hp;done)
  |(exfalso;omega)
  |exact z116.l0_sound hI st p hp
theorem z116.sound:Sn z116.pack 256:=by
 intro vs p h;unfold z116.pack at h;split at h<;>cases h
 exact Qo Qd Qe rfl rfl rfl (λg vs p h=>by unfold z116.C at h;simp only at h;split at h;exact z115.sound vs p h;simp at h) ⟨Tryz.func256,rfl,by kernel_rfl⟩ z116.loopsT rfl (z116.link _ _) (by intro v r h;unfold z116.dec at h;split at h<;>cases h;exact ⟨rfl,rfl⟩)
theorem z117.sound:Sn z117.pack 206:=by
 intro vs p h;unfold z117.pack at h;split at h<;>cases h
 exact Qg Qd Qe rfl rfl rfl rfl (λg vs p h=>by unfold z117.C at h;simp only at h;split at h;exact z116.sound vs p h;exact z115.sound vs p h;exact z7.sound vs p h;simp at h) ⟨Tryz.func206,rfl,by kernel_rfl⟩ rfl (z117.link _ _ _) (by intro v r h;unfold z117.dec at h;split at h<;>cases h;exact ⟨rfl,rfl⟩)
theorem z118.sound:Sn z118.pack 205:=by
 intro vs p h;unfold z118.pack at h;split at h<;>cases h
 exact Qg Qd Qe rfl rfl rfl rfl (λg vs p h=>by unfold z118.C at h;simp only at h;split at h;exact z106.sound vs p h;exact z117.sound vs p h;simp at h) ⟨Tryz.func205,rfl,by kernel_rfl⟩ rfl (z118.link _ _ _ _) (by intro v r h;unfold z118.dec at h;split at h<;>cases h;exact ⟨rfl,rfl⟩)
theorem z119.sound:Sn z119.pack 125:=by
 intro vs p h;unfold z119.pack at h;split at h<;>cases h
 exact Qg Qd Qe rfl rfl rfl rfl (λg vs p h=>by unfold z119.C at h;simp only at h;split at h;exact z9.sound vs p h;exact z118.sound vs p h;simp at h) ⟨Tryz.func125,rfl,by kernel_rfl⟩ rfl (z119.link _ _) (by intro v r h;unfold z119.dec at h;split at h<;>cases h;exact ⟨rfl,rfl⟩)
theorem z120.l0b10_sound (hI:InlOK Tryz.prog z120.C λR=>z120.C.inlK 6):Qh z120.C 6 126 0 0 (Qf 0 (ifun Tryz.f126).body) z120.l0b10sh z120.l0b10pack:=by
 refine Qi λls p h=>?_
 unfold z120.l0b10pack at h;split at h<;>cases h
 rename_i a c e g j m n q r t u v w y
 exact Q4 hI (sh:=z120.l0b10sh) (so:=z120.l0b10sh) (so':=z120.l0b10so1) (F:=λR rec done x=>z120.l0b10P a rec done x) (enc:=λ(x':(Int×(List UInt8)×Int×Int×Bool))=>Qb z120.l0b10sh [.s a,.i c,.b e,.i x'.1,.s x'.2.1,.i x'.2.2.1,.i x'.2.2.2.1,.b x'.2.2.2.2,.li r,.b t,.i u,.li v,.b w,.i y]) (.exit 0) [3,4,5,6,7] [3,4,5,6,7] [0] (g,j,m,n,q) (by kernel_rfl) (by kernel_rfl) (λx=>by kernel_rfl) (λo=>by kernel_rfl) (λo=>by kernel_rfl) λR k d x'=>z120.l0b10_link R k d a c e (x'.1) (x'.2.1) (x'.2.2.1) (x'.2.2.2.1) (x'.2.2.2.2) r t u v w y
theorem Q0l:Qk (ifun Tryz.f126).body=true:=by kernel_rfl
theorem z120.loopsT (hI:InlOK Tryz.prog z120.C λR=>z120.C.inlK 6):LoopsOK z120.C (λR=>z120.C.inlK 6) 126 0 (ifun Tryz.f126).body:=by
 intro id b hm st p hp
 obtain rfl:=Ql Q0l hm
 unfold z120.C at hp
 simp only at hp
 try split at hp
 all_goals first
  |(simp at hp;done)
  |(exfalso;omega)
  |exact z120.l0b10_sound hI st p hp
theorem z120.sound:Sn z120.pack 126:=by
 intro vs p h;unfold z120.pack at h;split at h<;>cases h
 exact Qo Qd Qe rfl rfl rfl (λg vs p h=>by unfold z120.C at h;simp only at h;split at h;exact z101.sound vs p h;exact z7.sound vs p h;simp at h) ⟨Tryz.func126,rfl,by kernel_rfl⟩ z120.loopsT rfl (z120.link _) (by intro v r h;unfold z120.dec at h;split at h<;>cases h;exact ⟨rfl,rfl⟩)
theorem z121.sound:Sn z121.pack 127:=by
 intro vs p h;unfold z121.pack at h;split at h<;>cases h
 exact Qg Qd Qe rfl rfl rfl rfl (λg vs p h=>by unfold z121.C at h;simp only at h;split at h;exact z105.sound vs p h;exact z117.sound vs p h;simp at h) ⟨Tryz.func127,rfl,by kernel_rfl⟩ rfl (z121.link _ _ _) (by intro v r h;unfold z121.dec at h;split at h<;>cases h;exact ⟨rfl,rfl⟩)
theorem z122.sound:Sn z122.pack 207:=by
 intro vs p h;unfold z122.pack at h;split at h<;>cases h
 exact Qg Qd Qe rfl rfl rfl rfl (λg vs p h=>by unfold z122.C at h;simp only at h;split at h;exact z7.sound vs p h;exact z16.sound vs p h;simp at h) ⟨Tryz.func207,rfl,by kernel_rfl⟩ rfl (z122.link _ _ _ _ _ _) (by intro v r h;unfold z122.dec at h;split at h<;>cases h;exact ⟨rfl,rfl⟩)
theorem z123.sound:Sn z123.pack 128:=by
 intro vs p h;unfold z123.pack at h;split at h<;>cases h
 exact Qg Qd Qe rfl rfl rfl rfl (λg vs p h=>by unfold z123.C at h;simp only at h;split at h;exact z122.sound vs p h;exact z113.sound vs p h;simp at h) ⟨Tryz.func128,rfl,by kernel_rfl⟩ rfl (z123.link _ _ _ _ _ _) (by intro v r h;unfold z123.dec at h;split at h<;>cases h;exact ⟨rfl,rfl⟩)
theorem z124.sound:Sn z124.pack 129:=by
 intro vs p h;unfold z124.pack at h;split at h<;>cases h
 exact Qg Qd Qe rfl rfl rfl rfl (λg vs p h=>by unfold z124.C at h;simp only at h;split at h;exact z122.sound vs p h;exact z7.sound vs p h;exact z16.sound vs p h;exact z118.sound vs p h;simp at h) ⟨Tryz.func129,rfl,by kernel_rfl⟩ rfl (z124.link _ _ _ _ _ _) (by intro v r h;unfold z124.dec at h;split at h<;>cases h;exact ⟨rfl,rfl⟩)
theorem z125.sound:Sn z125.pack 39:=by
 intro vs p h;unfold z125.pack at h;split at h<;>cases h
 exact Qg Qd Qe rfl rfl rfl rfl (λg vs p h=>by unfold z125.C at h;simp only at h;split at h;exact z119.sound vs p h;exact z120.sound vs p h;exact z121.sound vs p h;exact z123.sound vs p h;exact z124.sound vs p h;simp at h) ⟨Tryz.func39,rfl,by kernel_rfl⟩ rfl (z125.link _) (by intro v r h;unfold z125.dec at h;split at h<;>cases h;exact ⟨rfl,rfl⟩)
theorem z126.sound:Sn z126.pack 80:=by
 intro vs p h;unfold z126.pack at h;split at h<;>cases h
 exact Qg Qd Qe rfl rfl rfl rfl (λg vs p h=>by unfold z126.C at h;simp only at h;split at h;exact z11.sound vs p h;simp at h) ⟨Tryz.func80,rfl,by kernel_rfl⟩ rfl (z126.link _ _ _) (by intro v r h;unfold z126.dec at h;split at h<;>cases h;exact ⟨rfl,rfl⟩)
theorem z132.l0_sound (hI:InlOK Tryz.prog z132.C λR=>z132.C.inlK 6):Qh z132.C 6 81 0 0 (Qf 0 (ifun Tryz.f81).body) z132.l0sh z132.l0pack:=by
 refine Qi λls p h=>?_
 unfold z132.l0pack at h;split at h<;>cases h
 rename_i a b c e
 exact Q4 hI (sh:=z132.l0sh) (so:=z132.l0sh) (so':=z132.l0so1) (F:=λR rec done x=>z132.l0P b c rec done x) (enc:=λ(x':Int)=>Qb z132.l0sh [.i a,.li b,.li c,.i x']) (.exit 0) [3] [3] [0] e (by kernel_rfl) (by kernel_rfl) (λx=>by kernel_rfl) (λo=>by kernel_rfl) (λo=>by kernel_rfl) λR k d x'=>z132.l0_link R k d a b c (x')
theorem Qwy:Qk (ifun Tryz.f81).body=true:=by kernel_rfl
theorem z132.loopsT (hI:InlOK Tryz.prog z132.C λR=>z132.C.inlK 6):LoopsOK z132.C (λR=>z132.C.inlK 6) 81 0 (ifun Tryz.f81).body:=by
 intro id b hm st p hp
 obtain rfl:=Ql Qwy hm
 unfold z132.C at hp
 simp only at hp
 try split at hp
 all_goals first
  |(simp at hp;done)
  |(exfalso;omega)
  |exact z132.l0_sound hI st p hp
theorem z132.sound:Sn z132.pack 81:=by
 intro vs p h;unfold z132.pack at h;split at h<;>cases h
 exact Qo Qd Qe rfl rfl rfl (λg vs p h=>by simp [z132.C] at h) ⟨Tryz.func81,rfl,by kernel_rfl⟩ z132.loopsT rfl (z132.link _ _ _ _ _ _) (by intro v r h;unfold z132.dec at h;split at h<;>cases h;exact ⟨rfl,rfl⟩)
theorem z136.sound:Sn z136.pack 41:=by
 intro vs p h;unfold z136.pack at h;split at h<;>cases h
 exact Qg Qd Qe rfl rfl rfl rfl (λg vs p h=>by unfold z136.C at h;simp only at h;split at h;exact z19.sound vs p h;exact z135.sound vs p h;exact z73.sound vs p h;exact z134.sound vs p h;simp at h) ⟨Tryz.func41,rfl,by kernel_rfl⟩ rfl (z136.link _ _ _) (by intro v r h;unfold z136.dec at h;split at h<;>cases h;exact ⟨rfl,rfl⟩)
theorem z140.sound:Sn z140.pack 42:=by
 intro vs p h;unfold z140.pack at h;split at h<;>cases h
 exact Qg Qd Qe rfl rfl rfl rfl (λg vs p h=>by unfold z140.C at h;simp only at h;split at h;exact z6.sound vs p h;exact z5.sound vs p h;simp at h) ⟨Tryz.func42,rfl,by kernel_rfl⟩ rfl (z140.link _ _ _) (by intro v r h;unfold z140.dec at h;split at h<;>cases h;exact ⟨rfl,rfl⟩)
theorem z143.sound:Sn z143.pack 61:=by
 intro vs p h;unfold z143.pack at h;split at h<;>cases h
 exact Qg Qd Qe rfl rfl rfl rfl (λg vs p h=>by unfold z143.C at h;simp only at h;split at h;exact z11.sound vs p h;simp at h) ⟨Tryz.func61,rfl,by kernel_rfl⟩ rfl (z143.link _ _ _) (by intro v r h;unfold z143.dec at h;split at h<;>cases h;exact ⟨rfl,rfl⟩)
theorem z144.l2_sound (hI:InlOK Tryz.prog z144.C λR=>z144.C.inlK 6):Qh z144.C 6 58 2 0 (Qf 2 (ifun Tryz.f58).body) z144.l2sh z144.l2pack:=by
 refine Qi λls p h=>?_
 unfold z144.l2pack at h;split at h<;>cases h
 rename_i a c e g j m n q r s t u v w y z A B
 exact Qm hI (sh:=z144.l2sh) (so:=z144.l2sh) (F:=λR rec done x=>z144.l2P a q rec done x) (enc:=λ(x':(Int×Int×Int×Int))=>Qb z144.l2sh [.i a,.i x'.1,.i e,.b g,.i j,.i m,.i n,.li q,.li r,.li s,.lr t,.lr u,.i v,.i w,.i y,.i x'.2.1,.i x'.2.2.1,.i x'.2.2.2]) [1,15,16,17] [1,15,16,17] (c,z,A,B) (by kernel_rfl) (by kernel_rfl) (λx=>by kernel_rfl) (λo=>by kernel_rfl) λR k d x'=>z144.l2_link R k d a (x'.1) e g j m n q r s t u v w y (x'.2.1) (x'.2.2.1) (x'.2.2.2)
theorem z144.l0aa_sound (hI:InlOK Tryz.prog z144.C λR=>z144.C.inlK 6):Qh z144.C 6 58 0 0 (Qf 0 (ifun Tryz.f58).body) z144.l0aash z144.l0aapack:=by
 refine Qi λls p h=>?_
 unfold z144.l0aapack at h;split at h<;>cases h
 rename_i a b c e g j m n q r s t
 exact Qm hI (sh:=z144.l0aash) (so:=z144.l0aash) (F:=λR rec done x=>z144.l0aaP g j m rec done x) (enc:=λ(x':(Int×(List (List V))×Int×Int×Int))=>Qb z144.l0aash [.i x'.1,.i b,.i c,.i e,.li g,.li j,.li m,.lr n,.lr x'.2.1,.i x'.2.2.1,.i x'.2.2.2.1,.i x'.2.2.2.2]) [0,8,9,10,11] [0,8,9,10,11] (a,q,r,s,t) (by kernel_rfl) (by kernel_rfl) (λx=>by kernel_rfl) (λo=>by kernel_rfl) λR k d x'=>z144.l0aa_link R k d (x'.1) b c e g j m n (x'.2.1) (x'.2.2.1) (x'.2.2.2.1) (x'.2.2.2.2)
theorem fun58:FunOK Tryz.prog 58 Tryz.f58 (ifun Tryz.f58).body:=⟨Tryz.func58,rfl,by kernel_rfl⟩
theorem Qq3:Qk (ifun Tryz.f58).body=true:=by kernel_rfl
theorem z144.loopsT (hI:InlOK Tryz.prog z144.C λR=>z144.C.inlK 6):LoopsOK z144.C (λR=>z144.C.inlK 6) 58 0 (ifun Tryz.f58).body:=by
 intro id b hm st p hp
 obtain rfl:=Ql Qq3 hm
 unfold z144.C at hp
 simp only at hp
 try split at hp
 all_goals first
  |(simp at hp;done)
  |(exfalso;omega)
  |exact z144.l2_sound hI st p hp
  |exact z144.l0aa_sound hI st p hp
theorem z144.sound:Sn z144.pack 58:=by
 intro vs p h;unfold z144.pack at h;split at h<;>cases h
 exact Qo Qd Qe rfl rfl rfl (λg vs p h=>by unfold z144.C at h;simp only at h;split at h;exact z12.sound vs p h;exact z143.sound vs p h;exact z9.sound vs p h;exact z6.sound vs p h;simp at h) fun58 z144.loopsT rfl (z144.link _ _ _ _ _ _) (by intro v r h;unfold z144.dec at h;split at h<;>cases h;exact ⟨rfl,rfl⟩)
theorem z145.l0_sound (hI:InlOK Tryz.prog z145.C λR=>z145.C.inlK 6):Qh z145.C 6 147 0 0 (Qf 0 (ifun Tryz.f147).body) z145.l0sh z145.l0pack:=by
 refine Qi λls p h=>?_
 unfold z145.l0pack at h;split at h<;>cases h
 rename_i a b c e g j m n q r t u v
 exact Q4 hI (sh:=z145.l0sh) (so:=z145.l0sh) (so':=z145.l0so1) (F:=λR rec done x=>z145.l0P a t u rec done x) (enc:=λ(x':(Int×Int×Int×Int×Int×Int×(List UInt8)×(List UInt8)×Int))=>Qb z145.l0sh [.lr a,.i b,.i x'.1,.i x'.2.1,.i x'.2.2.1,.i x'.2.2.2.1,.i x'.2.2.2.2.1,.i x'.2.2.2.2.2.1,.s x'.2.2.2.2.2.2.1,.s x'.2.2.2.2.2.2.2.1,.lr t,.i u,.i x'.2.2.2.2.2.2.2.2]) (.exit 0) [2,3,4,5,6,7,8,9,12] [2,3,4,5,6,7,8,9,12] [0] (c,e,g,j,m,n,q,r,v) (by kernel_rfl) (by kernel_rfl) (λx=>by kernel_rfl) (λo=>by kernel_rfl) (λo=>by kernel_rfl) λR k d x'=>z145.l0_link R k d a b (x'.1) (x'.2.1) (x'.2.2.1) (x'.2.2.2.1) (x'.2.2.2.2.1) (x'.2.2.2.2.2.1) (x'.2.2.2.2.2.2.1) (x'.2.2.2.2.2.2.2.1) t u (x'.2.2.2.2.2.2.2.2)
theorem z145.l0a_sound (hI:InlOK Tryz.prog z145.C λR=>z145.C.inlK 6):Qh z145.C 6 147 0 0 (Qf 0 (ifun Tryz.f147).body) z145.l0ash z145.l0apack:=by
 refine Qi λls p h=>?_
 unfold z145.l0apack at h;split at h<;>cases h
 rename_i a b c e g j m n q r t u v
 exact Q4 hI (sh:=z145.l0ash) (so:=z145.l0ash) (so':=z145.l0aso1) (F:=λR rec done x=>z145.l0aP a t u rec done x) (enc:=λ(x':(Int×Int×Int×Int×Int×Int×(List UInt8)×(List UInt8)×Int))=>Qb z145.l0ash [.lr a,.i b,.i x'.1,.i x'.2.1,.i x'.2.2.1,.i x'.2.2.2.1,.i x'.2.2.2.2.1,.i x'.2.2.2.2.2.1,.s x'.2.2.2.2.2.2.1,.s x'.2.2.2.2.2.2.2.1,.lr t,.i u,.i x'.2.2.2.2.2.2.2.2]) (.exit 0) [2,3,4,5,6,7,8,9,12] [2,3,4,5,6,7,8,9,12] [0] (c,e,g,j,m,n,q,r,v) (by kernel_rfl) (by kernel_rfl) (λx=>by kernel_rfl) (λo=>by kernel_rfl) (λo=>by kernel_rfl) λR k d x'=>z145.l0a_link R k d a b (x'.1) (x'.2.1) (x'.2.2.1) (x'.2.2.2.1) (x'.2.2.2.2.1) (x'.2.2.2.2.2.1) (x'.2.2.2.2.2.2.1) (x'.2.2.2.2.2.2.2.1) t u (x'.2.2.2.2.2.2.2.2)
theorem Qxm:Qk (ifun Tryz.f147).body=true:=by kernel_rfl
theorem z145.loopsT (hI:InlOK Tryz.prog z145.C λR=>z145.C.inlK 6):LoopsOK z145.C (λR=>z145.C.inlK 6) 147 0 (ifun Tryz.f147).body:=by
 intro id b hm st p hp
 obtain rfl:=Ql Qxm hm
 unfold z145.C at hp
 simp only at hp
 try split at hp
 all_goals first
  |(simp at hp;done)
  |(exfalso;omega)
  |exact (orP_some hp).elim (λh=>z145.l0_sound hI st p h) (λh=>z145.l0a_sound hI st p h)
theorem z145.loops213 (hI:InlOK Tryz.prog z145.C λR=>z145.C.inlK 0) (base:Nat):LoopsOK z145.C (λR=>z145.C.inlK 0) 213 base (ifun Tryz.f213).body:=by
 intro id b hm st p hp
 exfalso
 unfold z145.C at hp
 simp only at hp
 try split at hp
 all_goals first|(simp at hp;done)|omega
theorem z145.inlF:InlF Tryz.prog z145.C where
 prim g h hp:=by simp [z145.C] at hp
 fn g fn h:=by
  unfold z145.C at h;simp only at h;split at h
  ·simp only [Option.some.injEq] at h;subst h;exact ⟨_,_,⟨Tryz.func213,rfl,by kernel_rfl⟩,rfl⟩
  ·simp at h
 loops g fn h:=by
  unfold z145.C at h;simp only at h;split at h
  ·simp only [Option.some.injEq] at h;subst h;exact λhI base=>z145.loops213 hI base
  ·simp at h
theorem z145.sound:Sn z145.pack 147:=by
 intro vs p h;unfold z145.pack at h;split at h<;>cases h
 exact J0 Qd Qe rfl (λg vs p h=>by unfold z145.C at h;simp only at h;split at h;exact z89.sound vs p h;exact z96.sound vs p h;exact z46.sound vs p h;exact z76.sound vs p h;simp at h) z145.inlF ⟨Tryz.func147,rfl,by kernel_rfl⟩ z145.loopsT rfl (z145.link _) (by intro v r h;unfold z145.dec at h;split at h<;>cases h;exact ⟨rfl,rfl⟩)
theorem z146.sound:Sn z146.pack 148:=by
 intro vs p h;unfold z146.pack at h;split at h<;>cases h
 exact Qg Qd Qe rfl rfl rfl rfl (λg vs p h=>by unfold z146.C at h;simp only at h;split at h;exact z84.sound vs p h;simp at h) ⟨Tryz.func148,rfl,by kernel_rfl⟩ rfl (z146.link _) (by intro v r h;unfold z146.dec at h;split at h<;>cases h;exact ⟨rfl,rfl⟩)
theorem z147.sound:Sn z147.pack 71:=by
 intro vs p h;unfold z147.pack at h;split at h<;>cases h
 exact Qg Qd Qe rfl rfl rfl rfl (λg vs p h=>by unfold z147.C at h;simp only at h;split at h;exact z20.sound vs p h;simp at h) ⟨Tryz.func71,rfl,by kernel_rfl⟩ rfl (z147.link _ _ _) (by intro v r h;unfold z147.dec at h;split at h<;>cases h;exact ⟨rfl,rfl⟩)
theorem z148.sound:Sn z148.pack 216:=by
 intro vs p h;unfold z148.pack at h;split at h<;>cases h
 exact Qg Qd Qe rfl rfl rfl rfl (λg vs p h=>by simp [z148.C] at h) ⟨Tryz.func216,rfl,by kernel_rfl⟩ rfl (z148.link _ _ _) (by intro v r h;unfold z148.dec at h;split at h<;>cases h;exact ⟨rfl,rfl⟩)
theorem z149.sound:Sn z149.pack 217:=by
 intro vs p h;unfold z149.pack at h;split at h<;>cases h
 exact Qg Qd Qe rfl rfl rfl rfl (λg vs p h=>by unfold z149.C at h;simp only at h;split at h;exact z24.sound vs p h;exact z29.sound vs p h;exact z60.sound vs p h;simp at h) ⟨Tryz.func217,rfl,by kernel_rfl⟩ rfl (z149.link _ _ _ _) (by intro v r h;unfold z149.dec at h;split at h<;>cases h;exact ⟨rfl,rfl⟩)
theorem z150.sound:Sn z150.pack 150:=by
 intro vs p h;unfold z150.pack at h;split at h<;>cases h
 exact Qg Qd Qe rfl rfl rfl rfl (λg vs p h=>by unfold z150.C at h;simp only at h;split at h;exact z79.sound vs p h;exact z148.sound vs p h;exact z59.sound vs p h;exact z73.sound vs p h;exact z68.sound vs p h;exact z19.sound vs p h;exact z149.sound vs p h;exact z38.sound vs p h;exact z24.sound vs p h;exact z147.sound vs p h;exact z21.sound vs p h;simp at h) ⟨Tryz.func150,rfl,by kernel_rfl⟩ rfl (z150.link _ _ _ _) (by intro v r h;unfold z150.dec at h;split at h<;>cases h;exact ⟨rfl,rfl⟩)
theorem z151.sound:Sn z151.pack 78:=by
 intro vs p h;unfold z151.pack at h;split at h<;>cases h
 exact Qg Qd Qe rfl rfl rfl rfl (λg vs p h=>by unfold z151.C at h;simp only at h;split at h;exact z74.sound vs p h;exact z54.sound vs p h;exact z31.sound vs p h;exact z73.sound vs p h;exact z40.sound vs p h;exact z70.sound vs p h;simp at h) ⟨Tryz.func78,rfl,by kernel_rfl⟩ rfl (z151.link _ _ _ _ _ _) (by intro v r h;unfold z151.dec at h;split at h<;>cases h;exact ⟨rfl,rfl⟩)
theorem z152.sound:Sn z152.pack 89:=by
 intro vs p h;unfold z152.pack at h;split at h<;>cases h
 exact Qg Qd Qe rfl rfl rfl rfl (λg vs p h=>by unfold z152.C at h;simp only at h;split at h;exact z54.sound vs p h;exact z73.sound vs p h;exact z40.sound vs p h;exact z70.sound vs p h;simp at h) ⟨Tryz.func89,rfl,by kernel_rfl⟩ rfl (z152.link _ _ _ _ _ _) (by intro v r h;unfold z152.dec at h;split at h<;>cases h;exact ⟨rfl,rfl⟩)
theorem z153.sound:Sn z153.pack 230:=by
 intro vs p h;unfold z153.pack at h;split at h<;>cases h
 exact Qg Qd Qe rfl rfl rfl rfl (λg vs p h=>by unfold z153.C at h;simp only at h;split at h;exact z48.sound vs p h;exact z71.sound vs p h;simp at h) ⟨Tryz.func230,rfl,by kernel_rfl⟩ rfl (z153.link _ _) (by intro v r h;unfold z153.dec at h;split at h<;>cases h;exact ⟨rfl,rfl⟩)
theorem z154.sound:Sn z154.pack 229:=by
 intro vs p h;unfold z154.pack at h;split at h<;>cases h
 exact Qg Qd Qe rfl rfl rfl rfl (λg vs p h=>by unfold z154.C at h;simp only at h;split at h;exact z153.sound vs p h;simp at h) ⟨Tryz.func229,rfl,by kernel_rfl⟩ rfl (z154.link _ _ _ _ _ _) (by intro v r h;unfold z154.dec at h;split at h<;>cases h;exact ⟨rfl,rfl⟩)
theorem z155.sound:Sn z155.pack 65:=by
 intro vs p h;unfold z155.pack at h;split at h<;>cases h
 exact Qg Qd Qe rfl rfl rfl rfl (λg vs p h=>by unfold z155.C at h;simp only at h;split at h;exact z98.sound vs p h;simp at h) ⟨Tryz.func65,rfl,by kernel_rfl⟩ rfl (z155.link _ _ _ _ _ _) (by intro v r h;unfold z155.dec at h;split at h<;>cases h;exact ⟨rfl,rfl⟩)
theorem z156.sound:Sn z156.pack 231:=by
 intro vs p h;unfold z156.pack at h;split at h<;>cases h
 exact Qg Qd Qe rfl rfl rfl rfl (λg vs p h=>by unfold z156.C at h;simp only at h;split at h;exact z155.sound vs p h;simp at h) ⟨Tryz.func231,rfl,by kernel_rfl⟩ rfl (z156.link _ _ _ _ _ _) (by intro v r h;unfold z156.dec at h;split at h<;>cases h;exact ⟨rfl,rfl⟩)
theorem z157.sound:Sn z157.pack 269:=by
 intro vs p h;unfold z157.pack at h;split at h<;>cases h
 exact Qg Qd Qe rfl rfl rfl rfl (λg vs p h=>by unfold z157.C at h;simp only at h;split at h;exact z87.sound vs p h;simp at h) ⟨Tryz.func269,rfl,by kernel_rfl⟩ rfl (z157.link _) (by intro v r h;unfold z157.dec at h;split at h<;>cases h;exact ⟨rfl,rfl⟩)
theorem z158.sound:Sn z158.pack 232:=by
 intro vs p h;unfold z158.pack at h;split at h<;>cases h
 exact Qg Qd Qe rfl rfl rfl rfl (λg vs p h=>by unfold z158.C at h;simp only at h;split at h;exact z156.sound vs p h;exact z157.sound vs p h;exact z153.sound vs p h;exact z151.sound vs p h;simp at h) ⟨Tryz.func232,rfl,by kernel_rfl⟩ rfl (z158.link _ _ _ _ _ _) (by intro v r h;unfold z158.dec at h;split at h<;>cases h;exact ⟨rfl,rfl⟩)
theorem z159.sound:Sn z159.pack 165:=by
 intro vs p h;unfold z159.pack at h;split at h<;>cases h
 exact Qg Qd Qe rfl rfl rfl rfl (λg vs p h=>by unfold z159.C at h;simp only at h;split at h;exact z82.sound vs p h;exact z89.sound vs p h;exact z96.sound vs p h;exact z154.sound vs p h;exact z156.sound vs p h;exact z153.sound vs p h;exact z158.sound vs p h;simp at h) ⟨Tryz.func165,rfl,by kernel_rfl⟩ rfl (z159.link _ _ _ _ _ _ _) (by intro v r h;unfold z159.dec at h;split at h<;>cases h;exact ⟨rfl,rfl⟩)
theorem z160.sound:Sn z160.pack 218:=by
 intro vs p h;unfold z160.pack at h;split at h<;>cases h
 exact Qg Qd Qe rfl rfl rfl rfl (λg vs p h=>by unfold z160.C at h;simp only at h;split at h;exact z96.sound vs p h;simp at h) ⟨Tryz.func218,rfl,by kernel_rfl⟩ rfl (z160.link _ _ _ _ _ _) (by intro v r h;unfold z160.dec at h;split at h<;>cases h;exact ⟨rfl,rfl⟩)
theorem z161.l0_sound (hI:InlOK Tryz.prog z161.C λR=>z161.C.inlK 6):Qh z161.C 6 151 0 0 (Qf 0 (ifun Tryz.f151).body) z161.l0sh z161.l0pack:=by
 refine Qi λls p h=>?_
 unfold z161.l0pack at h;split at h<;>cases h
 rename_i a c e g j m n q r s t u v
 exact Qm hI (sh:=z161.l0sh) (so:=z161.l0sh) (F:=λR rec done x=>z161.l0P a c e j m n rec done x) (enc:=λ(x':(Int×(List Int)×Bool×(List Int)))=>Qb z161.l0sh [.i a,.lr c,.i e,.i x'.1,.i j,.i m,.i n,.li q,.b r,.li s,.li x'.2.1,.b x'.2.2.1,.li x'.2.2.2]) [3,10,11,12] [3,10,11,12] (g,t,u,v) (by kernel_rfl) (by kernel_rfl) (λx=>by kernel_rfl) (λo=>by kernel_rfl) λR k d x'=>z161.l0_link R k d a c e (x'.1) j m n q r s (x'.2.1) (x'.2.2.1) (x'.2.2.2)
theorem Qxy:Qk (ifun Tryz.f151).body=true:=by kernel_rfl
theorem z161.loopsT (hI:InlOK Tryz.prog z161.C λR=>z161.C.inlK 6):LoopsOK z161.C (λR=>z161.C.inlK 6) 151 0 (ifun Tryz.f151).body:=by
 intro id b hm st p hp
 obtain rfl:=Ql Qxy hm
 unfold z161.C at hp
 simp only at hp
 try split at hp
 all_goals first
  |(simp at hp;done)
  |(exfalso;omega)
  |exact z161.l0_sound hI st p hp
theorem z161.sound:Sn z161.pack 151:=by
 intro vs p h;unfold z161.pack at h;split at h<;>cases h
 exact Qo Qd Qe rfl rfl rfl (λg vs p h=>by unfold z161.C at h;simp only at h;split at h;exact z96.sound vs p h;exact z46.sound vs p h;exact z76.sound vs p h;exact z160.sound vs p h;exact z159.sound vs p h;exact z47.sound vs p h;exact z152.sound vs p h;exact z151.sound vs p h;simp at h) ⟨Tryz.func151,rfl,by kernel_rfl⟩ z161.loopsT rfl (z161.link _ _ _ _ _) (by intro v r h;unfold z161.dec at h;split at h<;>cases h;exact ⟨rfl,rfl⟩)
theorem z162.l0_sound (hI:InlOK Tryz.prog z162.C λR=>z162.C.inlK 6):Qh z162.C 6 59 0 0 (Qf 0 (ifun Tryz.f59).body) z162.l0sh z162.l0pack:=by
 refine Qi λls p h=>?_
 unfold z162.l0pack at h;split at h<;>cases h
 rename_i a c e g j m n q r s t
 exact Qm hI (sh:=z162.l0sh) (so:=z162.l0sh) (F:=λR rec done x=>z162.l0P a c e rec done x) (enc:=λ(x':((List (List V))×(List Int)×Bool×Int×Int×Int))=>Qb z162.l0sh [.i a,.i c,.lr e,.i g,.lr j,.lr x'.1,.li x'.2.1,.b x'.2.2.1,.i x'.2.2.2.1,.i x'.2.2.2.2.1,.i x'.2.2.2.2.2]) [5,6,7,8,9,10] [5,6,7,8,9,10] (m,n,q,r,s,t) (by kernel_rfl) (by kernel_rfl) (λx=>by kernel_rfl) (λo=>by kernel_rfl) λR k d x'=>z162.l0_link R k d a c e g j (x'.1) (x'.2.1) (x'.2.2.1) (x'.2.2.2.1) (x'.2.2.2.2.1) (x'.2.2.2.2.2)
theorem Q4a:Qk (ifun Tryz.f59).body=true:=by kernel_rfl
theorem z162.loopsT (hI:InlOK Tryz.prog z162.C λR=>z162.C.inlK 6):LoopsOK z162.C (λR=>z162.C.inlK 6) 59 0 (ifun Tryz.f59).body:=by
 intro id b hm st p hp
 obtain rfl:=Ql Q4a hm
 unfold z162.C at hp
 simp only at hp
 try split at hp
 all_goals first
  |(simp at hp;done)
  |(exfalso;omega)
  |exact z162.l0_sound hI st p hp
theorem z162.sound:Sn z162.pack 59:=by
 intro vs p h;unfold z162.pack at h;split at h<;>cases h
 exact Qo Qd Qe rfl rfl rfl (λg vs p h=>by unfold z162.C at h;simp only at h;split at h;exact z145.sound vs p h;exact z146.sound vs p h;exact z81.sound vs p h;exact z100.sound vs p h;exact z161.sound vs p h;exact z150.sound vs p h;exact z33.sound vs p h;simp at h) ⟨Tryz.func59,rfl,by kernel_rfl⟩ z162.loopsT rfl (z162.link _ _ _) (by intro v r h;unfold z162.dec at h;split at h<;>cases h;exact ⟨rfl,rfl⟩)
theorem z163.sound:Sn z163.pack 220:=by
 intro vs p h;unfold z163.pack at h;split at h<;>cases h
 exact Qg Qd Qe rfl rfl rfl rfl (λg vs p h=>by unfold z163.C at h;simp only at h;split at h;exact z122.sound vs p h;exact z110.sound vs p h;exact z15.sound vs p h;exact z117.sound vs p h;simp at h) ⟨Tryz.func220,rfl,by kernel_rfl⟩ rfl (z163.link _ _ _ _ _ _) (by intro v r h;unfold z163.dec at h;split at h<;>cases h;exact ⟨rfl,rfl⟩)
theorem z164.l0_sound (hI:InlOK Tryz.prog z164.C λR=>z164.C.inlK 6):Qh z164.C 6 233 0 0 (Qf 0 (ifun Tryz.f233).body) z164.l0sh z164.l0pack:=by
 refine Qi λls p h=>?_
 unfold z164.l0pack at h;split at h<;>cases h
 rename_i a b c e g j
 exact Qm hI (sh:=z164.l0sh) (so:=z164.l0sh) (F:=λR rec done x=>z164.l0P e rec done x) (enc:=λ(x':(Int×Int))=>Qb z164.l0sh [.i a,.i x'.1,.i x'.2,.i e,.i g,.i j]) [1,2] [1,2] (b,c) (by kernel_rfl) (by kernel_rfl) (λx=>by kernel_rfl) (λo=>by kernel_rfl) λR k d x'=>z164.l0_link R k d a (x'.1) (x'.2) e g j
theorem z164.l2_sound (hI:InlOK Tryz.prog z164.C λR=>z164.C.inlK 6):Qh z164.C 6 233 2 0 (Qf 2 (ifun Tryz.f233).body) z164.l2sh z164.l2pack:=by
 refine Qi λls p h=>?_
 unfold z164.l2pack at h;split at h<;>cases h
 rename_i a b c e g j
 exact Qm hI (sh:=z164.l2sh) (so:=z164.l2sh) (F:=λR rec done x=>z164.l2P e g rec done x) (enc:=λ(x':(Int×Int))=>Qb z164.l2sh [.i a,.i x'.1,.i x'.2,.i e,.i g,.i j]) [1,2] [1,2] (b,c) (by kernel_rfl) (by kernel_rfl) (λx=>by kernel_rfl) (λo=>by kernel_rfl) λR k d x'=>z164.l2_link R k d a (x'.1) (x'.2) e g j
theorem Qv7:Qk (ifun Tryz.f233).body=true:=by kernel_rfl
theorem z164.loopsT (hI:InlOK Tryz.prog z164.C λR=>z164.C.inlK 6):LoopsOK z164.C (λR=>z164.C.inlK 6) 233 0 (ifun Tryz.f233).body:=by
 intro id b hm st p hp
 obtain rfl:=Ql Qv7 hm
 unfold z164.C at hp
 simp only at hp
 try split at hp
 all_goals first
  |(simp at hp;done)
  |(exfalso;omega)
  |exact z164.l0_sound hI st p hp
  |exact z164.l2_sound hI st p hp
theorem z164.sound:Sn z164.pack 233:=by
 intro vs p h;unfold z164.pack at h;split at h<;>cases h
 exact Qo Qd Qe rfl rfl rfl (λg vs p h=>by unfold z164.C at h;simp only at h;split at h;exact z10.sound vs p h;exact z11.sound vs p h;simp at h) ⟨Tryz.func233,rfl,by kernel_rfl⟩ z164.loopsT rfl (z164.link _ _ _) (by intro v r h;unfold z164.dec at h;split at h<;>cases h;exact ⟨rfl,rfl⟩)
theorem z165.l0_sound (hI:InlOK Tryz.prog z165.C λR=>z165.C.inlK 6):Qh z165.C 6 166 0 0 (Qf 0 (ifun Tryz.f166).body) z165.l0sh z165.l0pack:=by
 refine Qi λls p h=>?_
 unfold z165.l0pack at h;split at h<;>cases h
 rename_i a c e g j m n q r s t u
 exact Qm hI (sh:=z165.l0sh) (so:=z165.l0sh) (F:=λR rec done x=>z165.l0P a c g rec done x) (enc:=λ(x':(Int×(List Int)×Bool×(List Int)))=>Qb z165.l0sh [.i a,.i c,.i x'.1,.i g,.i j,.i m,.li n,.b q,.li r,.li x'.2.1,.b x'.2.2.1,.li x'.2.2.2]) [2,9,10,11] [2,9,10,11] (e,s,t,u) (by kernel_rfl) (by kernel_rfl) (λx=>by kernel_rfl) (λo=>by kernel_rfl) λR k d x'=>z165.l0_link R k d a c (x'.1) g j m n q r (x'.2.1) (x'.2.2.1) (x'.2.2.2)
theorem Qxg:Qk (ifun Tryz.f166).body=true:=by kernel_rfl
theorem z165.loopsT (hI:InlOK Tryz.prog z165.C λR=>z165.C.inlK 6):LoopsOK z165.C (λR=>z165.C.inlK 6) 166 0 (ifun Tryz.f166).body:=by
 intro id b hm st p hp
 obtain rfl:=Ql Qxg hm
 unfold z165.C at hp
 simp only at hp
 try split at hp
 all_goals first
  |(simp at hp;done)
  |(exfalso;omega)
  |exact z165.l0_sound hI st p hp
theorem z165.sound:Sn z165.pack 166:=by
 intro vs p h;unfold z165.pack at h;split at h<;>cases h
 exact Qo Qd Qe rfl rfl rfl (λg vs p h=>by unfold z165.C at h;simp only at h;split at h;exact z119.sound vs p h;exact z164.sound vs p h;exact z10.sound vs p h;exact z163.sound vs p h;simp at h) ⟨Tryz.func166,rfl,by kernel_rfl⟩ z165.loopsT rfl (z165.link _ _ _ _ _ _ _) (by intro v r h;unfold z165.dec at h;split at h<;>cases h;exact ⟨rfl,rfl⟩)
theorem z166.sound:Sn z166.pack 167:=by
 intro vs p h;unfold z166.pack at h;split at h<;>cases h
 exact Qg Qd Qe rfl rfl rfl rfl (λg vs p h=>by simp [z166.C] at h) ⟨Tryz.func167,rfl,by kernel_rfl⟩ rfl (z166.link _ _) (by intro v r h;unfold z166.dec at h;split at h<;>cases h;exact ⟨rfl,rfl⟩)
theorem z167.sound:Sn z167.pack 168:=by
 intro vs p h;unfold z167.pack at h;split at h<;>cases h
 exact Qg Qd Qe rfl rfl rfl rfl (λg vs p h=>by unfold z167.C at h;simp only at h;split at h;exact z16.sound vs p h;exact z15.sound vs p h;exact z117.sound vs p h;simp at h) ⟨Tryz.func168,rfl,by kernel_rfl⟩ rfl (z167.link _ _ _ _ _ _) (by intro v r h;unfold z167.dec at h;split at h<;>cases h;exact ⟨rfl,rfl⟩)
theorem z168.l0_sound (hI:InlOK Tryz.prog z168.C λR=>z168.C.inlK 6):Qh z168.C 6 154 0 0 (Qf 0 (ifun Tryz.f154).body) z168.l0sh z168.l0pack:=by
 refine Qi λls p h=>?_
 unfold z168.l0pack at h;split at h<;>cases h
 rename_i a c e g j m n q r s t u
 exact Qm hI (sh:=z168.l0sh) (so:=z168.l0sh) (F:=λR rec done x=>z168.l0P a c g j m rec done x) (enc:=λ(x':(Int×(List Int)×Bool×(List Int)))=>Qb z168.l0sh [.i a,.lr c,.i x'.1,.i g,.i j,.i m,.li n,.b q,.li r,.li x'.2.1,.b x'.2.2.1,.li x'.2.2.2]) [2,9,10,11] [2,9,10,11] (e,s,t,u) (by kernel_rfl) (by kernel_rfl) (λx=>by kernel_rfl) (λo=>by kernel_rfl) λR k d x'=>z168.l0_link R k d a c (x'.1) g j m n q r (x'.2.1) (x'.2.2.1) (x'.2.2.2)
theorem Qtr:Qk (ifun Tryz.f154).body=true:=by kernel_rfl
theorem z168.loopsT (hI:InlOK Tryz.prog z168.C λR=>z168.C.inlK 6):LoopsOK z168.C (λR=>z168.C.inlK 6) 154 0 (ifun Tryz.f154).body:=by
 intro id b hm st p hp
 obtain rfl:=Ql Qtr hm
 unfold z168.C at hp
 simp only at hp
 try split at hp
 all_goals first
  |(simp at hp;done)
  |(exfalso;omega)
  |exact z168.l0_sound hI st p hp
theorem z168.sound:Sn z168.pack 154:=by
 intro vs p h;unfold z168.pack at h;split at h<;>cases h
 exact Qo Qd Qe rfl rfl rfl (λg vs p h=>by unfold z168.C at h;simp only at h;split at h;exact z119.sound vs p h;exact z132.sound vs p h;exact z114.sound vs p h;exact z125.sound vs p h;exact z165.sound vs p h;exact z166.sound vs p h;exact z167.sound vs p h;exact z163.sound vs p h;simp at h) ⟨Tryz.func154,rfl,by kernel_rfl⟩ z168.loopsT rfl (z168.link _ _ _ _ _) (by intro v r h;unfold z168.dec at h;split at h<;>cases h;exact ⟨rfl,rfl⟩)
theorem z169.sound:Sn z169.pack 155:=by
 intro vs p h;unfold z169.pack at h;split at h<;>cases h
 exact Qg Qd Qe rfl rfl rfl rfl (λg vs p h=>by unfold z169.C at h;simp only at h;split at h;exact z115.sound vs p h;exact z107.sound vs p h;exact z15.sound vs p h;exact z108.sound vs p h;exact z7.sound vs p h;simp at h) ⟨Tryz.func155,rfl,by kernel_rfl⟩ rfl (z169.link _ _ _ _) (by intro v r h;unfold z169.dec at h;split at h<;>cases h;exact ⟨rfl,rfl⟩)
theorem z170.sound:Sn z170.pack 62:=by
 intro vs p h;unfold z170.pack at h;split at h<;>cases h
 exact Qg Qd Qe rfl rfl rfl rfl (λg vs p h=>by unfold z170.C at h;simp only at h;split at h;exact z168.sound vs p h;exact z169.sound vs p h;simp at h) ⟨Tryz.func62,rfl,by kernel_rfl⟩ rfl (z170.link _ _ _ _ _ _) (by intro v r h;unfold z170.dec at h;split at h<;>cases h;exact ⟨rfl,rfl⟩)
theorem z171.sound:Sn z171.pack 66:=by
 intro vs p h;unfold z171.pack at h;split at h<;>cases h
 exact Qg Qd Qe rfl rfl rfl rfl (λg vs p h=>by unfold z171.C at h;simp only at h;split at h;exact z145.sound vs p h;exact z89.sound vs p h;exact z146.sound vs p h;exact z161.sound vs p h;simp at h) ⟨Tryz.func66,rfl,by kernel_rfl⟩ rfl (z171.link _ _ _ _ _) (by intro v r h;unfold z171.dec at h;split at h<;>cases h;exact ⟨rfl,rfl⟩)
theorem z172.sound:Sn z172.pack 73:=by
 intro vs p h;unfold z172.pack at h;split at h<;>cases h
 exact Qg Qd Qe rfl rfl rfl rfl (λg vs p h=>by unfold z172.C at h;simp only at h;split at h;exact z171.sound vs p h;exact z150.sound vs p h;simp at h) ⟨Tryz.func73,rfl,by kernel_rfl⟩ rfl (z172.link _ _ _ _ _ _) (by intro v r h;unfold z172.dec at h;split at h<;>cases h;exact ⟨rfl,rfl⟩)
theorem z173.sound:Sn z173.pack 64:=by
 intro vs p h;unfold z173.pack at h;split at h<;>cases h
 exact Qg Qd Qe rfl rfl rfl rfl (λg vs p h=>by unfold z173.C at h;simp only at h;split at h;exact z162.sound vs p h;exact z172.sound vs p h;exact z135.sound vs p h;exact z145.sound vs p h;simp at h) ⟨Tryz.func64,rfl,by kernel_rfl⟩ rfl z173.link (by intro v r h;unfold z173.dec at h;split at h<;>cases h;exact ⟨rfl,rfl⟩)
theorem z179.l0b19_sound (hI:InlOK Tryz.prog z179.C λR=>z179.C.inlK 6):Qh z179.C 6 159 0 0 (Qf 0 (ifun Tryz.f159).body) z179.l0b19sh z179.l0b19pack:=by
 refine Qi λls p h=>?_
 unfold z179.l0b19pack at h;split at h<;>cases h
 rename_i a b c
 exact Q4 hI (sh:=z179.l0b19sh) (so:=z179.l0b19sh) (so':=z179.l0b19so1) (F:=λR rec done x=>z179.l0b19P a rec done x) (enc:=λ(x':Int)=>Qb z179.l0b19sh [.lr a,.i b,.i x']) (.exit 0) [2] [2] [0] c (by kernel_rfl) (by kernel_rfl) (λx=>by kernel_rfl) (λo=>by kernel_rfl) (λo=>by kernel_rfl) λR k d x'=>z179.l0b19_link R k d a b (x')
theorem Qve:Qk (ifun Tryz.f159).body=true:=by kernel_rfl
theorem z179.loopsT (hI:InlOK Tryz.prog z179.C λR=>z179.C.inlK 6):LoopsOK z179.C (λR=>z179.C.inlK 6) 159 0 (ifun Tryz.f159).body:=by
 intro id b hm st p hp
 obtain rfl:=Ql Qve hm
 unfold z179.C at hp
 simp only at hp
 try split at hp
 all_goals first
  |(simp at hp;done)
  |(exfalso;omega)
  |exact z179.l0b19_sound hI st p hp
theorem z179.sound:Sn z179.pack 159:=by
 intro vs p h;unfold z179.pack at h;split at h<;>cases h
 exact Qo Qd Qe rfl rfl rfl (λg vs p h=>by unfold z179.C at h;simp only at h;split at h;exact z126.sound vs p h;exact z132.sound vs p h;exact z114.sound vs p h;exact z125.sound vs p h;simp at h) ⟨Tryz.func159,rfl,by kernel_rfl⟩ z179.loopsT rfl (z179.link _) (by intro v r h;unfold z179.dec at h;split at h<;>cases h;exact ⟨rfl,rfl⟩)
theorem z180.l1_sound (hI:InlOK Tryz.prog z180.C λR=>z180.C.inlK 6):Qh z180.C 6 75 1 0 (Qf 1 (ifun Tryz.f75).body) z180.l1sh z180.l1pack:=by
 refine Qi λls p h=>?_
 unfold z180.l1pack at h;split at h<;>cases h
 rename_i a c e g j m n q r s t u v w y z
 exact Q4 hI (sh:=z180.l1sh) (so:=z180.l1sh) (so':=z180.l1so1) (F:=λR rec done x=>z180.l1P j m n rec done x) (enc:=λ(x':Int)=>Qb z180.l1sh [.lr a,.i c,.i e,.b g,.i j,.lr m,.i n,.i x',.i r,.i s,.i t,.li u,.b v,.li w,.li y,.b z]) (.exit 1) [7] [7] [0] q (by kernel_rfl) (by kernel_rfl) (λx=>by kernel_rfl) (λo=>by kernel_rfl) (λo=>by kernel_rfl) λR k d x'=>z180.l1_link R k d a c e g j m n (x') r s t u v w y z
theorem Quw:Qk (ifun Tryz.f75).body=true:=by kernel_rfl
theorem z180.loopsT (hI:InlOK Tryz.prog z180.C λR=>z180.C.inlK 6):LoopsOK z180.C (λR=>z180.C.inlK 6) 75 0 (ifun Tryz.f75).body:=by
 intro id b hm st p hp
 obtain rfl:=Ql Quw hm
 unfold z180.C at hp
 simp only at hp
 try split at hp
 all_goals first
  |(simp at hp;done)
  |(exfalso;omega)
  |exact z180.l1_sound hI st p hp
theorem z180.sound:Sn z180.pack 75:=by
 intro vs p h;unfold z180.pack at h;split at h<;>cases h
 exact Qo Qd Qe rfl rfl rfl (λg vs p h=>by unfold z180.C at h;simp only at h;split at h;exact z171.sound vs p h;exact z172.sound vs p h;exact z179.sound vs p h;exact z145.sound vs p h;exact z126.sound vs p h;exact z147.sound vs p h;exact z20.sound vs p h;exact z136.sound vs p h;exact z168.sound vs p h;exact z140.sound vs p h;exact z135.sound vs p h;exact z170.sound vs p h;exact z6.sound vs p h;simp at h) ⟨Tryz.func75,rfl,by kernel_rfl⟩ z180.loopsT rfl (z180.link _ _ _ _ _ _) (by intro v r h;unfold z180.dec at h;split at h<;>cases h;exact ⟨rfl,rfl⟩)
theorem z181.l0b7_sound (hI:InlOK Tryz.prog z181.C λR=>z181.C.inlK 6):Qh z181.C 6 16 0 0 (Qf 0 (ifun Tryz.f16).body) z181.l0b7sh z181.l0b7pack:=by
 refine Qi λls p h=>?_
 unfold z181.l0b7pack at h;split at h<;>cases h
 rename_i a c e g j m n q r s t u
 exact Q4 hI (sh:=z181.l0b7sh) (so:=z181.l0b7sh) (so':=z181.l0b7so1) (F:=λR rec done x=>z181.l0b7P a g rec done x) (enc:=λ(x':Int)=>Qb z181.l0b7sh [.lr a,.b c,.lr e,.i g,.i x',.i m,.i n,.i q,.i r,.i s,.i t,.i u]) (.exit 0) [4] [4] [0] j (by kernel_rfl) (by kernel_rfl) (λx=>by kernel_rfl) (λo=>by kernel_rfl) (λo=>by kernel_rfl) λR k d x'=>z181.l0b7_link R k d a c e g (x') m n q r s t u
theorem z181.l6b9_sound (hI:InlOK Tryz.prog z181.C λR=>z181.C.inlK 6):Qh z181.C 6 16 6 0 (Qf 6 (ifun Tryz.f16).body) z181.l6b9sh z181.l6b9pack:=by
 refine Qi λls p h=>?_
 unfold z181.l6b9pack at h;split at h<;>cases h
 rename_i a c e g j m n q r s t u v w y z A B D E G H I J
 exact Q4 hI (sh:=z181.l6b9sh) (so:=z181.l6b9sh) (so':=z181.l6b9so1) (F:=λR rec done x=>z181.l6b9P c r s v H I J rec done x) (enc:=λ(x':Int)=>Qb z181.l6b9sh [.b a,.lr c,.lr e,.i g,.i j,.lr m,.i n,.i q,.li r,.i s,.i x',.i u,.i v,.i w,.i y,.i z,.i A,.i B,.i D,.i E,.i G,.i H,.i I,.i J]) (.exit 6) [10] [10] [0] t (by kernel_rfl) (by kernel_rfl) (λx=>by kernel_rfl) (λo=>by kernel_rfl) (λo=>by kernel_rfl) λR k d x'=>z181.l6b9_link R k d a c e g j m n q r s (x') u v w y z A B D E G H I J
theorem z181.l4_sound (hI:InlOK Tryz.prog z181.C λR=>z181.C.inlK 6):Qh z181.C 6 16 4 0 (Qf 4 (ifun Tryz.f16).body) z181.l4sh z181.l4pack:=by
 refine Qi λls p h=>?_
 unfold z181.l4pack at h;split at h<;>cases h
 rename_i a c e g j m n q r s t u v w y z A B
 exact Q4 hI (sh:=z181.l4sh) (so:=z181.l4sh) (so':=z181.l4so1) (F:=λR rec done x=>z181.l4P c m n r s rec done x) (enc:=λ(x':Int)=>Qb z181.l4sh [.b a,.lr c,.lr e,.i g,.i j,.lr m,.i n,.i x',.i r,.i s,.i t,.i u,.i v,.i w,.i y,.i z,.i A,.i B]) (.exit 4) [7] [7] [0] q (by kernel_rfl) (by kernel_rfl) (λx=>by kernel_rfl) (λo=>by kernel_rfl) (λo=>by kernel_rfl) λR k d x'=>z181.l4_link R k d a c e g j m n (x') r s t u v w y z A B
theorem z181.l2_sound (hI:InlOK Tryz.prog z181.C λR=>z181.C.inlK 6):Qh z181.C 6 16 2 0 (Qf 2 (ifun Tryz.f16).body) z181.l2sh z181.l2pack:=by
 refine Qi λls p h=>?_
 unfold z181.l2pack at h;split at h<;>cases h
 rename_i a c e g j m n q r s t u v w
 exact Q4 hI (sh:=z181.l2sh) (so:=z181.l2sh) (so':=z181.l2so1) (F:=λR rec done x=>z181.l2P c e j m n q r u v w rec done x) (enc:=λ(x':Int)=>Qb z181.l2sh [.b a,.lr c,.i e,.i x',.i j,.i m,.i n,.i q,.i r,.i s,.i t,.i u,.i v,.i w]) (.exit 2) [3] [3] [0] g (by kernel_rfl) (by kernel_rfl) (λx=>by kernel_rfl) (λo=>by kernel_rfl) (λo=>by kernel_rfl) λR k d x'=>z181.l2_link R k d a c e (x') j m n q r s t u v w
theorem Qpd:FunOK Tryz.prog 16 Tryz.f16 (ifun Tryz.f16).body:=⟨Tryz.func16,rfl,by kernel_rfl⟩
theorem Qu1:Qk (ifun Tryz.f16).body=true:=by kernel_rfl
theorem z181.loopsT (hI:InlOK Tryz.prog z181.C λR=>z181.C.inlK 6):LoopsOK z181.C (λR=>z181.C.inlK 6) 16 0 (ifun Tryz.f16).body:=by
 intro id b hm st p hp
 obtain rfl:=Ql Qu1 hm
 unfold z181.C at hp
 simp only at hp
 try split at hp
 all_goals first
  |(simp at hp;done)
  |(exfalso;omega)
  |exact z181.l0b7_sound hI st p hp
  |exact z181.l6b9_sound hI st p hp
  |exact z181.l4_sound hI st p hp
  |exact z181.l2_sound hI st p hp
theorem z181.sound:Sn z181.pack 16:=by
 intro vs p h;unfold z181.pack at h;split at h<;>cases h
 exact Qo Qd Qe rfl rfl rfl (λg vs p h=>by unfold z181.C at h;simp only at h;split at h;exact z144.sound vs p h;exact z173.sound vs p h;exact z100.sound vs p h;exact z180.sound vs p h;simp at h) Qpd z181.loopsT rfl (z181.link _ _ _ _ _ _ _ _ _ _ _ _ _ _) (by intro v r h;unfold z181.dec at h;split at h<;>cases h;exact ⟨rfl,rfl⟩)
end
end Go.Proofs.YtgjncgiekniniaaGreatDoor.A
end
