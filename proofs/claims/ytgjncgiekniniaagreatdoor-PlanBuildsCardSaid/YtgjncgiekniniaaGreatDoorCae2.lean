/- Part 2 of the proof of PlanBuilds.card. -/
import Derived.Test.YtgjncgiekniniaaGreatDoorCae1
set_option linter.unusedVariables false
set_option linter.unusedSimpArgs false
section
namespace Go.Proofs.YtgjncgiekniniaaGreatDoor.A
open Go
noncomputable section
def z5.l2P {R:Type} (rec done:(J1×Int×Int)->Option R):(J1×Int×Int)->Option R:=λx=>match x with
 |(a,b,c)=>(bif (decide (c<4)) then (if ([(wr .u8 (wr .i64 ((48:Int)+(Int.tmod b 10))))].map λn=>UInt8.ofNat n.toNat).length+a.length<=9223372036854775807 then (rec ((([(wr .u8 (wr .i64 ((48:Int)+(Int.tmod b 10))))].map λn=>UInt8.ofNat n.toNat)++a),(wr .i64 (Int.tdiv b 10)),(wr .i64 (c+1)))) else none) else (done (a,b,c)))
def z5.l2 (x:(J1×Int×Int)):Option ((J1×Int×Int)):=lfp (λrec x=>z5.l2P rec some x) x
def z5.l0P (a:J0) {R:Type} (rec done:(J1×Int)->Option R):(J1×Int)->Option R:=λx=>match x with
 |(b,c)=>(bif (decide (c<(((a).length:Nat):Int))) then (if 0<=c/\c<(a.length:Int) then ((z5.l2 (b,(a.getD (c).toNat 0),(0:Int))).bind λd=>(rec (d.1,(wr .i64 (c+1))))) else none) else (done (b,c)))
def z5.l0 (a:J0) (x:(J1×Int)):Option ((J1×Int)):=lfp (λrec x=>z5.l0P a rec some x) x
def z5.l4P (a:J1) {R:Type} (rec:Int->Option R) (done:(Int)->Option R):Int->Option R:=λb=>(if 0<=b/\b<(a.length:Int) then (bif (decide (((a.getD (b).toNat 0).toNat:Int)=48)) then (rec (wr .i64 (b+1))) else (done b)) else none)
def z5.l4 (a:J1) (x:Int):Option ((Int)):=lfp (λrec x=>z5.l4P a rec some x) x
def z5.F (a0:J0):Option (J1):=
 (bif (decide ((((a0).length:Nat):Int)=0)) then (some ([48]:J1)) else ((z5.l0 a0 (([]:J1),(0:Int))).bind λo1=>((z5.l4 o1.1 0).bind λo2=>(if 0<=o2/\o2<=((o1.1).length:Int) then (some (o1.1.drop (o2).toNat)) else none))))
def z5.enc (r:J1):V:=(.str r)
def z5.pack:List V->Option Pack
 |[(.ints _ .i64 a0)]=>some ⟨J1,z5.F a0,z5.enc⟩
 |_=>none
def z6.F (a0:J0) (a1:Bool):Option (J1):=
 ((z5.F a0).bind λr1=>(bif a1 then (if ([45]:J1).length+r1.length<=9223372036854775807 then (some (([45]:J1)++r1)) else none) else (some r1)))
def z6.pack:List V->Option Pack
 |[(.agg [(.ints _ .i64 a0),(.bool a1)])]=>some ⟨J1,z6.F a0 a1,z5.enc⟩
 |_=>none
def z7.F (a0:J0) (a1:Bool):Option (J0×Bool):=
 (bif a1 then (some (a0,(decide ((((a0).length:Nat):Int)>0)))) else (some (a0,false)))
def z7.enc (r:J0×Bool):V:=(.agg [(.ints false .i64 r.1),(.bool r.2)])
def z7.pack:List V->Option Pack
 |[(.ints _ .i64 a0),(.bool a1)]=>some ⟨J0×Bool,z7.F a0 a1,z7.enc⟩
 |_=>none
def z8.l0P {R:Type} (rec done:(Int×J0)->Option R):(Int×J0)->Option R:=λx=>match x with
 |(a,b)=>(bif (decide (a>0)) then (if ((b).length+([(Int.tmod a 10000)]).length)*8<=140737488355328 then (rec ((wr .i64 (Int.tdiv a 10000)),(b++[(Int.tmod a 10000)]))) else none) else (done (a,b)))
def z8.l0 (x:(Int×J0)):Option ((Int×J0)):=lfp (λrec x=>z8.l0P rec some x) x
def z8.F (a0:Int):Option (J0):=
 ((z8.l0 (a0,[])).bind λo1=>(some o1.2))
def z8.enc (r:J0):V:=(.ints false .i64 r)
def z8.pack:List V->Option Pack
 |[(.int .i64 a0)]=>some ⟨J0,z8.F a0,z8.enc⟩
 |_=>none
def z9.F (a0:Int):Option (J0×Bool):=
 (bif (decide (a0<0)) then ((z8.F (wr .i64 (0-a0))).bind λr1=>((z7.F r1 true).bind λr2=>(some (r2.1,r2.2)))) else ((z8.F a0).bind λr3=>((z7.F r3 false).bind λr4=>(some (r4.1,r4.2)))))
def z9.pack:List V->Option Pack
 |[(.int .i64 a0)]=>some ⟨J0×Bool,z9.F a0,z7.enc⟩
 |_=>none
def z10.j1 (a0:Int):Option (Bool):=
 (bif (decide ((Int.tmod a0 400)=0)) then (some true) else (bif (decide ((Int.tmod a0 4)=0)) then (some (!decide ((Int.tmod a0 100)=0))) else (some false)))
def z10.F (a0:Int):Option (Bool):=
 (bif (decide (a0<1)) then (some false) else (bif (decide (a0>9999)) then (some false) else (z10.j1 a0)))
def z10.enc (r:Bool):V:=(.bool r)
def z10.pack:List V->Option Pack
 |[(.int .i64 a0)]=>some ⟨Bool,z10.F a0,z10.enc⟩
 |_=>none
def z11.j1 (a1 a0:Int):Option (Int):=
 (bif (decide (a1=2)) then ((z10.F a0).bind λr2=>(bif r2 then (some 29) else (some 28))) else (bif (decide (a1=4)) then (some 30) else (bif (decide (a1=6)) then (some 30) else (bif (decide (a1=9)) then (some 30) else (bif (decide (a1=11)) then (some 30) else (some 31))))))
def z11.F (a0 a1:Int):Option (Int):=
 (bif (decide (a0<1)) then (some 0) else (bif (decide (a0>9999)) then (some 0) else (bif (decide (a1<1)) then (some 0) else (bif (decide (a1>12)) then (some 0) else (z11.j1 a1 a0)))))
def z11.enc (r:Int):V:=(.int .i64 r)
def z11.pack:List V->Option Pack
 |[(.int .i64 a0),(.int .i64 a1)]=>some ⟨Int,z11.F a0 a1,z11.enc⟩
 |_=>none
def z12.j7 (a0 a3 j5 j7:Int):Option (Int×Int×Int):=
 (some ((wr .i64 ((wr .i64 ((Int.tmod a0 a3)+a3))+1)),(wr .i64 (j5+1)),(wr .i64 (j7+1))))
def z12.j5 (a0 a3 j5 a2:Int):Option (Int×Int×Int):=
 ((z11.F (wr .i64 ((wr .i64 ((Int.tmod a0 a3)+a3))+1)) (wr .i64 (j5+1))).bind λr6=>(if r6=0 then none else (bif (decide ((Int.tmod a2 r6)<0)) then (z12.j7 a0 a3 j5 (wr .i64 ((Int.tmod a2 r6)+r6))) else (z12.j7 a0 a3 j5 (Int.tmod a2 r6)))))
def z12.j8 (a0 a3 j8 a2:Int):Option (Int×Int×Int):=
 ((z11.F (wr .i64 ((Int.tmod a0 a3)+1)) (wr .i64 (j8+1))).bind λr9=>(if r9=0 then none else (bif (decide ((Int.tmod a2 r9)<0)) then (some ((wr .i64 ((Int.tmod a0 a3)+1)),(wr .i64 (j8+1)),(wr .i64 ((wr .i64 ((Int.tmod a2 r9)+r9))+1)))) else (some ((wr .i64 ((Int.tmod a0 a3)+1)),(wr .i64 (j8+1)),(wr .i64 ((Int.tmod a2 r9)+1)))))))
def z12.F (a0 a1 a2 a3:Int):Option (Int×Int×Int):=
 (if a3=0 then none else (bif (decide ((Int.tmod a0 a3)<0)) then (bif (decide ((Int.tmod a1 12)<0)) then (z12.j5 a0 a3 (wr .i64 ((Int.tmod a1 12)+12)) a2) else (z12.j5 a0 a3 (Int.tmod a1 12) a2)) else (bif (decide ((Int.tmod a1 12)<0)) then (z12.j8 a0 a3 (wr .i64 ((Int.tmod a1 12)+12)) a2) else (z12.j8 a0 a3 (Int.tmod a1 12) a2))))
def z12.enc (r:Int×Int×Int):V:=(.agg [(.int .i64 r.1),(.int .i64 r.2.1),(.int .i64 r.2.2)])
def z12.pack:List V->Option Pack
 |[(.agg [(.int .i64 a0),(.int .i64 a1),(.int .i64 a2)]),(.int .i64 a3)]=>some ⟨Int×Int×Int,z12.F a0 a1 a2 a3,z12.enc⟩
 |_=>none
def z13.F (a0:J0) (a1:Int):Option (Int):=
 (bif (decide (a1>=(((a0).length:Nat):Int))) then (some 0) else (if 0<=a1/\a1<(a0.length:Int) then (some (a0.getD (a1).toNat 0)) else none))
def z13.pack:List V->Option Pack
 |[(.ints _ .i64 a0),(.int .i64 a1)]=>some ⟨Int,z13.F a0 a1,z11.enc⟩
 |_=>none
def z14.l0b6P (a:J0) {R:Type} (rec:Int->Option R) (done:(Int)->Option R):Int->Option R:=λb=>(bif (decide (b>0)) then (if 0<=(wr .i64 (b-1))/\(wr .i64 (b-1))<(a.length:Int) then (bif (decide ((a.getD ((wr .i64 (b-1))).toNat 0)=0)) then (rec (wr .i64 (b-1))) else (done b)) else none) else (done b))
def z14.l0b6 (a:J0) (x:Int):Option ((Int)):=lfp (λrec x=>z14.l0b6P a rec some x) x
def z14.F (a0:J0):Option (J0):=
 ((z14.l0b6 a0 (((a0).length:Nat):Int)).bind λo1=>(if 0<=o1/\o1<=(a0.length:Int) then (some (a0.take (o1).toNat)) else none))
def z14.pack:List V->Option Pack
 |[(.ints _ .i64 a0)]=>some ⟨J0,z14.F a0,z8.enc⟩
 |_=>none
def z15.l2aaP (a b:J0) (c:Int) {R:Type} (rec done:(Int×Int×J0)->Option R):(Int×Int×J0)->Option R:=λx=>match x with
 |(d,e,g)=>(bif (decide (e<(((b).length:Nat):Int))) then ((z13.F b e).bind λh=>(if 0<=(wr .i64 (c+e))/\(wr .i64 (c+e))<(g.length:Int) then (if ((wr .i64 (c+e))).toNat<g.length then (if 0<=c/\c<(a.length:Int) then (if 0<=(wr .i64 (c+e))/\(wr .i64 (c+e))<(g.length:Int) then (if ((wr .i64 (c+e))).toNat<g.length then (rec ((wr .i64 (Int.tdiv (wr .i64 ((wr .i64 ((g.getD ((wr .i64 (c+e))).toNat 0)+(wr .i64 ((a.getD (c).toNat 0)*h))))+d)) 10000)),(wr .i64 (e+1)),(g.set ((wr .i64 (c+e))).toNat (Int.tmod (wr .i64 ((wr .i64 ((g.getD ((wr .i64 (c+e))).toNat 0)+(wr .i64 ((a.getD (c).toNat 0)*h))))+d)) 10000)))) else none) else none) else none) else none) else none)) else (bif (decide (d>0)) then ((z13.F b e).bind λj=>(if 0<=(wr .i64 (c+e))/\(wr .i64 (c+e))<(g.length:Int) then (if ((wr .i64 (c+e))).toNat<g.length then (if 0<=c/\c<(a.length:Int) then (if 0<=(wr .i64 (c+e))/\(wr .i64 (c+e))<(g.length:Int) then (if ((wr .i64 (c+e))).toNat<g.length then (rec ((wr .i64 (Int.tdiv (wr .i64 ((wr .i64 ((g.getD ((wr .i64 (c+e))).toNat 0)+(wr .i64 ((a.getD (c).toNat 0)*j))))+d)) 10000)),(wr .i64 (e+1)),(g.set ((wr .i64 (c+e))).toNat (Int.tmod (wr .i64 ((wr .i64 ((g.getD ((wr .i64 (c+e))).toNat 0)+(wr .i64 ((a.getD (c).toNat 0)*j))))+d)) 10000)))) else none) else none) else none) else none) else none)) else (done (d,e,g))))
def z15.l2aa (a b:J0) (c:Int) (x:(Int×Int×J0)):Option ((Int×Int×J0)):=lfp (λrec x=>z15.l2aaP a b c rec some x) x
def z15.l0P (a b:J0) {R:Type} (rec done:(Int×J0)->Option R):(Int×J0)->Option R:=λx=>match x with
 |(c,d)=>(bif (decide (c<(((a).length:Nat):Int))) then ((z15.l2aa a b c ((0:Int),(0:Int),d)).bind λe=>(rec ((wr .i64 (c+1)),e.2.2))) else (done (c,d)))
def z15.l0 (a b:J0) (x:(Int×J0)):Option ((Int×J0)):=lfp (λrec x=>z15.l0P a b rec some x) x
def z15.F (a0 a1:J0):Option (J0):=
 (if 0<=(wr .i64 ((wr .i64 ((((a0).length:Nat):Int)+(((a1).length:Nat):Int)))+1))/\(wr .i64 ((wr .i64 ((((a0).length:Nat):Int)+(((a1).length:Nat):Int)))+1))*8<=140737488355328 then ((z15.l0 a0 a1 ((0:Int),(List.replicate ((wr .i64 ((wr .i64 ((((a0).length:Nat):Int)+(((a1).length:Nat):Int)))+1))).toNat (0:Int)))).bind λo1=>((z14.F o1.2).bind λr2=>(some r2))) else none)
def z15.pack:List V->Option Pack
 |[(.ints _ .i64 a0),(.ints _ .i64 a1)]=>some ⟨J0,z15.F a0 a1,z8.enc⟩
 |_=>none
def z16.F (a0:J0) (a1:Bool) (a2:J0) (a3:Bool):Option (J0×Bool):=
 ((z15.F a0 a2).bind λr1=>((z7.F r1 (!decide (a1=a3))).bind λr2=>(some (r2.1,r2.2))))
def z16.pack:List V->Option Pack
 |[(.agg [(.ints _ .i64 a0),(.bool a1)]),(.agg [(.ints _ .i64 a2),(.bool a3)])]=>some ⟨J0×Bool,z16.F a0 a1 a2 a3,z7.enc⟩
 |_=>none
def z17.l0P (a:Int) {R:Type} (rec done:(J1)->Option R):(J1)->Option R:=λb=>(bif (decide ((b.length:Int)<=a)) then (if ([48]:J1).length+b.length<=9223372036854775807 then (rec (([48]:J1)++b)) else none) else (done b))
def z17.l0 (a:Int) (x:(J1)):Option ((J1)):=lfp (λrec x=>z17.l0P a rec some x) x
def z17.j3 (a1:Bool) (j3:J1):Option (J1):=
 (bif a1 then (if ([45]:J1).length+j3.length<=9223372036854775807 then (some (([45]:J1)++j3)) else none) else (some j3))
def z17.F (a0:J0) (a1:Bool) (a2:Int):Option (J1):=
 ((z5.F a0).bind λr1=>((z17.l0 a2 r1).bind λo2=>(bif (decide (a2>0)) then (if 0<=(wr .i64 ((o2.length:Int)-a2))/\(wr .i64 ((o2.length:Int)-a2))<=((o2).length:Int) then (if (o2.take ((wr .i64 ((o2.length:Int)-a2))).toNat).length+([46]:J1).length<=9223372036854775807 then (if 0<=(wr .i64 ((o2.length:Int)-a2))/\(wr .i64 ((o2.length:Int)-a2))<=((o2).length:Int) then (if ((o2.take ((wr .i64 ((o2.length:Int)-a2))).toNat)++([46]:J1)).length+(o2.drop ((wr .i64 ((o2.length:Int)-a2))).toNat).length<=9223372036854775807 then (z17.j3 a1 (((o2.take ((wr .i64 ((o2.length:Int)-a2))).toNat)++([46]:J1))++(o2.drop ((wr .i64 ((o2.length:Int)-a2))).toNat))) else none) else none) else none) else none) else (z17.j3 a1 o2))))
def z17.pack:List V->Option Pack
 |[(.agg [(.ints _ .i64 a0),(.bool a1),(.int .i64 a2)])]=>some ⟨J1,z17.F a0 a1 a2,z5.enc⟩
 |_=>none
def z18.F (a0 a1 a2 a3 a4 a5 a6 a7 a8 a9 a10 a11 a12:Int):Option (J1×J1×Int×Int×Int×Int×Int×Int×Int×Int):=
 (if 0<=(Int.tmod (wr .i64 a8) 7)/\(Int.tmod (wr .i64 a8) 7)<([(1:Int),(1:Int),(2:Int),(3:Int),(4:Int),(6:Int),(12:Int)].length:Int) then (if a12=0 then none else ((z12.F a9 a10 a11 9000).bind λr1=>((z9.F (wr .i64 ((wr .i64 (Int.fdiv a0 (2^(min 2 (64:Nat)))))+1))).bind λr2=>(bif (decide (a1>60000)) then ((z9.F 100000000000).bind λr3=>((z9.F (wr .i64 ((wr .i64 (Int.fdiv a0 (2^(min 4 (64:Nat)))))+1))).bind λr4=>((z16.F r4.1 r4.2 r3.1 r3.2).bind λr5=>((z6.F r5.1 r5.2).bind λr6=>((z9.F (Int.tmod (wr .i64 a2) 100000)).bind λr7=>((z17.F r7.1 r7.2 (wr .i64 ((Int.tmod (wr .i64 a3) 7)+2))).bind λr8=>(some (r6,r8,(Int.tmod (wr .i64 a4) 3),(Int.tmod (wr .i64 a5) 3),(Int.tmod (wr .i64 a6) 5),r1.1,r1.2.1,r1.2.2,([(1:Int),(1:Int),(2:Int),(3:Int),(4:Int),(6:Int),(12:Int)].getD ((Int.tmod (wr .i64 a8) 7)).toNat 0),(wr .i64 ((1:Int)+(Int.tmod (wr .i64 a7) a12))))))))))) else ((z6.F r2.1 r2.2).bind λr9=>((z9.F (Int.tmod (wr .i64 a2) 100000)).bind λr10=>((z17.F r10.1 r10.2 (wr .i64 ((Int.tmod (wr .i64 a3) 7)+2))).bind λr11=>(some (r9,r11,(Int.tmod (wr .i64 a4) 3),(Int.tmod (wr .i64 a5) 3),(Int.tmod (wr .i64 a6) 5),r1.1,r1.2.1,r1.2.2,([(1:Int),(1:Int),(2:Int),(3:Int),(4:Int),(6:Int),(12:Int)].getD ((Int.tmod (wr .i64 a8) 7)).toNat 0),(wr .i64 ((1:Int)+(Int.tmod (wr .i64 a7) a12)))))))))))) else none)
def z18.enc (r:J1×J1×Int×Int×Int×Int×Int×Int×Int×Int):V:=(.agg [(.str r.1),(.str r.2.1),(.int .i64 r.2.2.1),(.int .i64 r.2.2.2.1),(.int .i64 r.2.2.2.2.1),(.int .i64 r.2.2.2.2.2.1),(.int .i64 r.2.2.2.2.2.2.1),(.int .i64 r.2.2.2.2.2.2.2.1),(.int .i64 r.2.2.2.2.2.2.2.2.1),(.int .i64 r.2.2.2.2.2.2.2.2.2)])
def z18.pack:List V->Option Pack
 |[(.agg [(.int .u64 a0),(.int .u16 a1),(.int .u32 a2),(.int .u8 a3),(.int .u8 a4),(.int .u8 a5),(.int .u8 a6),(.int .u8 a7),(.int .u8 a8),(.int .i64 a9),(.int .i64 a10),(.int .i64 a11)]),(.int .i64 a12)]=>some ⟨J1×J1×Int×Int×Int×Int×Int×Int×Int×Int,z18.F a0 a1 a2 a3 a4 a5 a6 a7 a8 a9 a10 a11 a12,z18.enc⟩
 |_=>none
def z19.F (a0:J0):Option (Bool):=
 (some (decide ((((a0).length:Nat):Int)=0)))
def z19.pack:List V->Option Pack
 |[(.agg [(.ints _ .u64 a0)])]=>some ⟨Bool,z19.F a0,z10.enc⟩
 |_=>none
def z20.F (a0:J0) (a1:Bool):Option (Int):=
 ((z19.F a0).bind λr1=>(bif r1 then (some 0) else (bif a1 then (some (-1:Int)) else (some 1))))
def z20.pack:List V->Option Pack
 |[(.agg [(.ints _ .u64 a0),(.bool a1)])]=>some ⟨Int,z20.F a0 a1,z11.enc⟩
 |_=>none
def z21.F (a0:J0) (a1:Bool):Option (J0×Bool):=
 (bif a1 then ((z19.F a0).bind λr1=>(some (a0,(!r1)))) else (some (a0,false)))
def z21.enc (r:J0×Bool):V:=(.agg [(.ints false .u64 r.1),(.bool r.2)])
def z21.pack:List V->Option Pack
 |[(.agg [(.ints _ .u64 a0)]),(.bool a1)]=>some ⟨J0×Bool,z21.F a0 a1,z21.enc⟩
 |_=>none
def z22.F (a0:J0) (a1:Int):Option (Int):=
 (bif (decide (a1>=(((a0).length:Nat):Int))) then (some 0) else (if 0<=a1/\a1<(a0.length:Int) then (some (a0.getD (a1).toNat 0)) else none))
def z22.enc (r:Int):V:=(.int .u64 r)
def z22.pack:List V->Option Pack
 |[(.agg [(.ints _ .u64 a0)]),(.int .i64 a1)]=>some ⟨Int,z22.F a0 a1,z22.enc⟩
 |_=>none
def z23.l0b6P (a:J0) {R:Type} (rec:Int->Option R) (done:(Int)->Option R):Int->Option R:=λb=>(bif (decide (b>0)) then (if 0<=(wr .i64 (b-1))/\(wr .i64 (b-1))<(a.length:Int) then (bif (decide ((a.getD ((wr .i64 (b-1))).toNat 0)=0)) then (rec (wr .i64 (b-1))) else (done b)) else none) else (done b))
def z23.l0b6 (a:J0) (x:Int):Option ((Int)):=lfp (λrec x=>z23.l0b6P a rec some x) x
def z23.F (a0:J0):Option (J0):=
 ((z23.l0b6 a0 (((a0).length:Nat):Int)).bind λo1=>(if 0<=o1/\o1<=o1/\o1<=(a0.length:Int) then (some (a0.take (o1).toNat)) else none))
def z23.enc (r:J0):V:=(.agg [(.ints false .u64 r)])
def z23.pack:List V->Option Pack
 |[(.ints _ .u64 a0)]=>some ⟨J0,z23.F a0,z23.enc⟩
 |_=>none
def z24.l0P (a:Int) (b c:J0) {R:Type} (rec done:(Int×Int×J0)->Option R):(Int×Int×J0)->Option R:=λx=>match x with
 |(d,e,g)=>(bif (decide (e<a)) then ((z22.F b e).bind λh=>((z22.F c e).bind λj=>((z0.F h j d).bind λk=>(if 0<=e/\e<(g.length:Int) then (if (e).toNat<g.length then (rec (k.2,(wr .i64 (e+1)),(g.set (e).toNat k.1))) else none) else none)))) else (done (d,e,g)))
def z24.l0 (a:Int) (b c:J0) (x:(Int×Int×J0)):Option ((Int×Int×J0)):=lfp (λrec x=>z24.l0P a b c rec some x) x
def z24.F (a0 a1:J0):Option (J0):=
 (if 0<=(wr .i64 ((if (((a1).length:Nat):Int)>(((a0).length:Nat):Int) then (((a1).length:Nat):Int) else (((a0).length:Nat):Int))+1))/\(wr .i64 ((if (((a1).length:Nat):Int)>(((a0).length:Nat):Int) then (((a1).length:Nat):Int) else (((a0).length:Nat):Int))+1))*8<=140737488355328 then ((z24.l0 ((((List.replicate ((wr .i64 ((if (((a1).length:Nat):Int)>(((a0).length:Nat):Int) then (((a1).length:Nat):Int) else (((a0).length:Nat):Int))+1))).toNat (0:Int))).length:Nat):Int) a0 a1 ((0:Int),(0:Int),(List.replicate ((wr .i64 ((if (((a1).length:Nat):Int)>(((a0).length:Nat):Int) then (((a1).length:Nat):Int) else (((a0).length:Nat):Int))+1))).toNat (0:Int)))).bind λo1=>((z23.F o1.2.2).bind λr2=>(some r2))) else none)
def z24.pack:List V->Option Pack
 |[(.agg [(.ints _ .u64 a0)]),(.agg [(.ints _ .u64 a1)])]=>some ⟨J0,z24.F a0 a1,z23.enc⟩
 |_=>none
def z25.F (a0:Int):Option (Bool):=
 (some (!decide (a0=a0)))
def z25.pack:List V->Option Pack
 |[(.int .i64 a0)]=>some ⟨Bool,z25.F a0,z10.enc⟩
 |_=>none
def z26.F (a0 a1:Int):Option (Int):=
 ((z25.F a0).bind λr1=>((z25.F a1).bind λr2=>(bif r1 then (bif r2 then (some 0) else (some (-1:Int))) else (bif r2 then (some 1) else (bif (decide (a0<a1)) then (some (-1:Int)) else (bif (decide (a0>a1)) then (some 1) else (some 0)))))))
def z26.pack:List V->Option Pack
 |[(.int .i64 a0),(.int .i64 a1)]=>some ⟨Int,z26.F a0 a1,z11.enc⟩
 |_=>none
def z27.F (a0:Int):Option (Bool):=
 (some (!decide (a0=a0)))
def z27.pack:List V->Option Pack
 |[(.int .u64 a0)]=>some ⟨Bool,z27.F a0,z10.enc⟩
 |_=>none
def z28.F (a0 a1:Int):Option (Int):=
 ((z27.F a0).bind λr1=>((z27.F a1).bind λr2=>(bif r1 then (bif r2 then (some 0) else (some (-1:Int))) else (bif r2 then (some 1) else (bif (decide (a0<a1)) then (some (-1:Int)) else (bif (decide (a0>a1)) then (some 1) else (some 0)))))))
def z28.pack:List V->Option Pack
 |[(.int .u64 a0),(.int .u64 a1)]=>some ⟨Int,z28.F a0 a1,z11.enc⟩
 |_=>none
def z29.l0P (a b:J0) {R:Type} (rec:Int->Option R) (done:((Int)⊕(Int))->Option R):Int->Option R:=λc=>(bif (decide (c>=0)) then (if 0<=c/\c<(a.length:Int) then (if 0<=c/\c<(b.length:Int) then ((z28.F (a.getD (c).toNat 0) (b.getD (c).toNat 0)).bind λd=>(bif (!decide (d=0)) then (done (.inr d)) else (rec (wr .i64 (c-1))))) else none) else none) else (done (.inl c)))
def z29.l0 (a b:J0) (x:Int):Option (((Int)⊕(Int))):=lfp (λrec x=>z29.l0P a b rec some x) x
def z29.F (a0 a1:J0):Option (Int):=
 ((z26.F (((a0).length:Nat):Int) (((a1).length:Nat):Int)).bind λr1=>(bif (!decide (r1=0)) then (some r1) else ((z29.l0 a0 a1 (wr .i64 ((((a0).length:Nat):Int)-1))).bind λo2=>match o2 with | .inl p3=>(some 0) | .inr q4=>(some q4))))
def z29.pack:List V->Option Pack
 |[(.agg [(.ints _ .u64 a0)]),(.agg [(.ints _ .u64 a1)])]=>some ⟨Int,z29.F a0 a1,z11.enc⟩
 |_=>none
def z30.l0P (a:Int) (b c:J0) {R:Type} (rec done:(Int×Int×J0)->Option R):(Int×Int×J0)->Option R:=λx=>match x with
 |(d,e,g)=>(bif (decide (e<a)) then (if 0<=e/\e<(b.length:Int) then ((z22.F c e).bind λh=>((z1.F (b.getD (e).toNat 0) h d).bind λj=>(if 0<=e/\e<(g.length:Int) then (if (e).toNat<g.length then (rec (j.2,(wr .i64 (e+1)),(g.set (e).toNat j.1))) else none) else none))) else none) else (done (d,e,g)))
def z30.l0 (a:Int) (b c:J0) (x:(Int×Int×J0)):Option ((Int×Int×J0)):=lfp (λrec x=>z30.l0P a b c rec some x) x
def z30.F (a0 a1:J0):Option (J0×Bool):=
 ((z29.F a0 a1).bind λr1=>(bif (decide (r1<0)) then (some ([],false)) else (if 0<=(((a0).length:Nat):Int)/\(((a0).length:Nat):Int)*8<=140737488355328 then ((z30.l0 ((((List.replicate ((((a0).length:Nat):Int)).toNat (0:Int))).length:Nat):Int) a0 a1 ((0:Int),(0:Int),(List.replicate ((((a0).length:Nat):Int)).toNat (0:Int)))).bind λo2=>((z23.F o2.2.2).bind λr3=>(some (r3,true)))) else none)))
def z30.enc (r:J0×Bool):V:=(.tup [(.agg [(.ints false .u64 r.1)]),(.bool r.2)])
def z30.pack:List V->Option Pack
 |[(.agg [(.ints _ .u64 a0)]),(.agg [(.ints _ .u64 a1)])]=>some ⟨J0×Bool,z30.F a0 a1,z30.enc⟩
 |_=>none
def z31.F (a0:J0) (a1:Bool) (a2:J0) (a3:Bool):Option (J0×Bool):=
 (bif (decide (a1=a3)) then ((z24.F a0 a2).bind λr1=>((z21.F r1 a1).bind λr2=>(some (r2.1,r2.2)))) else ((z30.F a0 a2).bind λr3=>(bif r3.2 then ((z21.F r3.1 a1).bind λr4=>(some (r4.1,r4.2))) else ((z30.F a2 a0).bind λr5=>((z21.F r5.1 a3).bind λr6=>(some (r6.1,r6.2)))))))
def z31.pack:List V->Option Pack
 |[(.agg [(.ints _ .u64 a0),(.bool a1)]),(.agg [(.ints _ .u64 a2),(.bool a3)])]=>some ⟨J0×Bool,z31.F a0 a1 a2 a3,z21.enc⟩
 |_=>none
def z32.F (a0:J0) (a1:Bool):Option (J0×Bool):=
 ((z21.F a0 (!a1)).bind λr1=>(some (r1.1,r1.2)))
def z32.pack:List V->Option Pack
 |[(.agg [(.ints _ .u64 a0),(.bool a1)])]=>some ⟨J0×Bool,z32.F a0 a1,z21.enc⟩
 |_=>none
def z33.F (a0:J0) (a1:Bool) (a2:J0) (a3:Bool):Option (J0×Bool):=
 ((z32.F a2 a3).bind λr1=>((z31.F a0 a1 r1.1 r1.2).bind λr2=>(some (r2.1,r2.2))))
def z33.pack:List V->Option Pack
 |[(.agg [(.ints _ .u64 a0),(.bool a1)]),(.agg [(.ints _ .u64 a2),(.bool a3)])]=>some ⟨J0×Bool,z33.F a0 a1 a2 a3,z21.enc⟩
 |_=>none
def z34.F (a0:J0) (a1:Bool) (a2:J0) (a3:Bool):Option (Int):=
 ((z33.F a0 a1 a2 a3).bind λr1=>((z20.F r1.1 r1.2).bind λr2=>(some r2)))
def z34.pack:List V->Option Pack
 |[(.agg [(.ints _ .u64 a0),(.bool a1)]),(.agg [(.ints _ .u64 a2),(.bool a3)])]=>some ⟨Int,z34.F a0 a1 a2 a3,z11.enc⟩
 |_=>none
def z35.F (a0 a1:J1):Option (Bool):=
 (bif (decide ((a0.length:Int)>=(a1.length:Int))) then (if 0<=(a1.length:Int)/\(a1.length:Int)<=((a0).length:Int) then (some (decide ((a0.take ((a1.length:Int)).toNat)=a1))) else none) else (some false))
def z35.pack:List V->Option Pack
 |[(.str a0),(.str a1)]=>some ⟨Bool,z35.F a0 a1,z10.enc⟩
 |_=>none
def z36.F (a0 a1:J1):Option (J1×Bool):=
 ((z35.F a0 a1).bind λr1=>(bif (!r1) then (some (a0,false)) else (if 0<=(a1.length:Int)/\(a1.length:Int)<=((a0).length:Int) then (some ((a0.drop ((a1.length:Int)).toNat),true)) else none)))
def z36.enc (r:J1×Bool):V:=(.tup [(.str r.1),(.bool r.2)])
def z36.pack:List V->Option Pack
 |[(.str a0),(.str a1)]=>some ⟨J1×Bool,z36.F a0 a1,z36.enc⟩
 |_=>none
def z37.F (a0 a1:J1):Option (J1×Bool):=
 ((z36.F a0 a1).bind λr1=>(some (r1.1,r1.2)))
def z37.pack:List V->Option Pack
 |[(.str a0),(.str a1)]=>some ⟨J1×Bool,z37.F a0 a1,z36.enc⟩
 |_=>none
def z38.F (a0:J0):Option (J0):=
 (if (a0).length*8<=140737488355328 then ((z23.F a0).bind λr1=>(some r1)) else none)
def z38.pack:List V->Option Pack
 |[(.ints _ .u64 a0)]=>some ⟨J0,z38.F a0,z23.enc⟩
 |_=>none
def z39.F (a0 a1:Int):Option (Int×Int):=
 (some ((wr .u64 ((wr .u64 ((wr .u64 ((Int.fdiv a0 (2^(min 32 (64:Nat))))*(Int.fdiv a1 (2^(min 32 (64:Nat))))))+(Int.fdiv (wr .u64 ((wr .u64 ((Int.fdiv a0 (2^(min 32 (64:Nat))))*(wr .u64 ((BitVec.ofInt (IntKind.bits .u64) a1 &&& BitVec.ofInt (IntKind.bits .u64) 4294967295).toNat:Int))))+(Int.fdiv (wr .u64 ((wr .u64 ((BitVec.ofInt (IntKind.bits .u64) a0 &&& BitVec.ofInt (IntKind.bits .u64) 4294967295).toNat:Int))*(wr .u64 ((BitVec.ofInt (IntKind.bits .u64) a1 &&& BitVec.ofInt (IntKind.bits .u64) 4294967295).toNat:Int)))) (2^(min 32 (64:Nat)))))) (2^(min 32 (64:Nat))))))+(Int.fdiv (wr .u64 ((wr .u64 ((BitVec.ofInt (IntKind.bits .u64) (wr .u64 ((wr .u64 ((Int.fdiv a0 (2^(min 32 (64:Nat))))*(wr .u64 ((BitVec.ofInt (IntKind.bits .u64) a1 &&& BitVec.ofInt (IntKind.bits .u64) 4294967295).toNat:Int))))+(Int.fdiv (wr .u64 ((wr .u64 ((BitVec.ofInt (IntKind.bits .u64) a0 &&& BitVec.ofInt (IntKind.bits .u64) 4294967295).toNat:Int))*(wr .u64 ((BitVec.ofInt (IntKind.bits .u64) a1 &&& BitVec.ofInt (IntKind.bits .u64) 4294967295).toNat:Int)))) (2^(min 32 (64:Nat)))))) &&& BitVec.ofInt (IntKind.bits .u64) 4294967295).toNat:Int))+(wr .u64 ((wr .u64 ((BitVec.ofInt (IntKind.bits .u64) a0 &&& BitVec.ofInt (IntKind.bits .u64) 4294967295).toNat:Int))*(Int.fdiv a1 (2^(min 32 (64:Nat)))))))) (2^(min 32 (64:Nat)))))),(wr .u64 (a0*a1))))
def z39.enc (r:Int×Int):V:=(.tup [(.int .u64 r.1),(.int .u64 r.2)])
def z39.pack:List V->Option Pack
 |[(.int .u64 a0),(.int .u64 a1)]=>some ⟨Int×Int,z39.F a0 a1,z39.enc⟩
 |_=>none
def z40.l0aP (a:Int) (b c:Nat) (d:J0) (e:Int) {R:Type} (rec done:(Int×Int×J0)->Option R):(Int×Int×J0)->Option R:=λx=>match x with
 |(g,h,j)=>(bif (decide (h<e)) then (if 0<=h/\h<(d.length:Int) then ((z39.F a (d.getD (h).toNat 0)).bind λk=>((z0.F k.2 g 0).bind λm=>(if 0<=h/\h<((c:Nat):Int) then (if (b+(h).toNat)<j.length then ((z0.F (j.getD (b+(h).toNat) 0) m.1 0).bind λn=>(if 0<=h/\h<((c:Nat):Int) then (if (b+(h).toNat)<j.length then (rec ((wr .u64 ((wr .u64 (k.1+m.2))+n.2)),(wr .i64 (h+1)),(j.set (b+(h).toNat) n.1))) else none) else none)) else none) else none))) else none) else (done (g,h,j)))
def z40.l0a (a:Int) (b c:Nat) (d:J0) (e:Int) (x:(Int×Int×J0)):Option ((Int×Int×J0)):=lfp (λrec x=>z40.l0aP a b c d e rec some x) x
def z40.l0P (a:J0) (b:Int) (c:J0) {R:Type} (rec done:(Int×J0)->Option R):(Int×J0)->Option R:=λx=>match x with
 |(d,e)=>(bif (decide (d<b)) then (if 0<=d/\d<(a.length:Int) then (if 0<=d/\d<=((e).length:Int) then ((z40.l0a (a.getD (d).toNat 0) (d).toNat ((e).length-(d).toNat) c (((c).length:Nat):Int) ((0:Int),(0:Int),e)).bind λg=>(if 0<=(((c).length:Nat):Int)/\(((c).length:Nat):Int)<((((e).length-(d).toNat):Nat):Int) then (if ((d).toNat+((((c).length:Nat):Int)).toNat)<g.2.2.length then (if 0<=(((c).length:Nat):Int)/\(((c).length:Nat):Int)<((((e).length-(d).toNat):Nat):Int) then (if ((d).toNat+((((c).length:Nat):Int)).toNat)<g.2.2.length then (rec ((wr .i64 (d+1)),(g.2.2.set ((d).toNat+((((c).length:Nat):Int)).toNat) (wr .u64 ((g.2.2.getD ((d).toNat+((((c).length:Nat):Int)).toNat) 0)+g.1))))) else none) else none) else none) else none)) else none) else none) else (done (d,e)))
def z40.l0 (a:J0) (b:Int) (c:J0) (x:(Int×J0)):Option ((Int×J0)):=lfp (λrec x=>z40.l0P a b c rec some x) x
def z40.F (a0 a1:J0):Option (J0):=
 (if 0<=(wr .i64 ((wr .i64 ((((a0).length:Nat):Int)+(((a1).length:Nat):Int)))+1))/\(wr .i64 ((wr .i64 ((((a0).length:Nat):Int)+(((a1).length:Nat):Int)))+1))*8<=140737488355328 then ((z40.l0 a1 (((a1).length:Nat):Int) a0 ((0:Int),(List.replicate ((wr .i64 ((wr .i64 ((((a0).length:Nat):Int)+(((a1).length:Nat):Int)))+1))).toNat (0:Int)))).bind λo1=>((z23.F o1.2).bind λr2=>(some r2))) else none)
def z40.pack:List V->Option Pack
 |[(.agg [(.ints _ .u64 a0)]),(.agg [(.ints _ .u64 a1)])]=>some ⟨J0,z40.F a0 a1,z23.enc⟩
 |_=>none
def z41.l2P (a:J1) {R:Type} (rec done:(Int×Nat)->Option R):(Int×Nat)->Option R:=λx=>match x with
 |(b,c)=>(if c<a.length then (rec ((wr .u64 ((wr .u64 ((10:Int)*b))+(wr .u64 (wr .i32 (((Utf8.decode ⟨a.toArray⟩ c).1:Int)-48))))),(c+(Utf8.decode ⟨a.toArray⟩ c).2))) else (done (b,c)))
def z41.l2 (a:J1) (x:(Int×Nat)):Option ((Int×Nat)):=lfp (λrec x=>z41.l2P a rec some x) x
def z41.l2aP (a:J1) {R:Type} (rec done:(Int×Nat)->Option R):(Int×Nat)->Option R:=λx=>match x with
 |(b,c)=>(if c<a.length then (rec ((wr .u64 ((wr .u64 ((10:Int)*b))+(wr .u64 (wr .i32 (((Utf8.decode ⟨a.toArray⟩ c).1:Int)-48))))),(c+(Utf8.decode ⟨a.toArray⟩ c).2))) else (done (b,c)))
def z41.l2a (a:J1) (x:(Int×Nat)):Option ((Int×Nat)):=lfp (λrec x=>z41.l2aP a rec some x) x
def z41.j5011a {R:Type} (rec done:(J1×Bool×J0)->Option R) (a:Int) (b:J1) (c:J0):Option R:=
 (if 0<=a/\a<=((b).length:Int) then ((z41.l2a (b.take (a).toNat) ((0:Int),0)).bind λd=>((z38.F [(1000000000000000000:Int)]).bind λe=>((z40.F c e).bind λg=>((z38.F [d.1]).bind λh=>((z24.F g h).bind λj=>(if 0<=a/\a<=((b).length:Int) then (rec ((b.drop (a).toNat),false,j)) else none)))))) else none)
def z41.l0aaP {R:Type} (rec done:(J1×Bool×J0)->Option R):(J1×Bool×J0)->Option R:=λx=>match x with
 |(a,b,c)=>(bif (!decide (a=([]:J1))) then (bif (!b) then (if (0:Int)<=(18:Int)/\(18:Int)<=((a).length:Int) then ((z41.l2 (a.take 18) ((0:Int),0)).bind λd=>((z38.F [(1000000000000000000:Int)]).bind λe=>((z40.F c e).bind λg=>((z38.F [d.1]).bind λh=>((z24.F g h).bind λj=>(if (0:Int)<=(18:Int)/\(18:Int)<=((a).length:Int) then (rec ((a.drop 18),false,j)) else none)))))) else none) else (bif (decide ((Int.tmod (a.length:Int) 18)=0)) then (z41.j5011a rec done 18 a c) else (z41.j5011a rec done (Int.tmod (a.length:Int) 18) a c))) else (done (a,b,c)))
def z41.l0aa (x:(J1×Bool×J0)):Option ((J1×Bool×J0)):=lfp (λrec x=>z41.l0aaP rec some x) x
def z41.F (a0:J1):Option (J0×Int):=
 (bif (decide ((a0.length:Int)>4096)) then (some ([],(7:Int))) else (bif (decide (a0=([]:J1))) then (some ([],(5:Int))) else ((z3.F a0 ([48,49,50,51,52,53,54,55,56,57]:J1)).bind λr1=>(bif (!decide (r1=([]:J1))) then (some ([],(5:Int))) else (bif (decide ((a0.length:Int)>1)) then (if (0:Int)<=(0:Int)/\(0:Int)<(a0.length:Int) then (bif (decide (((a0.getD 0 0).toNat:Int)=48)) then (some ([],(5:Int))) else ((z41.l0aa (a0,true,[])).bind λo5=>(some (o5.2.2,(0:Int))))) else none) else ((z41.l0aa (a0,true,[])).bind λo6=>(some (o6.2.2,(0:Int)))))))))
def z41.enc (r:J0×Int):V:=(.tup [(.agg [(.ints false .u64 r.1)]),(.int .i64 r.2)])
def z41.pack:List V->Option Pack
 |[(.str a0)]=>some ⟨J0×Int,z41.F a0,z41.enc⟩
 |_=>none
def z42.F (a0:J1):Option (J0×Bool×Int):=
 ((z37.F a0 ([45]:J1)).bind λr1=>((z41.F r1.1).bind λr2=>(bif (!decide (r2.2=0)) then (some ([],false,r2.2)) else (bif r1.2 then ((z19.F r2.1).bind λr3=>(bif r3 then (some ([],false,(5:Int))) else ((z21.F r2.1 r1.2).bind λr7=>(some (r7.1,r7.2,(0:Int)))))) else ((z21.F r2.1 r1.2).bind λr8=>(some (r8.1,r8.2,(0:Int))))))))
def z42.enc (r:J0×Bool×Int):V:=(.tup [(.agg [(.ints false .u64 r.1),(.bool r.2.1)]),(.int .i64 r.2.2)])
def z42.pack:List V->Option Pack
 |[(.str a0)]=>some ⟨J0×Bool×Int,z42.F a0,z42.enc⟩
 |_=>none
def z43.l0P {R:Type} (rec done:(Int×J0×J0)->Option R):(Int×J0×J0)->Option R:=λx=>match x with
 |(a,b,c)=>(bif (decide (a>0)) then (bif (decide ((wr .i64 ((BitVec.ofInt (IntKind.bits .i64) a &&& BitVec.ofInt (IntKind.bits .i64) 1).toNat:Int))=1)) then ((z40.F c b).bind λd=>(bif (decide (a>1)) then ((z40.F b b).bind λe=>(rec ((Int.fdiv a (2^(min 1 (64:Nat)))),e,d))) else (rec ((Int.fdiv a (2^(min 1 (64:Nat)))),b,d)))) else (bif (decide (a>1)) then ((z40.F b b).bind λg=>(rec ((Int.fdiv a (2^(min 1 (64:Nat)))),g,c))) else (rec ((Int.fdiv a (2^(min 1 (64:Nat)))),b,c)))) else (done (a,b,c)))
def z43.l0 (x:(Int×J0×J0)):Option ((Int×J0×J0)):=lfp (λrec x=>z43.l0P rec some x) x
def z43.F (a0:J0) (a1:Int):Option (J0):=
 ((z38.F [(1:Int)]).bind λr1=>((z43.l0 (a1,a0,r1)).bind λo2=>(some o2.2.2)))
def z43.pack:List V->Option Pack
 |[(.agg [(.ints _ .u64 a0)]),(.int .i64 a1)]=>some ⟨J0,z43.F a0 a1,z23.enc⟩
 |_=>none
def z44.F (a0:Int):Option (J0×Int):=
 (bif (decide (a0<0)) then (some ([],(2:Int))) else (bif (decide (a0>4096)) then (some ([],(6:Int))) else ((z38.F [(10:Int)]).bind λr1=>((z43.F r1 a0).bind λr2=>(some (r2,(0:Int)))))))
def z44.pack:List V->Option Pack
 |[(.int .i64 a0)]=>some ⟨J0×Int,z44.F a0,z41.enc⟩
 |_=>none
def z45.F:Option (J0×Bool):=
 ((z44.F 30).bind λr1=>((z21.F r1.1 false).bind λr2=>(some (r2.1,r2.2))))
def z45.pack:List V->Option Pack
 |[]=>some ⟨J0×Bool,z45.F,z21.enc⟩
 |_=>none
def z46.F (a0:J1):Option (J0×Bool×Int):=
 ((z42.F a0).bind λr1=>(bif (!decide (r1.2.2=0)) then (some ([],false,r1.2.2)) else ((z20.F r1.1 r1.2.1).bind λr2=>(bif (decide (r2<0)) then (some ([],false,(19:Int))) else (z45.F.bind λr3=>((z34.F r1.1 r1.2.1 r3.1 r3.2).bind λr4=>(bif (decide (r4>0)) then (some ([],false,(19:Int))) else (some (r1.1,r1.2.1,(0:Int))))))))))
def z46.pack:List V->Option Pack
 |[(.str a0)]=>some ⟨J0×Bool×Int,z46.F a0,z42.enc⟩
 |_=>none
def z47.F (a0:J0) (a1:Bool):Option (J0×Bool×J0):=
 (some (a0,a1,[]))
def z47.enc (r:J0×Bool×J0):V:=(.agg [(.ints false .u64 r.1),(.bool r.2.1),(.ints false .u64 r.2.2)])
def z47.pack:List V->Option Pack
 |[(.agg [(.ints _ .u64 a0),(.bool a1)])]=>some ⟨J0×Bool×J0,z47.F a0 a1,z47.enc⟩
 |_=>none
def z48.F (a0:Int):Option (J0×Bool):=
 (bif (decide (a0<0)) then ((z38.F [(wr .u64 (0-(wr .u64 a0)))]).bind λr1=>((z21.F r1 true).bind λr2=>(some (r2.1,r2.2)))) else ((z38.F [(wr .u64 a0)]).bind λr3=>((z21.F r3 false).bind λr4=>(some (r4.1,r4.2)))))
def z48.pack:List V->Option Pack
 |[(.int .i64 a0)]=>some ⟨J0×Bool,z48.F a0,z21.enc⟩
 |_=>none
def z49.F (a0:J1):Option (Bool):=
 (bif (!decide (a0=([]:J1))) then ((z3.F a0 ([48,49,50,51,52,53,54,55,56,57]:J1)).bind λr1=>(some (decide (r1=([]:J1))))) else (some false))
def z49.pack:List V->Option Pack
 |[(.str a0)]=>some ⟨Bool,z49.F a0,z10.enc⟩
 |_=>none
def z50.j8 (j8:J1) (r1:J1×Bool):Option (J0×Bool×Int×Int):=
 ((z41.F j8).bind λr9=>((z21.F r9.1 r1.2).bind λr10=>(some (r10.1,r10.2,((r1.1.drop 1).length:Int),(0:Int)))))
def z50.j6 (j6:Bool) (r1:J1×Bool):Option (J0×Bool×Int×Int):=
 (bif j6 then (some ([],false,(0:Int),(5:Int))) else (bif (decide (((r1.1.drop 1).length:Int)>64)) then (some ([],false,(0:Int),(10:Int))) else (if (r1.1.take 0).length+(r1.1.drop 1).length<=9223372036854775807 then ((z4.F ((r1.1.take 0)++(r1.1.drop 1)) ([48]:J1)).bind λr7=>(bif (decide (r7=([]:J1))) then (z50.j8 ([48]:J1) r1) else (z50.j8 r7 r1))) else none)))
def z50.j4 (j4:Bool) (r1:J1×Bool):Option (J0×Bool×Int×Int):=
 (bif j4 then (some ([],false,(0:Int),(5:Int))) else (bif r1.2 then (if (r1.1.take 0).length+(r1.1.drop 1).length<=9223372036854775807 then ((z3.F ((r1.1.take 0)++(r1.1.drop 1)) ([48]:J1)).bind λr5=>(z50.j6 (decide (r5=([]:J1))) r1)) else none) else (z50.j6 false r1)))
def z50.j18 (j18:J1) (r1:J1×Bool) (r11:Int):Option (J0×Bool×Int×Int):=
 ((z41.F j18).bind λr19=>((z21.F r19.1 r1.2).bind λr20=>(some (r20.1,r20.2,((r1.1.drop ((wr .i64 (r11+1))).toNat).length:Int),(0:Int)))))
def z50.j16 (j16:Bool) (r1:J1×Bool) (r11:Int):Option (J0×Bool×Int×Int):=
 (bif j16 then (some ([],false,(0:Int),(5:Int))) else (bif (decide (((r1.1.drop ((wr .i64 (r11+1))).toNat).length:Int)>64)) then (some ([],false,(0:Int),(10:Int))) else (if (r1.1.take (r11).toNat).length+(r1.1.drop ((wr .i64 (r11+1))).toNat).length<=9223372036854775807 then ((z4.F ((r1.1.take (r11).toNat)++(r1.1.drop ((wr .i64 (r11+1))).toNat)) ([48]:J1)).bind λr17=>(bif (decide (r17=([]:J1))) then (z50.j18 ([48]:J1) r1 r11) else (z50.j18 r17 r1 r11))) else none)))
def z50.j14 (j14:Bool) (r1:J1×Bool) (r11:Int):Option (J0×Bool×Int×Int):=
 (bif j14 then (some ([],false,(0:Int),(5:Int))) else (bif r1.2 then (if (r1.1.take (r11).toNat).length+(r1.1.drop ((wr .i64 (r11+1))).toNat).length<=9223372036854775807 then ((z3.F ((r1.1.take (r11).toNat)++(r1.1.drop ((wr .i64 (r11+1))).toNat)) ([48]:J1)).bind λr15=>(z50.j16 (decide (r15=([]:J1))) r1 r11)) else none) else (z50.j16 false r1 r11)))
def z50.j26 (j26:J1) (r1:J1×Bool):Option (J0×Bool×Int×Int):=
 ((z41.F j26).bind λr27=>((z21.F r27.1 r1.2).bind λr28=>(some (r28.1,r28.2,(0:Int),(0:Int)))))
def z50.j24 (r1:J1×Bool):Option (J0×Bool×Int×Int):=
 (if r1.1.length+([]:J1).length<=9223372036854775807 then ((z4.F (r1.1++([]:J1)) ([48]:J1)).bind λr25=>(bif (decide (r25=([]:J1))) then (z50.j26 ([48]:J1) r1) else (z50.j26 r25 r1))) else none)
def z50.j22 (j22:Bool) (r1:J1×Bool):Option (J0×Bool×Int×Int):=
 (bif j22 then (some ([],false,(0:Int),(5:Int))) else (bif r1.2 then (if r1.1.length+([]:J1).length<=9223372036854775807 then ((z3.F (r1.1++([]:J1)) ([48]:J1)).bind λr23=>(bif (decide (r23=([]:J1))) then (some ([],false,(0:Int),(5:Int))) else (z50.j24 r1))) else none) else (z50.j24 r1)))
def z50.F (a0:J1):Option (J0×Bool×Int×Int):=
 (bif (decide ((a0.length:Int)>4096)) then (some ([],false,(0:Int),(7:Int))) else ((z37.F a0 ([45]:J1)).bind λr1=>(bif (decide (([46]:J1)=r1.1)) then (if (0:Int)<=(0:Int)/\(0:Int)<=((r1.1).length:Int) then (if (0:Int)<=(1:Int)/\(1:Int)<=((r1.1).length:Int) then ((z49.F (r1.1.take 0)).bind λr2=>(bif (!r2) then (z50.j4 true r1) else ((z49.F (r1.1.drop 1)).bind λr3=>(bif (!r3) then (z50.j4 true r1) else (bif (decide (((r1.1.take 0).length:Int)>1)) then (if (0:Int)<=(0:Int)/\(0:Int)<((r1.1.take 0).length:Int) then (z50.j4 (decide ((((r1.1.take 0).getD 0 0).toNat:Int)=48)) r1) else none) else (z50.j4 false r1)))))) else none) else none) else (if (0:Int)<=(0:Int)/\(0:Int)<(([46]:J1).length:Int) then ((z2.F r1.1 ((([46]:J1).getD 0 0).toNat:Int)).bind λr11=>(bif (decide (r11>=0)) then (if 0<=r11/\r11<=((r1.1).length:Int) then (if 0<=(wr .i64 (r11+1))/\(wr .i64 (r11+1))<=((r1.1).length:Int) then ((z49.F (r1.1.take (r11).toNat)).bind λr12=>(bif (!r12) then (z50.j14 true r1 r11) else ((z49.F (r1.1.drop ((wr .i64 (r11+1))).toNat)).bind λr13=>(bif (!r13) then (z50.j14 true r1 r11) else (bif (decide (((r1.1.take (r11).toNat).length:Int)>1)) then (if (0:Int)<=(0:Int)/\(0:Int)<((r1.1.take (r11).toNat).length:Int) then (z50.j14 (decide ((((r1.1.take (r11).toNat).getD 0 0).toNat:Int)=48)) r1 r11) else none) else (z50.j14 false r1 r11)))))) else none) else none) else ((z49.F r1.1).bind λr21=>(bif (!r21) then (z50.j22 true r1) else (bif (decide ((r1.1.length:Int)>1)) then (if (0:Int)<=(0:Int)/\(0:Int)<(r1.1.length:Int) then (z50.j22 (decide (((r1.1.getD 0 0).toNat:Int)=48)) r1) else none) else (z50.j22 false r1)))))) else none))))
def z50.enc (r:J0×Bool×Int×Int):V:=(.tup [(.agg [(.ints false .u64 r.1),(.bool r.2.1),(.int .i64 r.2.2.1)]),(.int .i64 r.2.2.2)])
def z50.pack:List V->Option Pack
 |[(.str a0)]=>some ⟨J0×Bool×Int×Int,z50.F a0,z50.enc⟩
 |_=>none
def z51.F (a0:Int):Option (Bool):=
 (bif (decide (a0<0)) then (some true) else (some (decide (a0>64))))
def z51.pack:List V->Option Pack
 |[(.int .i64 a0)]=>some ⟨Bool,z51.F a0,z10.enc⟩
 |_=>none
def z52.F (a0:J0) (a1:Bool) (a2:Int):Option (J0×Bool×Int×Int):=
 ((z51.F a2).bind λr1=>(bif r1 then (some ([],false,(0:Int),(10:Int))) else (some (a0,a1,a2,(0:Int)))))
def z52.pack:List V->Option Pack
 |[(.agg [(.ints _ .u64 a0),(.bool a1)]),(.int .i64 a2)]=>some ⟨J0×Bool×Int×Int,z52.F a0 a1 a2,z50.enc⟩
 |_=>none
def z53.F (a0:J0) (a1:Bool) (a2:Int):Option (J0×Bool):=
 (some (a0,a1))
def z53.pack:List V->Option Pack
 |[(.agg [(.ints _ .u64 a0),(.bool a1),(.int .i64 a2)])]=>some ⟨J0×Bool,z53.F a0 a1 a2,z21.enc⟩
 |_=>none
def z54.F (a0:J0) (a1:Bool) (a2:J0) (a3:Bool):Option (J0×Bool):=
 ((z40.F a0 a2).bind λr1=>((z21.F r1 (!decide (a1=a3))).bind λr2=>(some (r2.1,r2.2))))
def z54.pack:List V->Option Pack
 |[(.agg [(.ints _ .u64 a0),(.bool a1)]),(.agg [(.ints _ .u64 a2),(.bool a3)])]=>some ⟨J0×Bool,z54.F a0 a1 a2 a3,z21.enc⟩
 |_=>none
def z55.F (a0:Int):Option (J0×Bool):=
 ((z44.F a0).bind λr1=>((z21.F r1.1 false).bind λr2=>(some (r2.1,r2.2))))
def z55.pack:List V->Option Pack
 |[(.int .i64 a0)]=>some ⟨J0×Bool,z55.F a0,z21.enc⟩
 |_=>none
def z56.F (a0:J0) (a1:Bool) (a2 a3:Int):Option (J0×Bool):=
 ((z55.F (wr .i64 (a3-a2))).bind λr1=>((z54.F a0 a1 r1.1 r1.2).bind λr2=>(some (r2.1,r2.2))))
def z56.pack:List V->Option Pack
 |[(.agg [(.ints _ .u64 a0),(.bool a1),(.int .i64 a2)]),(.int .i64 a3)]=>some ⟨J0×Bool,z56.F a0 a1 a2 a3,z21.enc⟩
 |_=>none
def z57.F (a0:J0) (a1:Bool) (a2:Int) (a3:J0) (a4:Bool) (a5:Int):Option (Int):=
 ((z56.F a0 a1 a2 (if a5>a2 then a5 else a2)).bind λr1=>((z56.F a3 a4 a5 (if a5>a2 then a5 else a2)).bind λr2=>((z34.F r1.1 r1.2 r2.1 r2.2).bind λr3=>(some r3))))
def z57.pack:List V->Option Pack
 |[(.agg [(.ints _ .u64 a0),(.bool a1),(.int .i64 a2)]),(.agg [(.ints _ .u64 a3),(.bool a4),(.int .i64 a5)])]=>some ⟨Int,z57.F a0 a1 a2 a3 a4 a5,z11.enc⟩
 |_=>none
def z58.F (a0:J0) (a1:Bool) (a2:Int):Option (Int):=
 (some a2)
def z58.pack:List V->Option Pack
 |[(.agg [(.ints _ .u64 a0),(.bool a1),(.int .i64 a2)])]=>some ⟨Int,z58.F a0 a1 a2,z11.enc⟩
 |_=>none
def z59.F (a0:J0) (a1:Bool):Option (J0):=
 (some a0)
def z59.pack:List V->Option Pack
 |[(.agg [(.ints _ .u64 a0),(.bool a1)])]=>some ⟨J0,z59.F a0 a1,z23.enc⟩
 |_=>none
def z60.F (a0:J0):Option (J0):=
 (if (a0).length*8<=140737488355328 then (some a0) else none)
def z60.enc (r:J0):V:=(.ints false .u64 r)
def z60.pack:List V->Option Pack
 |[(.agg [(.ints _ .u64 a0)])]=>some ⟨J0,z60.F a0,z60.enc⟩
 |_=>none
def z61.j8 (j7 j8:Int):Option (Int):=
 (if 0<=(wr .u8 j7)/\(wr .u8 j7)<(([0,1,2,2,3,3,3,3,4,4,4,4,4,4,4,4,5,5,5,5,5,5,5,5,5,5,5,5,5,5,5,5,6,6,6,6,6,6,6,6,6,6,6,6,6,6,6,6,6,6,6,6,6,6,6,6,6,6,6,6,6,6,6,6,7,7,7,7,7,7,7,7,7,7,7,7,7,7,7,7,7,7,7,7,7,7,7,7,7,7,7,7,7,7,7,7,7,7,7,7,7,7,7,7,7,7,7,7,7,7,7,7,7,7,7,7,7,7,7,7,7,7,7,7,7,7,7,7,8,8,8,8,8,8,8,8,8,8,8,8,8,8,8,8,8,8,8,8,8,8,8,8,8,8,8,8,8,8,8,8,8,8,8,8,8,8,8,8,8,8,8,8,8,8,8,8,8,8,8,8,8,8,8,8,8,8,8,8,8,8,8,8,8,8,8,8,8,8,8,8,8,8,8,8,8,8,8,8,8,8,8,8,8,8,8,8,8,8,8,8,8,8,8,8,8,8,8,8,8,8,8,8,8,8,8,8,8,8,8,8,8,8,8,8,8,8,8,8,8,8,8,8,8,8,8,8]:J1).length:Int) then (some (wr .i64 (j8+(wr .i64 ((([0,1,2,2,3,3,3,3,4,4,4,4,4,4,4,4,5,5,5,5,5,5,5,5,5,5,5,5,5,5,5,5,6,6,6,6,6,6,6,6,6,6,6,6,6,6,6,6,6,6,6,6,6,6,6,6,6,6,6,6,6,6,6,6,7,7,7,7,7,7,7,7,7,7,7,7,7,7,7,7,7,7,7,7,7,7,7,7,7,7,7,7,7,7,7,7,7,7,7,7,7,7,7,7,7,7,7,7,7,7,7,7,7,7,7,7,7,7,7,7,7,7,7,7,7,7,7,7,8,8,8,8,8,8,8,8,8,8,8,8,8,8,8,8,8,8,8,8,8,8,8,8,8,8,8,8,8,8,8,8,8,8,8,8,8,8,8,8,8,8,8,8,8,8,8,8,8,8,8,8,8,8,8,8,8,8,8,8,8,8,8,8,8,8,8,8,8,8,8,8,8,8,8,8,8,8,8,8,8,8,8,8,8,8,8,8,8,8,8,8,8,8,8,8,8,8,8,8,8,8,8,8,8,8,8,8,8,8,8,8,8,8,8,8,8,8,8,8,8,8,8,8,8,8,8,8]:J1).getD ((wr .u8 j7)).toNat 0).toNat:Int))))) else none)
def z61.j10 (j9 j10:Int):Option (Int):=
 (if 0<=(wr .u8 j9)/\(wr .u8 j9)<(([0,1,2,2,3,3,3,3,4,4,4,4,4,4,4,4,5,5,5,5,5,5,5,5,5,5,5,5,5,5,5,5,6,6,6,6,6,6,6,6,6,6,6,6,6,6,6,6,6,6,6,6,6,6,6,6,6,6,6,6,6,6,6,6,7,7,7,7,7,7,7,7,7,7,7,7,7,7,7,7,7,7,7,7,7,7,7,7,7,7,7,7,7,7,7,7,7,7,7,7,7,7,7,7,7,7,7,7,7,7,7,7,7,7,7,7,7,7,7,7,7,7,7,7,7,7,7,7,8,8,8,8,8,8,8,8,8,8,8,8,8,8,8,8,8,8,8,8,8,8,8,8,8,8,8,8,8,8,8,8,8,8,8,8,8,8,8,8,8,8,8,8,8,8,8,8,8,8,8,8,8,8,8,8,8,8,8,8,8,8,8,8,8,8,8,8,8,8,8,8,8,8,8,8,8,8,8,8,8,8,8,8,8,8,8,8,8,8,8,8,8,8,8,8,8,8,8,8,8,8,8,8,8,8,8,8,8,8,8,8,8,8,8,8,8,8,8,8,8,8,8,8,8,8,8,8]:J1).length:Int) then (some (wr .i64 (j10+(wr .i64 ((([0,1,2,2,3,3,3,3,4,4,4,4,4,4,4,4,5,5,5,5,5,5,5,5,5,5,5,5,5,5,5,5,6,6,6,6,6,6,6,6,6,6,6,6,6,6,6,6,6,6,6,6,6,6,6,6,6,6,6,6,6,6,6,6,7,7,7,7,7,7,7,7,7,7,7,7,7,7,7,7,7,7,7,7,7,7,7,7,7,7,7,7,7,7,7,7,7,7,7,7,7,7,7,7,7,7,7,7,7,7,7,7,7,7,7,7,7,7,7,7,7,7,7,7,7,7,7,7,8,8,8,8,8,8,8,8,8,8,8,8,8,8,8,8,8,8,8,8,8,8,8,8,8,8,8,8,8,8,8,8,8,8,8,8,8,8,8,8,8,8,8,8,8,8,8,8,8,8,8,8,8,8,8,8,8,8,8,8,8,8,8,8,8,8,8,8,8,8,8,8,8,8,8,8,8,8,8,8,8,8,8,8,8,8,8,8,8,8,8,8,8,8,8,8,8,8,8,8,8,8,8,8,8,8,8,8,8,8,8,8,8,8,8,8,8,8,8,8,8,8,8,8,8,8,8,8]:J1).getD ((wr .u8 j9)).toNat 0).toNat:Int))))) else none)
def z61.j2 (j1 j2:Int):Option (Int):=
 (bif (decide (j1>=65536)) then (bif (decide ((Int.fdiv j1 (2^(min 16 (64:Nat))))>=256)) then (z61.j8 (Int.fdiv (Int.fdiv j1 (2^(min 16 (64:Nat)))) (2^(min 8 (64:Nat)))) (wr .i64 ((wr .i64 (j2+16))+8))) else (z61.j8 (Int.fdiv j1 (2^(min 16 (64:Nat)))) (wr .i64 (j2+16)))) else (bif (decide (j1>=256)) then (z61.j10 (Int.fdiv j1 (2^(min 8 (64:Nat)))) (wr .i64 (j2+8))) else (z61.j10 j1 j2)))
def z61.F (a0:Int):Option (Int):=
 (bif (decide (a0>=4294967296)) then (z61.j2 (Int.fdiv a0 (2^(min 32 (64:Nat)))) 32) else (z61.j2 a0 0))
def z61.pack:List V->Option Pack
 |[(.int .u64 a0)]=>some ⟨Int,z61.F a0,z11.enc⟩
 |_=>none
def z62.F (a0:Int):Option (Int):=
 ((z61.F a0).bind λr1=>(some (wr .i64 ((64:Int)-r1))))
def z62.pack:List V->Option Pack
 |[(.int .u64 a0)]=>some ⟨Int,z62.F a0,z11.enc⟩
 |_=>none
def z63.l0b8P (a b c:Int) {R:Type} (rec done:(Int×Int)->Option R):(Int×Int)->Option R:=λx=>match x with
 |(d,e)=>(bif (decide (d>=4294967296)) then (bif (decide ((wr .u64 (e+a))>=4294967296)) then (done ((wr .u64 (d-1)),(wr .u64 (e+a)))) else (rec ((wr .u64 (d-1)),(wr .u64 (e+a))))) else (bif (decide ((wr .u64 (d*b))>(wr .u64 ((wr .u64 ((4294967296:Int)*e))+c)))) then (bif (decide ((wr .u64 (e+a))>=4294967296)) then (done ((wr .u64 (d-1)),(wr .u64 (e+a)))) else (rec ((wr .u64 (d-1)),(wr .u64 (e+a))))) else (done (d,e))))
def z63.l0b8 (a b c:Int) (x:(Int×Int)):Option ((Int×Int)):=lfp (λrec x=>z63.l0b8P a b c rec some x) x
def z63.l2b8P (a b c:Int) {R:Type} (rec done:(Int×Int)->Option R):(Int×Int)->Option R:=λx=>match x with
 |(d,e)=>(bif (decide (e>=4294967296)) then (bif (decide ((wr .u64 (d+a))>=4294967296)) then (done ((wr .u64 (d+a)),(wr .u64 (e-1)))) else (rec ((wr .u64 (d+a)),(wr .u64 (e-1))))) else (bif (decide ((wr .u64 (e*b))>(wr .u64 ((wr .u64 ((4294967296:Int)*d))+c)))) then (bif (decide ((wr .u64 (d+a))>=4294967296)) then (done ((wr .u64 (d+a)),(wr .u64 (e-1)))) else (rec ((wr .u64 (d+a)),(wr .u64 (e-1))))) else (done (d,e))))
def z63.l2b8 (a b c:Int) (x:(Int×Int)):Option ((Int×Int)):=lfp (λrec x=>z63.l2b8P a b c rec some x) x
def z63.F (a0 a1 a2:Int):Option (Int×Int):=
 (bif (decide (a2=0)) then none else (bif (decide (a2<=a0)) then none else (bif (decide (a0=0)) then (if a2=0 then none else (if a2=0 then none else (some ((wr .u64 (Int.tdiv a1 a2)),(Int.tmod a1 a2))))) else ((z62.F a2).bind λr1=>(if 0<=(wr .u64 r1) then (if 0<=(wr .u64 r1) then (if 0<=(wr .u64 ((64:Int)-(wr .u64 r1))) then (if 0<=(wr .u64 r1) then (if (Int.fdiv (wr .u64 (a2*2^(min ((wr .u64 r1)).toNat (64:Nat)))) (2^(min 32 (64:Nat))))=0 then none else ((z63.l0b8 (Int.fdiv (wr .u64 (a2*2^(min ((wr .u64 r1)).toNat (64:Nat)))) (2^(min 32 (64:Nat)))) (wr .u64 ((BitVec.ofInt (IntKind.bits .u64) (wr .u64 (a2*2^(min ((wr .u64 r1)).toNat (64:Nat)))) &&& BitVec.ofInt (IntKind.bits .u64) 4294967295).toNat:Int)) (Int.fdiv (wr .u64 (a1*2^(min ((wr .u64 r1)).toNat (64:Nat)))) (2^(min 32 (64:Nat)))) ((wr .u64 (Int.tdiv (wr .u64 ((BitVec.ofInt (IntKind.bits .u64) (wr .u64 (a0*2^(min ((wr .u64 r1)).toNat (64:Nat)))) ||| BitVec.ofInt (IntKind.bits .u64) (Int.fdiv a1 (2^(min ((wr .u64 ((64:Int)-(wr .u64 r1)))).toNat (64:Nat))))).toNat:Int)) (Int.fdiv (wr .u64 (a2*2^(min ((wr .u64 r1)).toNat (64:Nat)))) (2^(min 32 (64:Nat)))))),(wr .u64 ((wr .u64 ((BitVec.ofInt (IntKind.bits .u64) (wr .u64 (a0*2^(min ((wr .u64 r1)).toNat (64:Nat)))) ||| BitVec.ofInt (IntKind.bits .u64) (Int.fdiv a1 (2^(min ((wr .u64 ((64:Int)-(wr .u64 r1)))).toNat (64:Nat))))).toNat:Int))-(wr .u64 ((wr .u64 (Int.tdiv (wr .u64 ((BitVec.ofInt (IntKind.bits .u64) (wr .u64 (a0*2^(min ((wr .u64 r1)).toNat (64:Nat)))) ||| BitVec.ofInt (IntKind.bits .u64) (Int.fdiv a1 (2^(min ((wr .u64 ((64:Int)-(wr .u64 r1)))).toNat (64:Nat))))).toNat:Int)) (Int.fdiv (wr .u64 (a2*2^(min ((wr .u64 r1)).toNat (64:Nat)))) (2^(min 32 (64:Nat))))))*(Int.fdiv (wr .u64 (a2*2^(min ((wr .u64 r1)).toNat (64:Nat)))) (2^(min 32 (64:Nat)))))))))).bind λo2=>(if (Int.fdiv (wr .u64 (a2*2^(min ((wr .u64 r1)).toNat (64:Nat)))) (2^(min 32 (64:Nat))))=0 then none else ((z63.l2b8 (Int.fdiv (wr .u64 (a2*2^(min ((wr .u64 r1)).toNat (64:Nat)))) (2^(min 32 (64:Nat)))) (wr .u64 ((BitVec.ofInt (IntKind.bits .u64) (wr .u64 (a2*2^(min ((wr .u64 r1)).toNat (64:Nat)))) &&& BitVec.ofInt (IntKind.bits .u64) 4294967295).toNat:Int)) (wr .u64 ((BitVec.ofInt (IntKind.bits .u64) (wr .u64 (a1*2^(min ((wr .u64 r1)).toNat (64:Nat)))) &&& BitVec.ofInt (IntKind.bits .u64) 4294967295).toNat:Int)) ((wr .u64 ((wr .u64 ((wr .u64 ((wr .u64 ((wr .u64 ((BitVec.ofInt (IntKind.bits .u64) (wr .u64 (a0*2^(min ((wr .u64 r1)).toNat (64:Nat)))) ||| BitVec.ofInt (IntKind.bits .u64) (Int.fdiv a1 (2^(min ((wr .u64 ((64:Int)-(wr .u64 r1)))).toNat (64:Nat))))).toNat:Int))*4294967296))+(Int.fdiv (wr .u64 (a1*2^(min ((wr .u64 r1)).toNat (64:Nat)))) (2^(min 32 (64:Nat))))))-(wr .u64 (o2.1*(wr .u64 (a2*2^(min ((wr .u64 r1)).toNat (64:Nat))))))))-(wr .u64 ((wr .u64 (Int.tdiv (wr .u64 ((wr .u64 ((wr .u64 ((wr .u64 ((BitVec.ofInt (IntKind.bits .u64) (wr .u64 (a0*2^(min ((wr .u64 r1)).toNat (64:Nat)))) ||| BitVec.ofInt (IntKind.bits .u64) (Int.fdiv a1 (2^(min ((wr .u64 ((64:Int)-(wr .u64 r1)))).toNat (64:Nat))))).toNat:Int))*4294967296))+(Int.fdiv (wr .u64 (a1*2^(min ((wr .u64 r1)).toNat (64:Nat)))) (2^(min 32 (64:Nat))))))-(wr .u64 (o2.1*(wr .u64 (a2*2^(min ((wr .u64 r1)).toNat (64:Nat)))))))) (Int.fdiv (wr .u64 (a2*2^(min ((wr .u64 r1)).toNat (64:Nat)))) (2^(min 32 (64:Nat))))))*(Int.fdiv (wr .u64 (a2*2^(min ((wr .u64 r1)).toNat (64:Nat)))) (2^(min 32 (64:Nat)))))))),(wr .u64 (Int.tdiv (wr .u64 ((wr .u64 ((wr .u64 ((wr .u64 ((BitVec.ofInt (IntKind.bits .u64) (wr .u64 (a0*2^(min ((wr .u64 r1)).toNat (64:Nat)))) ||| BitVec.ofInt (IntKind.bits .u64) (Int.fdiv a1 (2^(min ((wr .u64 ((64:Int)-(wr .u64 r1)))).toNat (64:Nat))))).toNat:Int))*4294967296))+(Int.fdiv (wr .u64 (a1*2^(min ((wr .u64 r1)).toNat (64:Nat)))) (2^(min 32 (64:Nat))))))-(wr .u64 (o2.1*(wr .u64 (a2*2^(min ((wr .u64 r1)).toNat (64:Nat)))))))) (Int.fdiv (wr .u64 (a2*2^(min ((wr .u64 r1)).toNat (64:Nat)))) (2^(min 32 (64:Nat)))))))).bind λo3=>(if 0<=(wr .u64 r1) then (some ((wr .u64 ((wr .u64 (o2.1*4294967296))+o3.2)),(Int.fdiv (wr .u64 ((wr .u64 ((wr .u64 ((wr .u64 ((wr .u64 ((wr .u64 ((wr .u64 ((BitVec.ofInt (IntKind.bits .u64) (wr .u64 (a0*2^(min ((wr .u64 r1)).toNat (64:Nat)))) ||| BitVec.ofInt (IntKind.bits .u64) (Int.fdiv a1 (2^(min ((wr .u64 ((64:Int)-(wr .u64 r1)))).toNat (64:Nat))))).toNat:Int))*4294967296))+(Int.fdiv (wr .u64 (a1*2^(min ((wr .u64 r1)).toNat (64:Nat)))) (2^(min 32 (64:Nat))))))-(wr .u64 (o2.1*(wr .u64 (a2*2^(min ((wr .u64 r1)).toNat (64:Nat))))))))*4294967296))+(wr .u64 ((BitVec.ofInt (IntKind.bits .u64) (wr .u64 (a1*2^(min ((wr .u64 r1)).toNat (64:Nat)))) &&& BitVec.ofInt (IntKind.bits .u64) 4294967295).toNat:Int))))-(wr .u64 (o3.2*(wr .u64 (a2*2^(min ((wr .u64 r1)).toNat (64:Nat)))))))) (2^(min ((wr .u64 r1)).toNat (64:Nat)))))) else none))))) else none) else none) else none) else none)))))
def z63.pack:List V->Option Pack
 |[(.int .u64 a0),(.int .u64 a1),(.int .u64 a2)]=>some ⟨Int×Int,z63.F a0 a1 a2,z39.enc⟩
 |_=>none
def z64.l0P (a:J0) (b:Int) {R:Type} (rec done:(Int×Int×J0)->Option R):(Int×Int×J0)->Option R:=λx=>match x with
 |(c,d,e)=>(bif (decide (d>=0)) then (if 0<=d/\d<(a.length:Int) then ((z63.F c (a.getD (d).toNat 0) b).bind λg=>(if 0<=d/\d<(e.length:Int) then (if (d).toNat<e.length then (rec (g.2,(wr .i64 (d-1)),(e.set (d).toNat g.1))) else none) else none)) else none) else (done (c,d,e)))
def z64.l0 (a:J0) (b:Int) (x:(Int×Int×J0)):Option ((Int×Int×J0)):=lfp (λrec x=>z64.l0P a b rec some x) x
def z64.F (a0:J0) (a1:Int):Option (J0×Int):=
 (if 0<=(((a0).length:Nat):Int)/\(((a0).length:Nat):Int)*8<=140737488355328 then ((z64.l0 a0 a1 ((0:Int),(wr .i64 ((((a0).length:Nat):Int)-1)),(List.replicate ((((a0).length:Nat):Int)).toNat (0:Int)))).bind λo1=>(some (o1.2.2,o1.1))) else none)
def z64.enc (r:J0×Int):V:=(.tup [(.ints false .u64 r.1),(.int .u64 r.2)])
def z64.pack:List V->Option Pack
 |[(.ints _ .u64 a0),(.int .u64 a1)]=>some ⟨J0×Int,z64.F a0 a1,z64.enc⟩
 |_=>none
def z65.F (a0:Int):Option (Bool):=
 (bif (decide (a0<0)) then (some true) else (some (decide (a0>262144))))
def z65.pack:List V->Option Pack
 |[(.int .i64 a0)]=>some ⟨Bool,z65.F a0,z10.enc⟩
 |_=>none
def z66.l0P (a b:Nat) (c d:Int) {R:Type} (rec done:(Int×J0)->Option R):(Int×J0)->Option R:=λx=>match x with
 |(e,g)=>(bif (decide (e<d)) then (if 0<=e/\e<((b:Nat):Int) then (if (a+(e).toNat)<g.length then (if 0<=c then (if 0<=e/\e<((b:Nat):Int) then (if (a+(e).toNat)<g.length then (bif (decide ((wr .i64 (e+1))<((b:Nat):Int))) then (if 0<=e/\e<((b:Nat):Int) then (if (a+(e).toNat)<(g.set (a+(e).toNat) (Int.fdiv (g.getD (a+(e).toNat) 0) (2^(min (c).toNat (64:Nat))))).length then (if 0<=(wr .i64 (e+1))/\(wr .i64 (e+1))<((b:Nat):Int) then (if (a+((wr .i64 (e+1))).toNat)<(g.set (a+(e).toNat) (Int.fdiv (g.getD (a+(e).toNat) 0) (2^(min (c).toNat (64:Nat))))).length then (if 0<=(wr .u64 ((64:Int)-c)) then (if 0<=e/\e<((b:Nat):Int) then (if (a+(e).toNat)<(g.set (a+(e).toNat) (Int.fdiv (g.getD (a+(e).toNat) 0) (2^(min (c).toNat (64:Nat))))).length then (rec ((wr .i64 (e+1)),((g.set (a+(e).toNat) (Int.fdiv (g.getD (a+(e).toNat) 0) (2^(min (c).toNat (64:Nat))))).set (a+(e).toNat) (wr .u64 ((BitVec.ofInt (IntKind.bits .u64) ((g.set (a+(e).toNat) (Int.fdiv (g.getD (a+(e).toNat) 0) (2^(min (c).toNat (64:Nat))))).getD (a+(e).toNat) 0) ||| BitVec.ofInt (IntKind.bits .u64) (wr .u64 (((g.set (a+(e).toNat) (Int.fdiv (g.getD (a+(e).toNat) 0) (2^(min (c).toNat (64:Nat))))).getD (a+((wr .i64 (e+1))).toNat) 0)*2^(min ((wr .u64 ((64:Int)-c))).toNat (64:Nat))))).toNat:Int))))) else none) else none) else none) else none) else none) else none) else none) else (rec ((wr .i64 (e+1)),(g.set (a+(e).toNat) (Int.fdiv (g.getD (a+(e).toNat) 0) (2^(min (c).toNat (64:Nat)))))))) else none) else none) else none) else none) else none) else (done (e,g)))
def z66.l0 (a b:Nat) (c d:Int) (x:(Int×J0)):Option ((Int×J0)):=lfp (λrec x=>z66.l0P a b c d rec some x) x
def z66.F (a0:J0) (a1:Int):Option (J0×Int):=
 ((z65.F a1).bind λr1=>(bif r1 then (some ([],(2:Int))) else (if (a0).length*8<=140737488355328 then (if 0<=(if (((a0).length:Nat):Int)<(wr .i64 (Int.tdiv a1 64)) then (((a0).length:Nat):Int) else (wr .i64 (Int.tdiv a1 64)))/\(if (((a0).length:Nat):Int)<(wr .i64 (Int.tdiv a1 64)) then (((a0).length:Nat):Int) else (wr .i64 (Int.tdiv a1 64)))<=((a0).length:Int) then ((z66.l0 ((if (((a0).length:Nat):Int)<(wr .i64 (Int.tdiv a1 64)) then (((a0).length:Nat):Int) else (wr .i64 (Int.tdiv a1 64)))).toNat ((a0).length-((if (((a0).length:Nat):Int)<(wr .i64 (Int.tdiv a1 64)) then (((a0).length:Nat):Int) else (wr .i64 (Int.tdiv a1 64)))).toNat) (wr .u64 (Int.tmod a1 64)) ((((a0).length-((if (((a0).length:Nat):Int)<(wr .i64 (Int.tdiv a1 64)) then (((a0).length:Nat):Int) else (wr .i64 (Int.tdiv a1 64)))).toNat):Nat):Int) ((0:Int),a0)).bind λo2=>((z38.F ((o2.2.drop ((if (((a0).length:Nat):Int)<(wr .i64 (Int.tdiv a1 64)) then (((a0).length:Nat):Int) else (wr .i64 (Int.tdiv a1 64)))).toNat).take ((a0).length-((if (((a0).length:Nat):Int)<(wr .i64 (Int.tdiv a1 64)) then (((a0).length:Nat):Int) else (wr .i64 (Int.tdiv a1 64)))).toNat))).bind λr3=>(some (r3,(0:Int))))) else none) else none)))
def z66.pack:List V->Option Pack
 |[(.agg [(.ints _ .u64 a0)]),(.int .i64 a1)]=>some ⟨J0×Int,z66.F a0 a1,z41.enc⟩
 |_=>none
def z67.l0P (a:Int) (b:J0) (c:Int) {R:Type} (rec done:(Int×J0)->Option R):(Int×J0)->Option R:=λx=>match x with
 |(d,e)=>(bif (decide (d<c)) then (if 0<=d/\d<(b.length:Int) then (if 0<=d/\d<(e.length:Int) then (if (d).toNat<e.length then (if 0<=a then (if 0<=d/\d<(e.length:Int) then (if (d).toNat<e.length then (if 0<=(wr .u64 ((64:Int)-a)) then (if 0<=(wr .i64 (d+1))/\(wr .i64 (d+1))<((e.set (d).toNat (wr .u64 ((BitVec.ofInt (IntKind.bits .u64) (e.getD (d).toNat 0) ||| BitVec.ofInt (IntKind.bits .u64) (wr .u64 ((b.getD (d).toNat 0)*2^(min (a).toNat (64:Nat))))).toNat:Int))).length:Int) then (if ((wr .i64 (d+1))).toNat<(e.set (d).toNat (wr .u64 ((BitVec.ofInt (IntKind.bits .u64) (e.getD (d).toNat 0) ||| BitVec.ofInt (IntKind.bits .u64) (wr .u64 ((b.getD (d).toNat 0)*2^(min (a).toNat (64:Nat))))).toNat:Int))).length then (rec ((wr .i64 (d+1)),((e.set (d).toNat (wr .u64 ((BitVec.ofInt (IntKind.bits .u64) (e.getD (d).toNat 0) ||| BitVec.ofInt (IntKind.bits .u64) (wr .u64 ((b.getD (d).toNat 0)*2^(min (a).toNat (64:Nat))))).toNat:Int))).set ((wr .i64 (d+1))).toNat (Int.fdiv (b.getD (d).toNat 0) (2^(min ((wr .u64 ((64:Int)-a))).toNat (64:Nat))))))) else none) else none) else none) else none) else none) else none) else none) else none) else none) else (done (d,e)))
def z67.l0 (a:Int) (b:J0) (c:Int) (x:(Int×J0)):Option ((Int×J0)):=lfp (λrec x=>z67.l0P a b c rec some x) x
def z67.l0aP (a:Int) (b:J0) (c:Int) {R:Type} (rec done:(Int×J0)->Option R):(Int×J0)->Option R:=λx=>match x with
 |(d,e)=>(bif (decide (d<c)) then (if 0<=d/\d<(b.length:Int) then (if 0<=d/\d<(e.length:Int) then (if (d).toNat<e.length then (if 0<=a then (if 0<=d/\d<(e.length:Int) then (if (d).toNat<e.length then (if 0<=(wr .u64 ((64:Int)-a)) then (if 0<=(wr .i64 (d+1))/\(wr .i64 (d+1))<((e.set (d).toNat (wr .u64 ((BitVec.ofInt (IntKind.bits .u64) (e.getD (d).toNat 0) ||| BitVec.ofInt (IntKind.bits .u64) (wr .u64 ((b.getD (d).toNat 0)*2^(min (a).toNat (64:Nat))))).toNat:Int))).length:Int) then (if ((wr .i64 (d+1))).toNat<(e.set (d).toNat (wr .u64 ((BitVec.ofInt (IntKind.bits .u64) (e.getD (d).toNat 0) ||| BitVec.ofInt (IntKind.bits .u64) (wr .u64 ((b.getD (d).toNat 0)*2^(min (a).toNat (64:Nat))))).toNat:Int))).length then (rec ((wr .i64 (d+1)),((e.set (d).toNat (wr .u64 ((BitVec.ofInt (IntKind.bits .u64) (e.getD (d).toNat 0) ||| BitVec.ofInt (IntKind.bits .u64) (wr .u64 ((b.getD (d).toNat 0)*2^(min (a).toNat (64:Nat))))).toNat:Int))).set ((wr .i64 (d+1))).toNat (Int.fdiv (b.getD (d).toNat 0) (2^(min ((wr .u64 ((64:Int)-a))).toNat (64:Nat))))))) else none) else none) else none) else none) else none) else none) else none) else none) else none) else (done (d,e)))
def z67.l0a (a:Int) (b:J0) (c:Int) (x:(Int×J0)):Option ((Int×J0)):=lfp (λrec x=>z67.l0aP a b c rec some x) x
def z67.l0b3P (a b:Nat) (c:Int) (d e:Nat) (g:Int) (h:J0) {R:Type} (rec done:(Int×Int×Int×J0)->Option R):(Int×Int×Int×J0)->Option R:=λx=>match x with
 |(j,k,m,n)=>(bif (decide (m<g)) then (if 0<=m/\m<((e:Nat):Int) then (if (d+(m).toNat)<h.length then ((z39.F (h.getD (d+(m).toNat) 0) c).bind λo=>((z0.F o.2 j 0).bind λp=>(if 0<=m/\m<((b:Nat):Int) then (if (a+(m).toNat)<n.length then ((z1.F (n.getD (a+(m).toNat) 0) p.1 k).bind λq=>(if 0<=m/\m<((b:Nat):Int) then (if (a+(m).toNat)<n.length then (rec ((wr .u64 (o.1+p.2)),q.2,(wr .i64 (m+1)),(n.set (a+(m).toNat) q.1))) else none) else none)) else none) else none))) else none) else none) else (done (j,k,m,n)))
def z67.l0b3 (a b:Nat) (c:Int) (d e:Nat) (g:Int) (h:J0) (x:(Int×Int×Int×J0)):Option ((Int×Int×Int×J0)):=lfp (λrec x=>z67.l0b3P a b c d e g h rec some x) x
def z67.l0b4P (a b c d:Nat) (e:Int) (g:J0) {R:Type} (rec done:(Int×Int×J0)->Option R):(Int×Int×J0)->Option R:=λx=>match x with
 |(h,j,k)=>(bif (decide (j<e)) then (if 0<=j/\j<((d:Nat):Int) then (if (c+(j).toNat)<g.length then (if 0<=j/\j<((b:Nat):Int) then (if (a+(j).toNat)<k.length then ((z0.F (k.getD (a+(j).toNat) 0) (g.getD (c+(j).toNat) 0) h).bind λm=>(if 0<=j/\j<((b:Nat):Int) then (if (a+(j).toNat)<k.length then (rec (m.2,(wr .i64 (j+1)),(k.set (a+(j).toNat) m.1))) else none) else none)) else none) else none) else none) else none) else (done (h,j,k)))
def z67.l0b4 (a b c d:Nat) (e:Int) (g:J0) (x:(Int×Int×J0)):Option ((Int×Int×J0)):=lfp (λrec x=>z67.l0b4P a b c d e g rec some x) x
def z67.l2P (a b c d:Nat) (e:J0) {R:Type} (rec done:(Int×Int×J0)->Option R):(Int×Int×J0)->Option R:=λx=>match x with
 |(g,h,j)=>(bif (!decide (h=0)) then ((z67.l0b4 c d a b ((b:Nat):Int) e ((0:Int),(0:Int),j)).bind λk=>(if 0<=((b:Nat):Int)/\((b:Nat):Int)<((d:Nat):Int) then (if (c+(((b:Nat):Int)).toNat)<k.2.2.length then (if 0<=((b:Nat):Int)/\((b:Nat):Int)<((d:Nat):Int) then (if (c+(((b:Nat):Int)).toNat)<k.2.2.length then (if 0<=((b:Nat):Int)/\((b:Nat):Int)<((d:Nat):Int) then (if (c+(((b:Nat):Int)).toNat)<(k.2.2.set (c+(((b:Nat):Int)).toNat) (wr .u64 ((k.2.2.getD (c+(((b:Nat):Int)).toNat) 0)+k.1))).length then (bif (decide (((k.2.2.set (c+(((b:Nat):Int)).toNat) (wr .u64 ((k.2.2.getD (c+(((b:Nat):Int)).toNat) 0)+k.1))).getD (c+(((b:Nat):Int)).toNat) 0)=0)) then (rec ((wr .u64 (g-1)),(0:Int),(k.2.2.set (c+(((b:Nat):Int)).toNat) (wr .u64 ((k.2.2.getD (c+(((b:Nat):Int)).toNat) 0)+k.1))))) else (rec ((wr .u64 (g-1)),h,(k.2.2.set (c+(((b:Nat):Int)).toNat) (wr .u64 ((k.2.2.getD (c+(((b:Nat):Int)).toNat) 0)+k.1)))))) else none) else none) else none) else none) else none) else none)) else (done (g,h,j)))
def z67.l2 (a b c d:Nat) (e:J0) (x:(Int×Int×J0)):Option ((Int×Int×J0)):=lfp (λrec x=>z67.l2P a b c d e rec some x) x
def z67.l0aaP (a b:Nat) (c:J0) {R:Type} (rec done:(Int×J0×J0)->Option R):(Int×J0×J0)->Option R:=λx=>match x with
 |(d,e,g)=>(bif (decide (d>=0)) then (if 0<=d/\d<=(wr .i64 ((wr .i64 (d+((b:Nat):Int)))+1))/\(wr .i64 ((wr .i64 (d+((b:Nat):Int)))+1))<=((e).length:Int) then (if 0<=((b:Nat):Int)/\((b:Nat):Int)<(((((wr .i64 ((wr .i64 (d+((b:Nat):Int)))+1))).toNat-(d).toNat):Nat):Int) then (if ((d).toNat+(((b:Nat):Int)).toNat)<e.length then (if 0<=(wr .i64 (((b:Nat):Int)-1))/\(wr .i64 (((b:Nat):Int)-1))<(((((wr .i64 ((wr .i64 (d+((b:Nat):Int)))+1))).toNat-(d).toNat):Nat):Int) then (if ((d).toNat+((wr .i64 (((b:Nat):Int)-1))).toNat)<e.length then (if 0<=(wr .i64 (((b:Nat):Int)-2))/\(wr .i64 (((b:Nat):Int)-2))<(((((wr .i64 ((wr .i64 (d+((b:Nat):Int)))+1))).toNat-(d).toNat):Nat):Int) then (if ((d).toNat+((wr .i64 (((b:Nat):Int)-2))).toNat)<e.length then (if 0<=(wr .i64 (((b:Nat):Int)-1))/\(wr .i64 (((b:Nat):Int)-1))<((b:Nat):Int) then (if (a+((wr .i64 (((b:Nat):Int)-1))).toNat)<c.length then (bif (decide ((e.getD ((d).toNat+(((b:Nat):Int)).toNat) 0)>=(c.getD (a+((wr .i64 (((b:Nat):Int)-1))).toNat) 0))) then ((z67.l0b3 (d).toNat (((wr .i64 ((wr .i64 (d+((b:Nat):Int)))+1))).toNat-(d).toNat) 18446744073709551615 a b ((b:Nat):Int) c ((0:Int),(0:Int),(0:Int),e)).bind λh=>(if 0<=((b:Nat):Int)/\((b:Nat):Int)<(((((wr .i64 ((wr .i64 (d+((b:Nat):Int)))+1))).toNat-(d).toNat):Nat):Int) then (if ((d).toNat+(((b:Nat):Int)).toNat)<h.2.2.2.length then ((z1.F (h.2.2.2.getD ((d).toNat+(((b:Nat):Int)).toNat) 0) h.1 h.2.1).bind λj=>(if 0<=((b:Nat):Int)/\((b:Nat):Int)<(((((wr .i64 ((wr .i64 (d+((b:Nat):Int)))+1))).toNat-(d).toNat):Nat):Int) then (if ((d).toNat+(((b:Nat):Int)).toNat)<h.2.2.2.length then ((z67.l2 a b (d).toNat (((wr .i64 ((wr .i64 (d+((b:Nat):Int)))+1))).toNat-(d).toNat) c ((18446744073709551615:Int),j.2,(h.2.2.2.set ((d).toNat+(((b:Nat):Int)).toNat) j.1))).bind λk=>(if 0<=d/\d<(g.length:Int) then (if (d).toNat<g.length then (rec ((wr .i64 (d-1)),k.2.2,(g.set (d).toNat k.1))) else none) else none)) else none) else none)) else none) else none)) else (if 0<=(wr .i64 (((b:Nat):Int)-1))/\(wr .i64 (((b:Nat):Int)-1))<((b:Nat):Int) then (if (a+((wr .i64 (((b:Nat):Int)-1))).toNat)<c.length then ((z63.F (e.getD ((d).toNat+(((b:Nat):Int)).toNat) 0) (e.getD ((d).toNat+((wr .i64 (((b:Nat):Int)-1))).toNat) 0) (c.getD (a+((wr .i64 (((b:Nat):Int)-1))).toNat) 0)).bind λm=>(if 0<=(wr .i64 (((b:Nat):Int)-2))/\(wr .i64 (((b:Nat):Int)-2))<((b:Nat):Int) then (if (a+((wr .i64 (((b:Nat):Int)-2))).toNat)<c.length then ((z39.F m.1 (c.getD (a+((wr .i64 (((b:Nat):Int)-2))).toNat) 0)).bind λn=>(bif (decide (n.1<m.2)) then ((z67.l0b3 (d).toNat (((wr .i64 ((wr .i64 (d+((b:Nat):Int)))+1))).toNat-(d).toNat) m.1 a b ((b:Nat):Int) c ((0:Int),(0:Int),(0:Int),e)).bind λo=>(if 0<=((b:Nat):Int)/\((b:Nat):Int)<(((((wr .i64 ((wr .i64 (d+((b:Nat):Int)))+1))).toNat-(d).toNat):Nat):Int) then (if ((d).toNat+(((b:Nat):Int)).toNat)<o.2.2.2.length then ((z1.F (o.2.2.2.getD ((d).toNat+(((b:Nat):Int)).toNat) 0) o.1 o.2.1).bind λp=>(if 0<=((b:Nat):Int)/\((b:Nat):Int)<(((((wr .i64 ((wr .i64 (d+((b:Nat):Int)))+1))).toNat-(d).toNat):Nat):Int) then (if ((d).toNat+(((b:Nat):Int)).toNat)<o.2.2.2.length then ((z67.l2 a b (d).toNat (((wr .i64 ((wr .i64 (d+((b:Nat):Int)))+1))).toNat-(d).toNat) c (m.1,p.2,(o.2.2.2.set ((d).toNat+(((b:Nat):Int)).toNat) p.1))).bind λq=>(if 0<=d/\d<(g.length:Int) then (if (d).toNat<g.length then (rec ((wr .i64 (d-1)),q.2.2,(g.set (d).toNat q.1))) else none) else none)) else none) else none)) else none) else none)) else (bif (decide (n.1=m.2)) then (bif (decide (n.2<=(e.getD ((d).toNat+((wr .i64 (((b:Nat):Int)-2))).toNat) 0))) then ((z67.l0b3 (d).toNat (((wr .i64 ((wr .i64 (d+((b:Nat):Int)))+1))).toNat-(d).toNat) m.1 a b ((b:Nat):Int) c ((0:Int),(0:Int),(0:Int),e)).bind λr=>(if 0<=((b:Nat):Int)/\((b:Nat):Int)<(((((wr .i64 ((wr .i64 (d+((b:Nat):Int)))+1))).toNat-(d).toNat):Nat):Int) then (if ((d).toNat+(((b:Nat):Int)).toNat)<r.2.2.2.length then ((z1.F (r.2.2.2.getD ((d).toNat+(((b:Nat):Int)).toNat) 0) r.1 r.2.1).bind λs=>(if 0<=((b:Nat):Int)/\((b:Nat):Int)<(((((wr .i64 ((wr .i64 (d+((b:Nat):Int)))+1))).toNat-(d).toNat):Nat):Int) then (if ((d).toNat+(((b:Nat):Int)).toNat)<r.2.2.2.length then ((z67.l2 a b (d).toNat (((wr .i64 ((wr .i64 (d+((b:Nat):Int)))+1))).toNat-(d).toNat) c (m.1,s.2,(r.2.2.2.set ((d).toNat+(((b:Nat):Int)).toNat) s.1))).bind λt=>(if 0<=d/\d<(g.length:Int) then (if (d).toNat<g.length then (rec ((wr .i64 (d-1)),t.2.2,(g.set (d).toNat t.1))) else none) else none)) else none) else none)) else none) else none)) else (if 0<=(wr .i64 (((b:Nat):Int)-1))/\(wr .i64 (((b:Nat):Int)-1))<((b:Nat):Int) then (if (a+((wr .i64 (((b:Nat):Int)-1))).toNat)<c.length then ((z0.F m.2 (c.getD (a+((wr .i64 (((b:Nat):Int)-1))).toNat) 0) 0).bind λu=>(bif (decide (u.2=0)) then (if 0<=(wr .i64 (((b:Nat):Int)-2))/\(wr .i64 (((b:Nat):Int)-2))<((b:Nat):Int) then (if (a+((wr .i64 (((b:Nat):Int)-2))).toNat)<c.length then ((z39.F (wr .u64 (m.1-1)) (c.getD (a+((wr .i64 (((b:Nat):Int)-2))).toNat) 0)).bind λv=>(bif (decide (v.1<u.1)) then ((z67.l0b3 (d).toNat (((wr .i64 ((wr .i64 (d+((b:Nat):Int)))+1))).toNat-(d).toNat) (wr .u64 (m.1-1)) a b ((b:Nat):Int) c ((0:Int),(0:Int),(0:Int),e)).bind λw=>(if 0<=((b:Nat):Int)/\((b:Nat):Int)<(((((wr .i64 ((wr .i64 (d+((b:Nat):Int)))+1))).toNat-(d).toNat):Nat):Int) then (if ((d).toNat+(((b:Nat):Int)).toNat)<w.2.2.2.length then ((z1.F (w.2.2.2.getD ((d).toNat+(((b:Nat):Int)).toNat) 0) w.1 w.2.1).bind λy=>(if 0<=((b:Nat):Int)/\((b:Nat):Int)<(((((wr .i64 ((wr .i64 (d+((b:Nat):Int)))+1))).toNat-(d).toNat):Nat):Int) then (if ((d).toNat+(((b:Nat):Int)).toNat)<w.2.2.2.length then ((z67.l2 a b (d).toNat (((wr .i64 ((wr .i64 (d+((b:Nat):Int)))+1))).toNat-(d).toNat) c ((wr .u64 (m.1-1)),y.2,(w.2.2.2.set ((d).toNat+(((b:Nat):Int)).toNat) y.1))).bind λz=>(if 0<=d/\d<(g.length:Int) then (if (d).toNat<g.length then (rec ((wr .i64 (d-1)),z.2.2,(g.set (d).toNat z.1))) else none) else none)) else none) else none)) else none) else none)) else (bif (decide (v.1=u.1)) then (bif (decide (v.2<=(e.getD ((d).toNat+((wr .i64 (((b:Nat):Int)-2))).toNat) 0))) then ((z67.l0b3 (d).toNat (((wr .i64 ((wr .i64 (d+((b:Nat):Int)))+1))).toNat-(d).toNat) (wr .u64 (m.1-1)) a b ((b:Nat):Int) c ((0:Int),(0:Int),(0:Int),e)).bind λA=>(if 0<=((b:Nat):Int)/\((b:Nat):Int)<(((((wr .i64 ((wr .i64 (d+((b:Nat):Int)))+1))).toNat-(d).toNat):Nat):Int) then (if ((d).toNat+(((b:Nat):Int)).toNat)<A.2.2.2.length then ((z1.F (A.2.2.2.getD ((d).toNat+(((b:Nat):Int)).toNat) 0) A.1 A.2.1).bind λB=>(if 0<=((b:Nat):Int)/\((b:Nat):Int)<(((((wr .i64 ((wr .i64 (d+((b:Nat):Int)))+1))).toNat-(d).toNat):Nat):Int) then (if ((d).toNat+(((b:Nat):Int)).toNat)<A.2.2.2.length then ((z67.l2 a b (d).toNat (((wr .i64 ((wr .i64 (d+((b:Nat):Int)))+1))).toNat-(d).toNat) c ((wr .u64 (m.1-1)),B.2,(A.2.2.2.set ((d).toNat+(((b:Nat):Int)).toNat) B.1))).bind λC=>(if 0<=d/\d<(g.length:Int) then (if (d).toNat<g.length then (rec ((wr .i64 (d-1)),C.2.2,(g.set (d).toNat C.1))) else none) else none)) else none) else none)) else none) else none)) else (if 0<=(wr .i64 (((b:Nat):Int)-1))/\(wr .i64 (((b:Nat):Int)-1))<((b:Nat):Int) then (if (a+((wr .i64 (((b:Nat):Int)-1))).toNat)<c.length then ((z0.F u.1 (c.getD (a+((wr .i64 (((b:Nat):Int)-1))).toNat) 0) 0).bind λD=>(bif (decide (D.2=0)) then (if 0<=(wr .i64 (((b:Nat):Int)-2))/\(wr .i64 (((b:Nat):Int)-2))<((b:Nat):Int) then (if (a+((wr .i64 (((b:Nat):Int)-2))).toNat)<c.length then ((z39.F (wr .u64 ((wr .u64 (m.1-1))-1)) (c.getD (a+((wr .i64 (((b:Nat):Int)-2))).toNat) 0)).bind λE=>(bif (decide (E.1<D.1)) then ((z67.l0b3 (d).toNat (((wr .i64 ((wr .i64 (d+((b:Nat):Int)))+1))).toNat-(d).toNat) (wr .u64 ((wr .u64 (m.1-1))-1)) a b ((b:Nat):Int) c ((0:Int),(0:Int),(0:Int),e)).bind λG=>(if 0<=((b:Nat):Int)/\((b:Nat):Int)<(((((wr .i64 ((wr .i64 (d+((b:Nat):Int)))+1))).toNat-(d).toNat):Nat):Int) then (if ((d).toNat+(((b:Nat):Int)).toNat)<G.2.2.2.length then ((z1.F (G.2.2.2.getD ((d).toNat+(((b:Nat):Int)).toNat) 0) G.1 G.2.1).bind λH=>(if 0<=((b:Nat):Int)/\((b:Nat):Int)<(((((wr .i64 ((wr .i64 (d+((b:Nat):Int)))+1))).toNat-(d).toNat):Nat):Int) then (if ((d).toNat+(((b:Nat):Int)).toNat)<G.2.2.2.length then ((z67.l2 a b (d).toNat (((wr .i64 ((wr .i64 (d+((b:Nat):Int)))+1))).toNat-(d).toNat) c ((wr .u64 ((wr .u64 (m.1-1))-1)),H.2,(G.2.2.2.set ((d).toNat+(((b:Nat):Int)).toNat) H.1))).bind λI=>(if 0<=d/\d<(g.length:Int) then (if (d).toNat<g.length then (rec ((wr .i64 (d-1)),I.2.2,(g.set (d).toNat I.1))) else none) else none)) else none) else none)) else none) else none)) else (bif (decide (E.1=D.1)) then (bif (decide (E.2<=(e.getD ((d).toNat+((wr .i64 (((b:Nat):Int)-2))).toNat) 0))) then ((z67.l0b3 (d).toNat (((wr .i64 ((wr .i64 (d+((b:Nat):Int)))+1))).toNat-(d).toNat) (wr .u64 ((wr .u64 (m.1-1))-1)) a b ((b:Nat):Int) c ((0:Int),(0:Int),(0:Int),e)).bind λJ=>(if 0<=((b:Nat):Int)/\((b:Nat):Int)<(((((wr .i64 ((wr .i64 (d+((b:Nat):Int)))+1))).toNat-(d).toNat):Nat):Int) then (if ((d).toNat+(((b:Nat):Int)).toNat)<J.2.2.2.length then ((z1.F (J.2.2.2.getD ((d).toNat+(((b:Nat):Int)).toNat) 0) J.1 J.2.1).bind λK=>(if 0<=((b:Nat):Int)/\((b:Nat):Int)<(((((wr .i64 ((wr .i64 (d+((b:Nat):Int)))+1))).toNat-(d).toNat):Nat):Int) then (if ((d).toNat+(((b:Nat):Int)).toNat)<J.2.2.2.length then ((z67.l2 a b (d).toNat (((wr .i64 ((wr .i64 (d+((b:Nat):Int)))+1))).toNat-(d).toNat) c ((wr .u64 ((wr .u64 (m.1-1))-1)),K.2,(J.2.2.2.set ((d).toNat+(((b:Nat):Int)).toNat) K.1))).bind λL=>(if 0<=d/\d<(g.length:Int) then (if (d).toNat<g.length then (rec ((wr .i64 (d-1)),L.2.2,(g.set (d).toNat L.1))) else none) else none)) else none) else none)) else none) else none)) else (if 0<=(wr .i64 (((b:Nat):Int)-1))/\(wr .i64 (((b:Nat):Int)-1))<((b:Nat):Int) then (if (a+((wr .i64 (((b:Nat):Int)-1))).toNat)<c.length then ((z0.F D.1 (c.getD (a+((wr .i64 (((b:Nat):Int)-1))).toNat) 0) 0).bind λM=>(bif (decide (M.2=0)) then none else ((z67.l0b3 (d).toNat (((wr .i64 ((wr .i64 (d+((b:Nat):Int)))+1))).toNat-(d).toNat) (wr .u64 ((wr .u64 ((wr .u64 (m.1-1))-1))-1)) a b ((b:Nat):Int) c ((0:Int),(0:Int),(0:Int),e)).bind λN=>(if 0<=((b:Nat):Int)/\((b:Nat):Int)<(((((wr .i64 ((wr .i64 (d+((b:Nat):Int)))+1))).toNat-(d).toNat):Nat):Int) then (if ((d).toNat+(((b:Nat):Int)).toNat)<N.2.2.2.length then ((z1.F (N.2.2.2.getD ((d).toNat+(((b:Nat):Int)).toNat) 0) N.1 N.2.1).bind λO=>(if 0<=((b:Nat):Int)/\((b:Nat):Int)<(((((wr .i64 ((wr .i64 (d+((b:Nat):Int)))+1))).toNat-(d).toNat):Nat):Int) then (if ((d).toNat+(((b:Nat):Int)).toNat)<N.2.2.2.length then ((z67.l2 a b (d).toNat (((wr .i64 ((wr .i64 (d+((b:Nat):Int)))+1))).toNat-(d).toNat) c ((wr .u64 ((wr .u64 ((wr .u64 (m.1-1))-1))-1)),O.2,(N.2.2.2.set ((d).toNat+(((b:Nat):Int)).toNat) O.1))).bind λP=>(if 0<=d/\d<(g.length:Int) then (if (d).toNat<g.length then (rec ((wr .i64 (d-1)),P.2.2,(g.set (d).toNat P.1))) else none) else none)) else none) else none)) else none) else none)))) else none) else none)) else (if 0<=(wr .i64 (((b:Nat):Int)-1))/\(wr .i64 (((b:Nat):Int)-1))<((b:Nat):Int) then (if (a+((wr .i64 (((b:Nat):Int)-1))).toNat)<c.length then ((z0.F D.1 (c.getD (a+((wr .i64 (((b:Nat):Int)-1))).toNat) 0) 0).bind λQ=>(bif (decide (Q.2=0)) then none else ((z67.l0b3 (d).toNat (((wr .i64 ((wr .i64 (d+((b:Nat):Int)))+1))).toNat-(d).toNat) (wr .u64 ((wr .u64 ((wr .u64 (m.1-1))-1))-1)) a b ((b:Nat):Int) c ((0:Int),(0:Int),(0:Int),e)).bind λS=>(if 0<=((b:Nat):Int)/\((b:Nat):Int)<(((((wr .i64 ((wr .i64 (d+((b:Nat):Int)))+1))).toNat-(d).toNat):Nat):Int) then (if ((d).toNat+(((b:Nat):Int)).toNat)<S.2.2.2.length then ((z1.F (S.2.2.2.getD ((d).toNat+(((b:Nat):Int)).toNat) 0) S.1 S.2.1).bind λU=>(if 0<=((b:Nat):Int)/\((b:Nat):Int)<(((((wr .i64 ((wr .i64 (d+((b:Nat):Int)))+1))).toNat-(d).toNat):Nat):Int) then (if ((d).toNat+(((b:Nat):Int)).toNat)<S.2.2.2.length then ((z67.l2 a b (d).toNat (((wr .i64 ((wr .i64 (d+((b:Nat):Int)))+1))).toNat-(d).toNat) c ((wr .u64 ((wr .u64 ((wr .u64 (m.1-1))-1))-1)),U.2,(S.2.2.2.set ((d).toNat+(((b:Nat):Int)).toNat) U.1))).bind λW=>(if 0<=d/\d<(g.length:Int) then (if (d).toNat<g.length then (rec ((wr .i64 (d-1)),W.2.2,(g.set (d).toNat W.1))) else none) else none)) else none) else none)) else none) else none)))) else none) else none)))) else none) else none) else ((z67.l0b3 (d).toNat (((wr .i64 ((wr .i64 (d+((b:Nat):Int)))+1))).toNat-(d).toNat) (wr .u64 ((wr .u64 (m.1-1))-1)) a b ((b:Nat):Int) c ((0:Int),(0:Int),(0:Int),e)).bind λY=>(if 0<=((b:Nat):Int)/\((b:Nat):Int)<(((((wr .i64 ((wr .i64 (d+((b:Nat):Int)))+1))).toNat-(d).toNat):Nat):Int) then (if ((d).toNat+(((b:Nat):Int)).toNat)<Y.2.2.2.length then ((z1.F (Y.2.2.2.getD ((d).toNat+(((b:Nat):Int)).toNat) 0) Y.1 Y.2.1).bind λZ=>(if 0<=((b:Nat):Int)/\((b:Nat):Int)<(((((wr .i64 ((wr .i64 (d+((b:Nat):Int)))+1))).toNat-(d).toNat):Nat):Int) then (if ((d).toNat+(((b:Nat):Int)).toNat)<Y.2.2.2.length then ((z67.l2 a b (d).toNat (((wr .i64 ((wr .i64 (d+((b:Nat):Int)))+1))).toNat-(d).toNat) c ((wr .u64 ((wr .u64 (m.1-1))-1)),Z.2,(Y.2.2.2.set ((d).toNat+(((b:Nat):Int)).toNat) Z.1))).bind λa0=>(if 0<=d/\d<(g.length:Int) then (if (d).toNat<g.length then (rec ((wr .i64 (d-1)),a0.2.2,(g.set (d).toNat a0.1))) else none) else none)) else none) else none)) else none) else none)))) else none) else none)) else (if 0<=(wr .i64 (((b:Nat):Int)-1))/\(wr .i64 (((b:Nat):Int)-1))<((b:Nat):Int) then (if (a+((wr .i64 (((b:Nat):Int)-1))).toNat)<c.length then ((z0.F u.1 (c.getD (a+((wr .i64 (((b:Nat):Int)-1))).toNat) 0) 0).bind λa1=>(bif (decide (a1.2=0)) then (if 0<=(wr .i64 (((b:Nat):Int)-2))/\(wr .i64 (((b:Nat):Int)-2))<((b:Nat):Int) then (if (a+((wr .i64 (((b:Nat):Int)-2))).toNat)<c.length then ((z39.F (wr .u64 ((wr .u64 (m.1-1))-1)) (c.getD (a+((wr .i64 (((b:Nat):Int)-2))).toNat) 0)).bind λa2=>(bif (decide (a2.1<a1.1)) then ((z67.l0b3 (d).toNat (((wr .i64 ((wr .i64 (d+((b:Nat):Int)))+1))).toNat-(d).toNat) (wr .u64 ((wr .u64 (m.1-1))-1)) a b ((b:Nat):Int) c ((0:Int),(0:Int),(0:Int),e)).bind λa3=>(if 0<=((b:Nat):Int)/\((b:Nat):Int)<(((((wr .i64 ((wr .i64 (d+((b:Nat):Int)))+1))).toNat-(d).toNat):Nat):Int) then (if ((d).toNat+(((b:Nat):Int)).toNat)<a3.2.2.2.length then ((z1.F (a3.2.2.2.getD ((d).toNat+(((b:Nat):Int)).toNat) 0) a3.1 a3.2.1).bind λa4=>(if 0<=((b:Nat):Int)/\((b:Nat):Int)<(((((wr .i64 ((wr .i64 (d+((b:Nat):Int)))+1))).toNat-(d).toNat):Nat):Int) then (if ((d).toNat+(((b:Nat):Int)).toNat)<a3.2.2.2.length then ((z67.l2 a b (d).toNat (((wr .i64 ((wr .i64 (d+((b:Nat):Int)))+1))).toNat-(d).toNat) c ((wr .u64 ((wr .u64 (m.1-1))-1)),a4.2,(a3.2.2.2.set ((d).toNat+(((b:Nat):Int)).toNat) a4.1))).bind λa5=>(if 0<=d/\d<(g.length:Int) then (if (d).toNat<g.length then (rec ((wr .i64 (d-1)),a5.2.2,(g.set (d).toNat a5.1))) else none) else none)) else none) else none)) else none) else none)) else (bif (decide (a2.1=a1.1)) then (bif (decide (a2.2<=(e.getD ((d).toNat+((wr .i64 (((b:Nat):Int)-2))).toNat) 0))) then ((z67.l0b3 (d).toNat (((wr .i64 ((wr .i64 (d+((b:Nat):Int)))+1))).toNat-(d).toNat) (wr .u64 ((wr .u64 (m.1-1))-1)) a b ((b:Nat):Int) c ((0:Int),(0:Int),(0:Int),e)).bind λa6=>(if 0<=((b:Nat):Int)/\((b:Nat):Int)<(((((wr .i64 ((wr .i64 (d+((b:Nat):Int)))+1))).toNat-(d).toNat):Nat):Int) then (if ((d).toNat+(((b:Nat):Int)).toNat)<a6.2.2.2.length then ((z1.F (a6.2.2.2.getD ((d).toNat+(((b:Nat):Int)).toNat) 0) a6.1 a6.2.1).bind λa7=>(if 0<=((b:Nat):Int)/\((b:Nat):Int)<(((((wr .i64 ((wr .i64 (d+((b:Nat):Int)))+1))).toNat-(d).toNat):Nat):Int) then (if ((d).toNat+(((b:Nat):Int)).toNat)<a6.2.2.2.length then ((z67.l2 a b (d).toNat (((wr .i64 ((wr .i64 (d+((b:Nat):Int)))+1))).toNat-(d).toNat) c ((wr .u64 ((wr .u64 (m.1-1))-1)),a7.2,(a6.2.2.2.set ((d).toNat+(((b:Nat):Int)).toNat) a7.1))).bind λa8=>(if 0<=d/\d<(g.length:Int) then (if (d).toNat<g.length then (rec ((wr .i64 (d-1)),a8.2.2,(g.set (d).toNat a8.1))) else none) else none)) else none) else none)) else none) else none)) else (if 0<=(wr .i64 (((b:Nat):Int)-1))/\(wr .i64 (((b:Nat):Int)-1))<((b:Nat):Int) then (if (a+((wr .i64 (((b:Nat):Int)-1))).toNat)<c.length then ((z0.F a1.1 (c.getD (a+((wr .i64 (((b:Nat):Int)-1))).toNat) 0) 0).bind λa9=>(bif (decide (a9.2=0)) then none else ((z67.l0b3 (d).toNat (((wr .i64 ((wr .i64 (d+((b:Nat):Int)))+1))).toNat-(d).toNat) (wr .u64 ((wr .u64 ((wr .u64 (m.1-1))-1))-1)) a b ((b:Nat):Int) c ((0:Int),(0:Int),(0:Int),e)).bind λb0=>(if 0<=((b:Nat):Int)/\((b:Nat):Int)<(((((wr .i64 ((wr .i64 (d+((b:Nat):Int)))+1))).toNat-(d).toNat):Nat):Int) then (if ((d).toNat+(((b:Nat):Int)).toNat)<b0.2.2.2.length then ((z1.F (b0.2.2.2.getD ((d).toNat+(((b:Nat):Int)).toNat) 0) b0.1 b0.2.1).bind λb1=>(if 0<=((b:Nat):Int)/\((b:Nat):Int)<(((((wr .i64 ((wr .i64 (d+((b:Nat):Int)))+1))).toNat-(d).toNat):Nat):Int) then (if ((d).toNat+(((b:Nat):Int)).toNat)<b0.2.2.2.length then ((z67.l2 a b (d).toNat (((wr .i64 ((wr .i64 (d+((b:Nat):Int)))+1))).toNat-(d).toNat) c ((wr .u64 ((wr .u64 ((wr .u64 (m.1-1))-1))-1)),b1.2,(b0.2.2.2.set ((d).toNat+(((b:Nat):Int)).toNat) b1.1))).bind λb2=>(if 0<=d/\d<(g.length:Int) then (if (d).toNat<g.length then (rec ((wr .i64 (d-1)),b2.2.2,(g.set (d).toNat b2.1))) else none) else none)) else none) else none)) else none) else none)))) else none) else none)) else (if 0<=(wr .i64 (((b:Nat):Int)-1))/\(wr .i64 (((b:Nat):Int)-1))<((b:Nat):Int) then (if (a+((wr .i64 (((b:Nat):Int)-1))).toNat)<c.length then ((z0.F a1.1 (c.getD (a+((wr .i64 (((b:Nat):Int)-1))).toNat) 0) 0).bind λb3=>(bif (decide (b3.2=0)) then none else ((z67.l0b3 (d).toNat (((wr .i64 ((wr .i64 (d+((b:Nat):Int)))+1))).toNat-(d).toNat) (wr .u64 ((wr .u64 ((wr .u64 (m.1-1))-1))-1)) a b ((b:Nat):Int) c ((0:Int),(0:Int),(0:Int),e)).bind λb4=>(if 0<=((b:Nat):Int)/\((b:Nat):Int)<(((((wr .i64 ((wr .i64 (d+((b:Nat):Int)))+1))).toNat-(d).toNat):Nat):Int) then (if ((d).toNat+(((b:Nat):Int)).toNat)<b4.2.2.2.length then ((z1.F (b4.2.2.2.getD ((d).toNat+(((b:Nat):Int)).toNat) 0) b4.1 b4.2.1).bind λb5=>(if 0<=((b:Nat):Int)/\((b:Nat):Int)<(((((wr .i64 ((wr .i64 (d+((b:Nat):Int)))+1))).toNat-(d).toNat):Nat):Int) then (if ((d).toNat+(((b:Nat):Int)).toNat)<b4.2.2.2.length then ((z67.l2 a b (d).toNat (((wr .i64 ((wr .i64 (d+((b:Nat):Int)))+1))).toNat-(d).toNat) c ((wr .u64 ((wr .u64 ((wr .u64 (m.1-1))-1))-1)),b5.2,(b4.2.2.2.set ((d).toNat+(((b:Nat):Int)).toNat) b5.1))).bind λb6=>(if 0<=d/\d<(g.length:Int) then (if (d).toNat<g.length then (rec ((wr .i64 (d-1)),b6.2.2,(g.set (d).toNat b6.1))) else none) else none)) else none) else none)) else none) else none)))) else none) else none)))) else none) else none) else ((z67.l0b3 (d).toNat (((wr .i64 ((wr .i64 (d+((b:Nat):Int)))+1))).toNat-(d).toNat) (wr .u64 ((wr .u64 (m.1-1))-1)) a b ((b:Nat):Int) c ((0:Int),(0:Int),(0:Int),e)).bind λb7=>(if 0<=((b:Nat):Int)/\((b:Nat):Int)<(((((wr .i64 ((wr .i64 (d+((b:Nat):Int)))+1))).toNat-(d).toNat):Nat):Int) then (if ((d).toNat+(((b:Nat):Int)).toNat)<b7.2.2.2.length then ((z1.F (b7.2.2.2.getD ((d).toNat+(((b:Nat):Int)).toNat) 0) b7.1 b7.2.1).bind λb8=>(if 0<=((b:Nat):Int)/\((b:Nat):Int)<(((((wr .i64 ((wr .i64 (d+((b:Nat):Int)))+1))).toNat-(d).toNat):Nat):Int) then (if ((d).toNat+(((b:Nat):Int)).toNat)<b7.2.2.2.length then ((z67.l2 a b (d).toNat (((wr .i64 ((wr .i64 (d+((b:Nat):Int)))+1))).toNat-(d).toNat) c ((wr .u64 ((wr .u64 (m.1-1))-1)),b8.2,(b7.2.2.2.set ((d).toNat+(((b:Nat):Int)).toNat) b8.1))).bind λb9=>(if 0<=d/\d<(g.length:Int) then (if (d).toNat<g.length then (rec ((wr .i64 (d-1)),b9.2.2,(g.set (d).toNat b9.1))) else none) else none)) else none) else none)) else none) else none)))) else none) else none)))) else none) else none) else ((z67.l0b3 (d).toNat (((wr .i64 ((wr .i64 (d+((b:Nat):Int)))+1))).toNat-(d).toNat) (wr .u64 (m.1-1)) a b ((b:Nat):Int) c ((0:Int),(0:Int),(0:Int),e)).bind λc0=>(if 0<=((b:Nat):Int)/\((b:Nat):Int)<(((((wr .i64 ((wr .i64 (d+((b:Nat):Int)))+1))).toNat-(d).toNat):Nat):Int) then (if ((d).toNat+(((b:Nat):Int)).toNat)<c0.2.2.2.length then ((z1.F (c0.2.2.2.getD ((d).toNat+(((b:Nat):Int)).toNat) 0) c0.1 c0.2.1).bind λc1=>(if 0<=((b:Nat):Int)/\((b:Nat):Int)<(((((wr .i64 ((wr .i64 (d+((b:Nat):Int)))+1))).toNat-(d).toNat):Nat):Int) then (if ((d).toNat+(((b:Nat):Int)).toNat)<c0.2.2.2.length then ((z67.l2 a b (d).toNat (((wr .i64 ((wr .i64 (d+((b:Nat):Int)))+1))).toNat-(d).toNat) c ((wr .u64 (m.1-1)),c1.2,(c0.2.2.2.set ((d).toNat+(((b:Nat):Int)).toNat) c1.1))).bind λc2=>(if 0<=d/\d<(g.length:Int) then (if (d).toNat<g.length then (rec ((wr .i64 (d-1)),c2.2.2,(g.set (d).toNat c2.1))) else none) else none)) else none) else none)) else none) else none)))) else none) else none)) else (if 0<=(wr .i64 (((b:Nat):Int)-1))/\(wr .i64 (((b:Nat):Int)-1))<((b:Nat):Int) then (if (a+((wr .i64 (((b:Nat):Int)-1))).toNat)<c.length then ((z0.F m.2 (c.getD (a+((wr .i64 (((b:Nat):Int)-1))).toNat) 0) 0).bind λc3=>(bif (decide (c3.2=0)) then (if 0<=(wr .i64 (((b:Nat):Int)-2))/\(wr .i64 (((b:Nat):Int)-2))<((b:Nat):Int) then (if (a+((wr .i64 (((b:Nat):Int)-2))).toNat)<c.length then ((z39.F (wr .u64 (m.1-1)) (c.getD (a+((wr .i64 (((b:Nat):Int)-2))).toNat) 0)).bind λc4=>(bif (decide (c4.1<c3.1)) then ((z67.l0b3 (d).toNat (((wr .i64 ((wr .i64 (d+((b:Nat):Int)))+1))).toNat-(d).toNat) (wr .u64 (m.1-1)) a b ((b:Nat):Int) c ((0:Int),(0:Int),(0:Int),e)).bind λc5=>(if 0<=((b:Nat):Int)/\((b:Nat):Int)<(((((wr .i64 ((wr .i64 (d+((b:Nat):Int)))+1))).toNat-(d).toNat):Nat):Int) then (if ((d).toNat+(((b:Nat):Int)).toNat)<c5.2.2.2.length then ((z1.F (c5.2.2.2.getD ((d).toNat+(((b:Nat):Int)).toNat) 0) c5.1 c5.2.1).bind λc6=>(if 0<=((b:Nat):Int)/\((b:Nat):Int)<(((((wr .i64 ((wr .i64 (d+((b:Nat):Int)))+1))).toNat-(d).toNat):Nat):Int) then (if ((d).toNat+(((b:Nat):Int)).toNat)<c5.2.2.2.length then ((z67.l2 a b (d).toNat (((wr .i64 ((wr .i64 (d+((b:Nat):Int)))+1))).toNat-(d).toNat) c ((wr .u64 (m.1-1)),c6.2,(c5.2.2.2.set ((d).toNat+(((b:Nat):Int)).toNat) c6.1))).bind λc7=>(if 0<=d/\d<(g.length:Int) then (if (d).toNat<g.length then (rec ((wr .i64 (d-1)),c7.2.2,(g.set (d).toNat c7.1))) else none) else none)) else none) else none)) else none) else none)) else (bif (decide (c4.1=c3.1)) then (bif (decide (c4.2<=(e.getD ((d).toNat+((wr .i64 (((b:Nat):Int)-2))).toNat) 0))) then ((z67.l0b3 (d).toNat (((wr .i64 ((wr .i64 (d+((b:Nat):Int)))+1))).toNat-(d).toNat) (wr .u64 (m.1-1)) a b ((b:Nat):Int) c ((0:Int),(0:Int),(0:Int),e)).bind λc8=>(if 0<=((b:Nat):Int)/\((b:Nat):Int)<(((((wr .i64 ((wr .i64 (d+((b:Nat):Int)))+1))).toNat-(d).toNat):Nat):Int) then (if ((d).toNat+(((b:Nat):Int)).toNat)<c8.2.2.2.length then ((z1.F (c8.2.2.2.getD ((d).toNat+(((b:Nat):Int)).toNat) 0) c8.1 c8.2.1).bind λc9=>(if 0<=((b:Nat):Int)/\((b:Nat):Int)<(((((wr .i64 ((wr .i64 (d+((b:Nat):Int)))+1))).toNat-(d).toNat):Nat):Int) then (if ((d).toNat+(((b:Nat):Int)).toNat)<c8.2.2.2.length then ((z67.l2 a b (d).toNat (((wr .i64 ((wr .i64 (d+((b:Nat):Int)))+1))).toNat-(d).toNat) c ((wr .u64 (m.1-1)),c9.2,(c8.2.2.2.set ((d).toNat+(((b:Nat):Int)).toNat) c9.1))).bind λd0=>(if 0<=d/\d<(g.length:Int) then (if (d).toNat<g.length then (rec ((wr .i64 (d-1)),d0.2.2,(g.set (d).toNat d0.1))) else none) else none)) else none) else none)) else none) else none)) else (if 0<=(wr .i64 (((b:Nat):Int)-1))/\(wr .i64 (((b:Nat):Int)-1))<((b:Nat):Int) then (if (a+((wr .i64 (((b:Nat):Int)-1))).toNat)<c.length then ((z0.F c3.1 (c.getD (a+((wr .i64 (((b:Nat):Int)-1))).toNat) 0) 0).bind λd1=>(bif (decide (d1.2=0)) then (if 0<=(wr .i64 (((b:Nat):Int)-2))/\(wr .i64 (((b:Nat):Int)-2))<((b:Nat):Int) then (if (a+((wr .i64 (((b:Nat):Int)-2))).toNat)<c.length then ((z39.F (wr .u64 ((wr .u64 (m.1-1))-1)) (c.getD (a+((wr .i64 (((b:Nat):Int)-2))).toNat) 0)).bind λd2=>(bif (decide (d2.1<d1.1)) then ((z67.l0b3 (d).toNat (((wr .i64 ((wr .i64 (d+((b:Nat):Int)))+1))).toNat-(d).toNat) (wr .u64 ((wr .u64 (m.1-1))-1)) a b ((b:Nat):Int) c ((0:Int),(0:Int),(0:Int),e)).bind λd3=>(if 0<=((b:Nat):Int)/\((b:Nat):Int)<(((((wr .i64 ((wr .i64 (d+((b:Nat):Int)))+1))).toNat-(d).toNat):Nat):Int) then (if ((d).toNat+(((b:Nat):Int)).toNat)<d3.2.2.2.length then ((z1.F (d3.2.2.2.getD ((d).toNat+(((b:Nat):Int)).toNat) 0) d3.1 d3.2.1).bind λd4=>(if 0<=((b:Nat):Int)/\((b:Nat):Int)<(((((wr .i64 ((wr .i64 (d+((b:Nat):Int)))+1))).toNat-(d).toNat):Nat):Int) then (if ((d).toNat+(((b:Nat):Int)).toNat)<d3.2.2.2.length then ((z67.l2 a b (d).toNat (((wr .i64 ((wr .i64 (d+((b:Nat):Int)))+1))).toNat-(d).toNat) c ((wr .u64 ((wr .u64 (m.1-1))-1)),d4.2,(d3.2.2.2.set ((d).toNat+(((b:Nat):Int)).toNat) d4.1))).bind λd5=>(if 0<=d/\d<(g.length:Int) then (if (d).toNat<g.length then (rec ((wr .i64 (d-1)),d5.2.2,(g.set (d).toNat d5.1))) else none) else none)) else none) else none)) else none) else none)) else (bif (decide (d2.1=d1.1)) then (bif (decide (d2.2<=(e.getD ((d).toNat+((wr .i64 (((b:Nat):Int)-2))).toNat) 0))) then ((z67.l0b3 (d).toNat (((wr .i64 ((wr .i64 (d+((b:Nat):Int)))+1))).toNat-(d).toNat) (wr .u64 ((wr .u64 (m.1-1))-1)) a b ((b:Nat):Int) c ((0:Int),(0:Int),(0:Int),e)).bind λd6=>(if 0<=((b:Nat):Int)/\((b:Nat):Int)<(((((wr .i64 ((wr .i64 (d+((b:Nat):Int)))+1))).toNat-(d).toNat):Nat):Int) then (if ((d).toNat+(((b:Nat):Int)).toNat)<d6.2.2.2.length then ((z1.F (d6.2.2.2.getD ((d).toNat+(((b:Nat):Int)).toNat) 0) d6.1 d6.2.1).bind λd7=>(if 0<=((b:Nat):Int)/\((b:Nat):Int)<(((((wr .i64 ((wr .i64 (d+((b:Nat):Int)))+1))).toNat-(d).toNat):Nat):Int) then (if ((d).toNat+(((b:Nat):Int)).toNat)<d6.2.2.2.length then ((z67.l2 a b (d).toNat (((wr .i64 ((wr .i64 (d+((b:Nat):Int)))+1))).toNat-(d).toNat) c ((wr .u64 ((wr .u64 (m.1-1))-1)),d7.2,(d6.2.2.2.set ((d).toNat+(((b:Nat):Int)).toNat) d7.1))).bind λd8=>(if 0<=d/\d<(g.length:Int) then (if (d).toNat<g.length then (rec ((wr .i64 (d-1)),d8.2.2,(g.set (d).toNat d8.1))) else none) else none)) else none) else none)) else none) else none)) else (if 0<=(wr .i64 (((b:Nat):Int)-1))/\(wr .i64 (((b:Nat):Int)-1))<((b:Nat):Int) then (if (a+((wr .i64 (((b:Nat):Int)-1))).toNat)<c.length then ((z0.F d1.1 (c.getD (a+((wr .i64 (((b:Nat):Int)-1))).toNat) 0) 0).bind λd9=>(bif (decide (d9.2=0)) then none else ((z67.l0b3 (d).toNat (((wr .i64 ((wr .i64 (d+((b:Nat):Int)))+1))).toNat-(d).toNat) (wr .u64 ((wr .u64 ((wr .u64 (m.1-1))-1))-1)) a b ((b:Nat):Int) c ((0:Int),(0:Int),(0:Int),e)).bind λe0=>(if 0<=((b:Nat):Int)/\((b:Nat):Int)<(((((wr .i64 ((wr .i64 (d+((b:Nat):Int)))+1))).toNat-(d).toNat):Nat):Int) then (if ((d).toNat+(((b:Nat):Int)).toNat)<e0.2.2.2.length then ((z1.F (e0.2.2.2.getD ((d).toNat+(((b:Nat):Int)).toNat) 0) e0.1 e0.2.1).bind λe1=>(if 0<=((b:Nat):Int)/\((b:Nat):Int)<(((((wr .i64 ((wr .i64 (d+((b:Nat):Int)))+1))).toNat-(d).toNat):Nat):Int) then (if ((d).toNat+(((b:Nat):Int)).toNat)<e0.2.2.2.length then ((z67.l2 a b (d).toNat (((wr .i64 ((wr .i64 (d+((b:Nat):Int)))+1))).toNat-(d).toNat) c ((wr .u64 ((wr .u64 ((wr .u64 (m.1-1))-1))-1)),e1.2,(e0.2.2.2.set ((d).toNat+(((b:Nat):Int)).toNat) e1.1))).bind λe2=>(if 0<=d/\d<(g.length:Int) then (if (d).toNat<g.length then (rec ((wr .i64 (d-1)),e2.2.2,(g.set (d).toNat e2.1))) else none) else none)) else none) else none)) else none) else none)))) else none) else none)) else (if 0<=(wr .i64 (((b:Nat):Int)-1))/\(wr .i64 (((b:Nat):Int)-1))<((b:Nat):Int) then (if (a+((wr .i64 (((b:Nat):Int)-1))).toNat)<c.length then ((z0.F d1.1 (c.getD (a+((wr .i64 (((b:Nat):Int)-1))).toNat) 0) 0).bind λe3=>(bif (decide (e3.2=0)) then none else ((z67.l0b3 (d).toNat (((wr .i64 ((wr .i64 (d+((b:Nat):Int)))+1))).toNat-(d).toNat) (wr .u64 ((wr .u64 ((wr .u64 (m.1-1))-1))-1)) a b ((b:Nat):Int) c ((0:Int),(0:Int),(0:Int),e)).bind λe4=>(if 0<=((b:Nat):Int)/\((b:Nat):Int)<(((((wr .i64 ((wr .i64 (d+((b:Nat):Int)))+1))).toNat-(d).toNat):Nat):Int) then (if ((d).toNat+(((b:Nat):Int)).toNat)<e4.2.2.2.length then ((z1.F (e4.2.2.2.getD ((d).toNat+(((b:Nat):Int)).toNat) 0) e4.1 e4.2.1).bind λe5=>(if 0<=((b:Nat):Int)/\((b:Nat):Int)<(((((wr .i64 ((wr .i64 (d+((b:Nat):Int)))+1))).toNat-(d).toNat):Nat):Int) then (if ((d).toNat+(((b:Nat):Int)).toNat)<e4.2.2.2.length then ((z67.l2 a b (d).toNat (((wr .i64 ((wr .i64 (d+((b:Nat):Int)))+1))).toNat-(d).toNat) c ((wr .u64 ((wr .u64 ((wr .u64 (m.1-1))-1))-1)),e5.2,(e4.2.2.2.set ((d).toNat+(((b:Nat):Int)).toNat) e5.1))).bind λe6=>(if 0<=d/\d<(g.length:Int) then (if (d).toNat<g.length then (rec ((wr .i64 (d-1)),e6.2.2,(g.set (d).toNat e6.1))) else none) else none)) else none) else none)) else none) else none)))) else none) else none)))) else none) else none) else ((z67.l0b3 (d).toNat (((wr .i64 ((wr .i64 (d+((b:Nat):Int)))+1))).toNat-(d).toNat) (wr .u64 ((wr .u64 (m.1-1))-1)) a b ((b:Nat):Int) c ((0:Int),(0:Int),(0:Int),e)).bind λe7=>(if 0<=((b:Nat):Int)/\((b:Nat):Int)<(((((wr .i64 ((wr .i64 (d+((b:Nat):Int)))+1))).toNat-(d).toNat):Nat):Int) then (if ((d).toNat+(((b:Nat):Int)).toNat)<e7.2.2.2.length then ((z1.F (e7.2.2.2.getD ((d).toNat+(((b:Nat):Int)).toNat) 0) e7.1 e7.2.1).bind λe8=>(if 0<=((b:Nat):Int)/\((b:Nat):Int)<(((((wr .i64 ((wr .i64 (d+((b:Nat):Int)))+1))).toNat-(d).toNat):Nat):Int) then (if ((d).toNat+(((b:Nat):Int)).toNat)<e7.2.2.2.length then ((z67.l2 a b (d).toNat (((wr .i64 ((wr .i64 (d+((b:Nat):Int)))+1))).toNat-(d).toNat) c ((wr .u64 ((wr .u64 (m.1-1))-1)),e8.2,(e7.2.2.2.set ((d).toNat+(((b:Nat):Int)).toNat) e8.1))).bind λe9=>(if 0<=d/\d<(g.length:Int) then (if (d).toNat<g.length then (rec ((wr .i64 (d-1)),e9.2.2,(g.set (d).toNat e9.1))) else none) else none)) else none) else none)) else none) else none)))) else none) else none)) else (if 0<=(wr .i64 (((b:Nat):Int)-1))/\(wr .i64 (((b:Nat):Int)-1))<((b:Nat):Int) then (if (a+((wr .i64 (((b:Nat):Int)-1))).toNat)<c.length then ((z0.F c3.1 (c.getD (a+((wr .i64 (((b:Nat):Int)-1))).toNat) 0) 0).bind λg0=>(bif (decide (g0.2=0)) then (if 0<=(wr .i64 (((b:Nat):Int)-2))/\(wr .i64 (((b:Nat):Int)-2))<((b:Nat):Int) then (if (a+((wr .i64 (((b:Nat):Int)-2))).toNat)<c.length then ((z39.F (wr .u64 ((wr .u64 (m.1-1))-1)) (c.getD (a+((wr .i64 (((b:Nat):Int)-2))).toNat) 0)).bind λg1=>(bif (decide (g1.1<g0.1)) then ((z67.l0b3 (d).toNat (((wr .i64 ((wr .i64 (d+((b:Nat):Int)))+1))).toNat-(d).toNat) (wr .u64 ((wr .u64 (m.1-1))-1)) a b ((b:Nat):Int) c ((0:Int),(0:Int),(0:Int),e)).bind λg2=>(if 0<=((b:Nat):Int)/\((b:Nat):Int)<(((((wr .i64 ((wr .i64 (d+((b:Nat):Int)))+1))).toNat-(d).toNat):Nat):Int) then (if ((d).toNat+(((b:Nat):Int)).toNat)<g2.2.2.2.length then ((z1.F (g2.2.2.2.getD ((d).toNat+(((b:Nat):Int)).toNat) 0) g2.1 g2.2.1).bind λg3=>(if 0<=((b:Nat):Int)/\((b:Nat):Int)<(((((wr .i64 ((wr .i64 (d+((b:Nat):Int)))+1))).toNat-(d).toNat):Nat):Int) then (if ((d).toNat+(((b:Nat):Int)).toNat)<g2.2.2.2.length then ((z67.l2 a b (d).toNat (((wr .i64 ((wr .i64 (d+((b:Nat):Int)))+1))).toNat-(d).toNat) c ((wr .u64 ((wr .u64 (m.1-1))-1)),g3.2,(g2.2.2.2.set ((d).toNat+(((b:Nat):Int)).toNat) g3.1))).bind λg4=>(if 0<=d/\d<(g.length:Int) then (if (d).toNat<g.length then (rec ((wr .i64 (d-1)),g4.2.2,(g.set (d).toNat g4.1))) else none) else none)) else none) else none)) else none) else none)) else (bif (decide (g1.1=g0.1)) then (bif (decide (g1.2<=(e.getD ((d).toNat+((wr .i64 (((b:Nat):Int)-2))).toNat) 0))) then ((z67.l0b3 (d).toNat (((wr .i64 ((wr .i64 (d+((b:Nat):Int)))+1))).toNat-(d).toNat) (wr .u64 ((wr .u64 (m.1-1))-1)) a b ((b:Nat):Int) c ((0:Int),(0:Int),(0:Int),e)).bind λg5=>(if 0<=((b:Nat):Int)/\((b:Nat):Int)<(((((wr .i64 ((wr .i64 (d+((b:Nat):Int)))+1))).toNat-(d).toNat):Nat):Int) then (if ((d).toNat+(((b:Nat):Int)).toNat)<g5.2.2.2.length then ((z1.F (g5.2.2.2.getD ((d).toNat+(((b:Nat):Int)).toNat) 0) g5.1 g5.2.1).bind λg6=>(if 0<=((b:Nat):Int)/\((b:Nat):Int)<(((((wr .i64 ((wr .i64 (d+((b:Nat):Int)))+1))).toNat-(d).toNat):Nat):Int) then (if ((d).toNat+(((b:Nat):Int)).toNat)<g5.2.2.2.length then ((z67.l2 a b (d).toNat (((wr .i64 ((wr .i64 (d+((b:Nat):Int)))+1))).toNat-(d).toNat) c ((wr .u64 ((wr .u64 (m.1-1))-1)),g6.2,(g5.2.2.2.set ((d).toNat+(((b:Nat):Int)).toNat) g6.1))).bind λg7=>(if 0<=d/\d<(g.length:Int) then (if (d).toNat<g.length then (rec ((wr .i64 (d-1)),g7.2.2,(g.set (d).toNat g7.1))) else none) else none)) else none) else none)) else none) else none)) else (if 0<=(wr .i64 (((b:Nat):Int)-1))/\(wr .i64 (((b:Nat):Int)-1))<((b:Nat):Int) then (if (a+((wr .i64 (((b:Nat):Int)-1))).toNat)<c.length then ((z0.F g0.1 (c.getD (a+((wr .i64 (((b:Nat):Int)-1))).toNat) 0) 0).bind λg8=>(bif (decide (g8.2=0)) then none else ((z67.l0b3 (d).toNat (((wr .i64 ((wr .i64 (d+((b:Nat):Int)))+1))).toNat-(d).toNat) (wr .u64 ((wr .u64 ((wr .u64 (m.1-1))-1))-1)) a b ((b:Nat):Int) c ((0:Int),(0:Int),(0:Int),e)).bind λg9=>(if 0<=((b:Nat):Int)/\((b:Nat):Int)<(((((wr .i64 ((wr .i64 (d+((b:Nat):Int)))+1))).toNat-(d).toNat):Nat):Int) then (if ((d).toNat+(((b:Nat):Int)).toNat)<g9.2.2.2.length then ((z1.F (g9.2.2.2.getD ((d).toNat+(((b:Nat):Int)).toNat) 0) g9.1 g9.2.1).bind λh0=>(if 0<=((b:Nat):Int)/\((b:Nat):Int)<(((((wr .i64 ((wr .i64 (d+((b:Nat):Int)))+1))).toNat-(d).toNat):Nat):Int) then (if ((d).toNat+(((b:Nat):Int)).toNat)<g9.2.2.2.length then ((z67.l2 a b (d).toNat (((wr .i64 ((wr .i64 (d+((b:Nat):Int)))+1))).toNat-(d).toNat) c ((wr .u64 ((wr .u64 ((wr .u64 (m.1-1))-1))-1)),h0.2,(g9.2.2.2.set ((d).toNat+(((b:Nat):Int)).toNat) h0.1))).bind λh1=>(if 0<=d/\d<(g.length:Int) then (if (d).toNat<g.length then (rec ((wr .i64 (d-1)),h1.2.2,(g.set (d).toNat h1.1))) else none) else none)) else none) else none)) else none) else none)))) else none) else none)) else (if 0<=(wr .i64 (((b:Nat):Int)-1))/\(wr .i64 (((b:Nat):Int)-1))<((b:Nat):Int) then (if (a+((wr .i64 (((b:Nat):Int)-1))).toNat)<c.length then ((z0.F g0.1 (c.getD (a+((wr .i64 (((b:Nat):Int)-1))).toNat) 0) 0).bind λh2=>(bif (decide (h2.2=0)) then none else ((z67.l0b3 (d).toNat (((wr .i64 ((wr .i64 (d+((b:Nat):Int)))+1))).toNat-(d).toNat) (wr .u64 ((wr .u64 ((wr .u64 (m.1-1))-1))-1)) a b ((b:Nat):Int) c ((0:Int),(0:Int),(0:Int),e)).bind λh3=>(if 0<=((b:Nat):Int)/\((b:Nat):Int)<(((((wr .i64 ((wr .i64 (d+((b:Nat):Int)))+1))).toNat-(d).toNat):Nat):Int) then (if ((d).toNat+(((b:Nat):Int)).toNat)<h3.2.2.2.length then ((z1.F (h3.2.2.2.getD ((d).toNat+(((b:Nat):Int)).toNat) 0) h3.1 h3.2.1).bind λh4=>(if 0<=((b:Nat):Int)/\((b:Nat):Int)<(((((wr .i64 ((wr .i64 (d+((b:Nat):Int)))+1))).toNat-(d).toNat):Nat):Int) then (if ((d).toNat+(((b:Nat):Int)).toNat)<h3.2.2.2.length then ((z67.l2 a b (d).toNat (((wr .i64 ((wr .i64 (d+((b:Nat):Int)))+1))).toNat-(d).toNat) c ((wr .u64 ((wr .u64 ((wr .u64 (m.1-1))-1))-1)),h4.2,(h3.2.2.2.set ((d).toNat+(((b:Nat):Int)).toNat) h4.1))).bind λh5=>(if 0<=d/\d<(g.length:Int) then (if (d).toNat<g.length then (rec ((wr .i64 (d-1)),h5.2.2,(g.set (d).toNat h5.1))) else none) else none)) else none) else none)) else none) else none)))) else none) else none)))) else none) else none) else ((z67.l0b3 (d).toNat (((wr .i64 ((wr .i64 (d+((b:Nat):Int)))+1))).toNat-(d).toNat) (wr .u64 ((wr .u64 (m.1-1))-1)) a b ((b:Nat):Int) c ((0:Int),(0:Int),(0:Int),e)).bind λh6=>(if 0<=((b:Nat):Int)/\((b:Nat):Int)<(((((wr .i64 ((wr .i64 (d+((b:Nat):Int)))+1))).toNat-(d).toNat):Nat):Int) then (if ((d).toNat+(((b:Nat):Int)).toNat)<h6.2.2.2.length then ((z1.F (h6.2.2.2.getD ((d).toNat+(((b:Nat):Int)).toNat) 0) h6.1 h6.2.1).bind λh7=>(if 0<=((b:Nat):Int)/\((b:Nat):Int)<(((((wr .i64 ((wr .i64 (d+((b:Nat):Int)))+1))).toNat-(d).toNat):Nat):Int) then (if ((d).toNat+(((b:Nat):Int)).toNat)<h6.2.2.2.length then ((z67.l2 a b (d).toNat (((wr .i64 ((wr .i64 (d+((b:Nat):Int)))+1))).toNat-(d).toNat) c ((wr .u64 ((wr .u64 (m.1-1))-1)),h7.2,(h6.2.2.2.set ((d).toNat+(((b:Nat):Int)).toNat) h7.1))).bind λh8=>(if 0<=d/\d<(g.length:Int) then (if (d).toNat<g.length then (rec ((wr .i64 (d-1)),h8.2.2,(g.set (d).toNat h8.1))) else none) else none)) else none) else none)) else none) else none)))) else none) else none)))) else none) else none) else ((z67.l0b3 (d).toNat (((wr .i64 ((wr .i64 (d+((b:Nat):Int)))+1))).toNat-(d).toNat) (wr .u64 (m.1-1)) a b ((b:Nat):Int) c ((0:Int),(0:Int),(0:Int),e)).bind λh9=>(if 0<=((b:Nat):Int)/\((b:Nat):Int)<(((((wr .i64 ((wr .i64 (d+((b:Nat):Int)))+1))).toNat-(d).toNat):Nat):Int) then (if ((d).toNat+(((b:Nat):Int)).toNat)<h9.2.2.2.length then ((z1.F (h9.2.2.2.getD ((d).toNat+(((b:Nat):Int)).toNat) 0) h9.1 h9.2.1).bind λj0=>(if 0<=((b:Nat):Int)/\((b:Nat):Int)<(((((wr .i64 ((wr .i64 (d+((b:Nat):Int)))+1))).toNat-(d).toNat):Nat):Int) then (if ((d).toNat+(((b:Nat):Int)).toNat)<h9.2.2.2.length then ((z67.l2 a b (d).toNat (((wr .i64 ((wr .i64 (d+((b:Nat):Int)))+1))).toNat-(d).toNat) c ((wr .u64 (m.1-1)),j0.2,(h9.2.2.2.set ((d).toNat+(((b:Nat):Int)).toNat) j0.1))).bind λj1=>(if 0<=d/\d<(g.length:Int) then (if (d).toNat<g.length then (rec ((wr .i64 (d-1)),j1.2.2,(g.set (d).toNat j1.1))) else none) else none)) else none) else none)) else none) else none)))) else none) else none)))) else none) else none)) else none) else none)) else none) else none) else none) else none) else none) else none) else none) else none) else none) else (done (d,e,g)))
def z67.l0aa (a b:Nat) (c:J0) (x:(Int×J0×J0)):Option ((Int×J0×J0)):=lfp (λrec x=>z67.l0aaP a b c rec some x) x
def z67.F (a0 a1:J0):Option (J0×J0):=
 (if 0<=(wr .i64 ((((a1).length:Nat):Int)-1))/\(wr .i64 ((((a1).length:Nat):Int)-1))<(a1.length:Int) then ((z62.F (a1.getD ((wr .i64 ((((a1).length:Nat):Int)-1))).toNat 0)).bind λr1=>(if 0<=(wr .i64 ((((a0).length:Nat):Int)+1))/\(wr .i64 ((((a0).length:Nat):Int)+1))*8<=140737488355328 then ((z67.l0 (wr .u64 r1) a0 (((a0).length:Nat):Int) ((0:Int),(List.replicate ((wr .i64 ((((a0).length:Nat):Int)+1))).toNat (0:Int)))).bind λo2=>(if 0<=(wr .i64 ((((a1).length:Nat):Int)+1))/\(wr .i64 ((((a1).length:Nat):Int)+1))*8<=140737488355328 then ((z67.l0a (wr .u64 r1) a1 (((a1).length:Nat):Int) ((0:Int),(List.replicate ((wr .i64 ((((a1).length:Nat):Int)+1))).toNat (0:Int)))).bind λo3=>(if 0<=(((a1).length:Nat):Int)/\(((a1).length:Nat):Int)<=((o3.2).length:Int) then (if 0<=(wr .i64 ((((o2.2).length:Nat):Int)-((((((a1).length:Nat):Int)).toNat:Nat):Int)))/\(wr .i64 ((((o2.2).length:Nat):Int)-((((((a1).length:Nat):Int)).toNat:Nat):Int)))*8<=140737488355328 then ((z67.l0aa 0 ((((a1).length:Nat):Int)).toNat o3.2 ((wr .i64 (((((List.replicate ((wr .i64 ((((o2.2).length:Nat):Int)-((((((a1).length:Nat):Int)).toNat:Nat):Int)))).toNat (0:Int))).length:Nat):Int)-1)),o2.2,(List.replicate ((wr .i64 ((((o2.2).length:Nat):Int)-((((((a1).length:Nat):Int)).toNat:Nat):Int)))).toNat (0:Int)))).bind λo4=>((z38.F o4.2.1).bind λr5=>((z66.F r5 (wr .i64 (wr .u64 r1))).bind λr6=>((z60.F r6.1).bind λr7=>(some (o4.2.2,r7)))))) else none) else none)) else none)) else none)) else none)
def z67.enc (r:J0×J0):V:=(.tup [(.ints false .u64 r.1),(.ints false .u64 r.2)])
def z67.pack:List V->Option Pack
 |[(.ints _ .u64 a0),(.ints _ .u64 a1)]=>some ⟨J0×J0,z67.F a0 a1,z67.enc⟩
 |_=>none
def z68.F (a0 a1:J0):Option (J0×J0×Int):=
 ((z19.F a1).bind λr1=>(bif r1 then (some ([],[],(8:Int))) else ((z29.F a0 a1).bind λr2=>(bif (decide (r2<0)) then (some ([],a0,(0:Int))) else ((z60.F a0).bind λr3=>((z60.F a1).bind λr4=>(bif (decide ((((r4).length:Nat):Int)=1)) then (if (0:Int)<=(0:Int)/\(0:Int)<(r4.length:Int) then ((z64.F r3 (r4.getD 0 0)).bind λr5=>((z38.F r5.1).bind λr6=>((z38.F [r5.2]).bind λr7=>(some (r6,r7,(0:Int)))))) else none) else ((z67.F r3 r4).bind λr8=>((z38.F r8.1).bind λr9=>((z38.F r8.2).bind λr10=>(some (r9,r10,(0:Int)))))))))))))
def z68.enc (r:J0×J0×Int):V:=(.tup [(.agg [(.ints false .u64 r.1)]),(.agg [(.ints false .u64 r.2.1)]),(.int .i64 r.2.2)])
def z68.pack:List V->Option Pack
 |[(.agg [(.ints _ .u64 a0)]),(.agg [(.ints _ .u64 a1)])]=>some ⟨J0×J0×Int,z68.F a0 a1,z68.enc⟩
 |_=>none
def z69.l0P {R:Type} (rec done:(J0×J0)->Option R):(J0×J0)->Option R:=λx=>match x with
 |(a,b)=>((z19.F b).bind λc=>(bif (!c) then ((z68.F a b).bind λd=>(rec (b,d.2.1))) else (done (a,b))))
def z69.l0 (x:(J0×J0)):Option ((J0×J0)):=lfp (λrec x=>z69.l0P rec some x) x
def z69.F (a0 a1:J0):Option (J0):=
 ((z69.l0 (a0,a1)).bind λo1=>(some o1.1))
def z69.pack:List V->Option Pack
 |[(.agg [(.ints _ .u64 a0)]),(.agg [(.ints _ .u64 a1)])]=>some ⟨J0,z69.F a0 a1,z23.enc⟩
 |_=>none
def z70.F (a0:J0) (a1:Bool) (a2:J0):Option (J0×Bool×J0):=
 ((z59.F a0 a1).bind λr1=>((z69.F r1 a2).bind λr2=>((z59.F a0 a1).bind λr3=>((z68.F r3 r2).bind λr4=>((z68.F a2 r2).bind λr5=>((z38.F [(1:Int)]).bind λr6=>((z30.F r5.1 r6).bind λr7=>((z20.F a0 a1).bind λr8=>((z21.F r4.1 (decide (r8<0))).bind λr9=>(some (r9.1,r9.2,r7.1)))))))))))
def z70.pack:List V->Option Pack
 |[(.agg [(.ints _ .u64 a0),(.bool a1)]),(.agg [(.ints _ .u64 a2)])]=>some ⟨J0×Bool×J0,z70.F a0 a1 a2,z47.enc⟩
 |_=>none
def z71.j4 (a2:J0) (a3:Bool) (j3:J0) (j4:Bool):Option (J0×Bool×J0×Int):=
 ((z59.F a2 a3).bind λr5=>((z70.F j3 j4 r5).bind λr6=>(some (r6.1,r6.2.1,r6.2.2,(0:Int)))))
def z71.F (a0:J0) (a1:Bool) (a2:J0) (a3:Bool):Option (J0×Bool×J0×Int):=
 ((z20.F a2 a3).bind λr1=>(bif (decide (r1=0)) then (some ([],false,[],(8:Int))) else (bif (decide (r1=(-1:Int))) then ((z32.F a0 a1).bind λr2=>(z71.j4 a2 a3 r2.1 r2.2)) else (z71.j4 a2 a3 a0 a1))))
def z71.enc (r:J0×Bool×J0×Int):V:=(.tup [(.agg [(.ints false .u64 r.1),(.bool r.2.1),(.ints false .u64 r.2.2.1)]),(.int .i64 r.2.2.2)])
def z71.pack:List V->Option Pack
 |[(.agg [(.ints _ .u64 a0),(.bool a1)]),(.agg [(.ints _ .u64 a2),(.bool a3)])]=>some ⟨J0×Bool×J0×Int,z71.F a0 a1 a2 a3,z71.enc⟩
 |_=>none
def z72.F (a0:J0) (a1:Bool) (a2:Int):Option (J0×Bool×J0):=
 ((z55.F a2).bind λr1=>((z71.F a0 a1 r1.1 r1.2).bind λr2=>(some (r2.1,r2.2.1,r2.2.2.1))))
def z72.pack:List V->Option Pack
 |[(.agg [(.ints _ .u64 a0),(.bool a1),(.int .i64 a2)])]=>some ⟨J0×Bool×J0,z72.F a0 a1 a2,z47.enc⟩
 |_=>none
def z73.F (a0:J0) (a1:Bool) (a2:J0):Option (J0):=
 ((z38.F [(1:Int)]).bind λr1=>((z24.F a2 r1).bind λr2=>(some r2)))
def z73.pack:List V->Option Pack
 |[(.agg [(.ints _ .u64 a0),(.bool a1),(.ints _ .u64 a2)])]=>some ⟨J0,z73.F a0 a1 a2,z23.enc⟩
 |_=>none
def z74.F (a0:J0) (a1:Bool) (a2:J0):Option (J0×Bool):=
 ((z73.F a0 a1 a2).bind λr1=>((z21.F r1 false).bind λr2=>(some (r2.1,r2.2))))
def z74.pack:List V->Option Pack
 |[(.agg [(.ints _ .u64 a0),(.bool a1),(.ints _ .u64 a2)])]=>some ⟨J0×Bool,z74.F a0 a1 a2,z21.enc⟩
 |_=>none
def z75.F (a0:J0) (a1:Bool) (a2 a3:J0) (a4:Bool) (a5:J0):Option (J0×Bool×J0×Int):=
 ((z74.F a3 a4 a5).bind λr1=>((z54.F a0 a1 r1.1 r1.2).bind λr2=>((z74.F a0 a1 a2).bind λr3=>((z54.F r3.1 r3.2 a3 a4).bind λr4=>((z71.F r2.1 r2.2 r4.1 r4.2).bind λr5=>(some (r5.1,r5.2.1,r5.2.2.1,r5.2.2.2)))))))
def z75.pack:List V->Option Pack
 |[(.agg [(.ints _ .u64 a0),(.bool a1),(.ints _ .u64 a2)]),(.agg [(.ints _ .u64 a3),(.bool a4),(.ints _ .u64 a5)])]=>some ⟨J0×Bool×J0×Int,z75.F a0 a1 a2 a3 a4 a5,z71.enc⟩
 |_=>none
def z76.j8 (r1:J0×Bool×Int×Int):Option (J0×Bool×J0×Int):=
 ((z72.F r1.1 r1.2.1 r1.2.2.1).bind λr9=>((z48.F 100).bind λr10=>((z47.F r10.1 r10.2).bind λr11=>((z75.F r9.1 r9.2.1 r9.2.2 r11.1 r11.2.1 r11.2.2).bind λr12=>(some (r12.1,r12.2.1,r12.2.2.1,r12.2.2.2))))))
def z76.F (a0:J1):Option (J0×Bool×J0×Int):=
 ((z50.F a0).bind λr1=>(bif (!decide (r1.2.2.2=0)) then (some ([],false,[],r1.2.2.2)) else ((z48.F 1000).bind λr2=>((z52.F r2.1 r2.2 0).bind λr3=>((z53.F r1.1 r1.2.1 r1.2.2.1).bind λr4=>((z20.F r4.1 r4.2).bind λr5=>(bif (decide (r5<0)) then (some ([],false,[],(18:Int))) else ((z57.F r1.1 r1.2.1 r1.2.2.1 r3.1 r3.2.1 r3.2.2.1).bind λr6=>(bif (decide (r6>0)) then (some ([],false,[],(18:Int))) else ((z58.F r1.1 r1.2.1 r1.2.2.1).bind λr7=>(bif (decide (r7>12)) then (some ([],false,[],(18:Int))) else (z76.j8 r1))))))))))))
def z76.pack:List V->Option Pack
 |[(.str a0)]=>some ⟨J0×Bool×J0×Int,z76.F a0,z71.enc⟩
 |_=>none
def z77.F:Option ((List J1)):=
 (some [([97,110,110,117,105,116,121]:J1),([108,105,110,101,97,114]:J1),([98,117,108,108,101,116]:J1)])
def z77.enc (r:(List J1)):V:=(.strs false r)
def z77.pack:List V->Option Pack
 |[]=>some ⟨(List J1),z77.F,z77.enc⟩
 |_=>none
def z78.j1 (a0:Int):Option (J1):=
 (z77.F.bind λr2=>(if 0<=a0/\a0<(r2.length:Int) then (some (r2.getD (a0).toNat [])) else none))
def z78.F (a0:Int):Option (J1):=
 (bif (decide (a0<0)) then (some ([]:J1)) else (bif (decide (a0>=3)) then (some ([]:J1)) else (z78.j1 a0)))
def z78.pack:List V->Option Pack
 |[(.int .i64 a0)]=>some ⟨J1,z78.F a0,z5.enc⟩
 |_=>none
def z79.F (a0:Int):Option (Bool):=
 (bif (decide (a0>=0)) then (some (decide (a0<5))) else (some false))
def z79.pack:List V->Option Pack
 |[(.int .i64 a0)]=>some ⟨Bool,z79.F a0,z10.enc⟩
 |_=>none
def z80.F:Option ((List J1)):=
 (some [([100,111,119,110]:J1),([117,112]:J1),([104,97,108,102,45,117,112]:J1),([104,97,108,102,45,100,111,119,110]:J1),([104,97,108,102,45,101,118,101,110]:J1)])
def z80.pack:List V->Option Pack
 |[]=>some ⟨(List J1),z80.F,z77.enc⟩
 |_=>none
def z81.F (a0:Int):Option (J1):=
 ((z79.F a0).bind λr1=>(bif (!r1) then (some ([]:J1)) else (z80.F.bind λr2=>(if 0<=a0/\a0<(r2.length:Int) then (some (r2.getD (a0).toNat [])) else none))))
def z81.pack:List V->Option Pack
 |[(.int .i64 a0)]=>some ⟨J1,z81.F a0,z5.enc⟩
 |_=>none
def z82.F (a0:Int):Option (Bool):=
 (bif (decide (a0>=0)) then (some (decide (a0<3))) else (some false))
def z82.pack:List V->Option Pack
 |[(.int .i64 a0)]=>some ⟨Bool,z82.F a0,z10.enc⟩
 |_=>none
def z83.F:Option ((List J1)):=
 (some [([116,104,105,114,116,121]:J1),([102,105,120,101,100]:J1),([97,99,116,117,97,108]:J1)])
def z83.pack:List V->Option Pack
 |[]=>some ⟨(List J1),z83.F,z77.enc⟩
 |_=>none
def z84.F (a0:Int):Option (J1):=
 ((z82.F a0).bind λr1=>(bif (!r1) then (some ([]:J1)) else (z83.F.bind λr2=>(if 0<=a0/\a0<(r2.length:Int) then (some (r2.getD (a0).toNat [])) else none))))
def z84.pack:List V->Option Pack
 |[(.int .i64 a0)]=>some ⟨J1,z84.F a0,z5.enc⟩
 |_=>none
def z85.F (a0 a1:J1) (a2 a3 a4 a5 a6 a7 a8 a9:Int):Option (Bool):=
 ((z78.F a2).bind λr1=>(bif (decide (r1=([]:J1))) then (some true) else ((z84.F a3).bind λr2=>(bif (decide (r2=([]:J1))) then (some true) else ((z81.F a4).bind λr3=>(bif (decide (r3=([]:J1))) then (some true) else (bif (decide (a8<1)) then (some true) else (bif (decide (a8=5)) then (some true) else (if a8=0 then none else (some (!decide ((Int.tmod 12 a8)=0))))))))))))
def z85.pack:List V->Option Pack
 |[(.agg [(.str a0),(.str a1),(.int .i64 a2),(.int .i64 a3),(.int .i64 a4),(.int .i64 a5),(.int .i64 a6),(.int .i64 a7),(.int .i64 a8),(.int .i64 a9)])]=>some ⟨Bool,z85.F a0 a1 a2 a3 a4 a5 a6 a7 a8 a9,z10.enc⟩
 |_=>none
def z86.F (a0:Int):Option (Bool):=
 (bif (decide (a0>=1)) then (some (decide (a0<=9999))) else (some false))
def z86.pack:List V->Option Pack
 |[(.int .i64 a0)]=>some ⟨Bool,z86.F a0,z10.enc⟩
 |_=>none
def z87.F (a0:Int):Option (Bool):=
 ((z86.F a0).bind λr1=>(bif r1 then (bif (decide ((Int.tmod a0 4)=0)) then (bif (!decide ((Int.tmod a0 100)=0)) then (some true) else (some (decide ((Int.tmod a0 400)=0)))) else (some (decide ((Int.tmod a0 400)=0)))) else (some false)))
def z87.pack:List V->Option Pack
 |[(.int .i64 a0)]=>some ⟨Bool,z87.F a0,z10.enc⟩
 |_=>none
def z88.j10 (a1:Int):Option (Int):=
 (if 0<=(wr .i64 (a1-1))/\(wr .i64 (a1-1))<12 then (V.asInt .i64 (([(.int .i64 31),(.int .i64 28),(.int .i64 31),(.int .i64 30),(.int .i64 31),(.int .i64 30),(.int .i64 31),(.int .i64 31),(.int .i64 30),(.int .i64 31),(.int .i64 30),(.int .i64 31)]:List V).getD ((wr .i64 (a1-1))).toNat .undef) λc11=>(some c11)) else none)
def z88.F (a0 a1:Int):Option (Int):=
 ((z86.F a0).bind λr1=>(bif (!r1) then (some 0) else (bif (decide (a1<1)) then (some 0) else (bif (decide (a1>12)) then (some 0) else (bif (decide (a1=2)) then ((z87.F a0).bind λr9=>(bif r9 then (some 29) else (z88.j10 a1))) else (z88.j10 a1))))))
def z88.pack:List V->Option Pack
 |[(.int .i64 a0),(.int .i64 a1)]=>some ⟨Int,z88.F a0 a1,z11.enc⟩
 |_=>none
def z89.F (a0 a1 a2:Int):Option (Int):=
 (bif (decide (a2<1)) then (some 11) else ((z88.F a0 a1).bind λr1=>(bif (decide (a2>r1)) then (some 11) else (some 0))))
def z89.pack:List V->Option Pack
 |[(.agg [(.int .i64 a0),(.int .i64 a1),(.int .i64 a2)])]=>some ⟨Int,z89.F a0 a1 a2,z11.enc⟩
 |_=>none
def z90.j3 (a0 a1 a3 a2:Int):Option (Int×Int×Int×Int):=
 ((z88.F (wr .i64 (Int.tdiv (wr .i64 ((wr .i64 ((wr .i64 ((wr .i64 ((12:Int)*a0))+a1))-1))+a3)) 12)) (wr .i64 ((Int.tmod (wr .i64 ((wr .i64 ((wr .i64 ((wr .i64 ((12:Int)*a0))+a1))-1))+a3)) 12)+1))).bind λr4=>(some ((wr .i64 (Int.tdiv (wr .i64 ((wr .i64 ((wr .i64 ((wr .i64 ((12:Int)*a0))+a1))-1))+a3)) 12)),(wr .i64 ((Int.tmod (wr .i64 ((wr .i64 ((wr .i64 ((wr .i64 ((12:Int)*a0))+a1))-1))+a3)) 12)+1)),(if r4<a2 then r4 else a2),(0:Int))))
def z90.j2 (a0 a1 a3 a2:Int):Option (Int×Int×Int×Int):=
 (bif (decide ((wr .i64 ((wr .i64 ((wr .i64 ((wr .i64 ((12:Int)*a0))+a1))-1))+a3))<12)) then (some ((0:Int),(0:Int),(0:Int),(11:Int))) else (bif (decide ((wr .i64 (Int.tdiv (wr .i64 ((wr .i64 ((wr .i64 ((wr .i64 ((12:Int)*a0))+a1))-1))+a3)) 12))>9999)) then (some ((0:Int),(0:Int),(0:Int),(11:Int))) else (z90.j3 a0 a1 a3 a2)))
def z90.F (a0 a1 a2 a3:Int):Option (Int×Int×Int×Int):=
 ((z89.F a0 a1 a2).bind λr1=>(bif (!decide (r1=0)) then (some ((0:Int),(0:Int),(0:Int),r1)) else (bif (decide (a3<(-119988:Int))) then (some ((0:Int),(0:Int),(0:Int),(11:Int))) else (bif (decide (a3>119988)) then (some ((0:Int),(0:Int),(0:Int),(11:Int))) else (z90.j2 a0 a1 a3 a2)))))
def z90.enc (r:Int×Int×Int×Int):V:=(.tup [(.agg [(.int .i64 r.1),(.int .i64 r.2.1),(.int .i64 r.2.2.1)]),(.int .i64 r.2.2.2)])
def z90.pack:List V->Option Pack
 |[(.agg [(.int .i64 a0),(.int .i64 a1),(.int .i64 a2)]),(.int .i64 a3)]=>some ⟨Int×Int×Int×Int,z90.F a0 a1 a2 a3,z90.enc⟩
 |_=>none
def z91.F (a0 a1:J1) (a2 a3 a4 a5 a6 a7 a8 a9:Int):Option (Int):=
 ((z46.F a0).bind λr1=>(bif (!decide (r1.2.2=0)) then (some r1.2.2) else ((z20.F r1.1 r1.2.1).bind λr2=>(bif (decide (r2=0)) then (some 19) else ((z76.F a1).bind λr3=>(bif (!decide (r3.2.2.2=0)) then (some r3.2.2.2) else ((z85.F a0 a1 a2 a3 a4 a5 a6 a7 a8 a9).bind λr4=>(bif r4 then (some 2) else (bif (decide (a9<1)) then (some 6) else (bif (decide (a9>1200)) then (some 6) else ((z90.F a5 a6 a7 (wr .i64 (a8*a9))).bind λr8=>(some r8.2.2.2))))))))))))
def z91.pack:List V->Option Pack
 |[(.agg [(.str a0),(.str a1),(.int .i64 a2),(.int .i64 a3),(.int .i64 a4),(.int .i64 a5),(.int .i64 a6),(.int .i64 a7),(.int .i64 a8),(.int .i64 a9)])]=>some ⟨Int,z91.F a0 a1 a2 a3 a4 a5 a6 a7 a8 a9,z11.enc⟩
 |_=>none
def z92.l0P (a b c d e:Int) {R:Type} (rec:(Int×J2)->Option R) (done:((Int×J2)⊕(J2×Int×J2))->Option R):(Int×J2)->Option R:=λx=>match x with
 |(g,h)=>(bif (decide (g<=b)) then ((z90.F c d e (wr .i64 (g*(if 119989<a then 119989 else a)))).bind λj=>(bif (!decide (j.2.2.2=0)) then (done (.inr ([],j.2.2.2,h))) else (if ((h).length+(([[(.int .i64 j.1),(.int .i64 j.2.1),(.int .i64 j.2.2.1)]]:J2)).length)*24<=140737488355328 then (rec ((wr .i64 (g+1)),(h++([[(.int .i64 j.1),(.int .i64 j.2.1),(.int .i64 j.2.2.1)]]:J2)))) else none))) else (done (.inl (g,h))))
def z92.l0 (a b c d e:Int) (x:(Int×J2)):Option (((Int×J2)⊕(J2×Int×J2))):=lfp (λrec x=>z92.l0P a b c d e rec some x) x
def z92.j1 (a0 a1 a2 a3 a4:Int):Option (J2×Int):=
 ((z89.F a0 a1 a2).bind λr2=>(bif (!decide (r2=0)) then (some ([],r2)) else ((z92.l0 a3 a4 a0 a1 a2 ((1:Int),[])).bind λo3=>match o3 with | .inl p4=>(some (p4.2,(0:Int))) | .inr q5=>(some (q5.1,q5.2.1)))))
def z92.F (a0 a1 a2 a3 a4:Int):Option (J2×Int):=
 (bif (decide (a3<1)) then (some ([],(2:Int))) else (bif (decide (a4<0)) then (some ([],(2:Int))) else (bif (decide (a4>1200)) then (some ([],(2:Int))) else (z92.j1 a0 a1 a2 a3 a4))))
def z92.enc (r:J2×Int):V:=(.tup [(.recs false 3 r.1),(.int .i64 r.2)])
def z92.pack:List V->Option Pack
 |[(.agg [(.int .i64 a0),(.int .i64 a1),(.int .i64 a2)]),(.int .i64 a3),(.int .i64 a4)]=>some ⟨J2×Int,z92.F a0 a1 a2 a3 a4,z92.enc⟩
 |_=>none
def z93.F (a0 a1:J1) (a2 a3 a4 a5 a6 a7 a8 a9:Int):Option (J2×Int):=
 ((z91.F a0 a1 a2 a3 a4 a5 a6 a7 a8 a9).bind λr1=>(bif (!decide (r1=0)) then (some ([],r1)) else ((z92.F a5 a6 a7 a8 a9).bind λr2=>(some (r2.1,r2.2)))))
def z93.pack:List V->Option Pack
 |[(.agg [(.str a0),(.str a1),(.int .i64 a2),(.int .i64 a3),(.int .i64 a4),(.int .i64 a5),(.int .i64 a6),(.int .i64 a7),(.int .i64 a8),(.int .i64 a9)])]=>some ⟨J2×Int,z93.F a0 a1 a2 a3 a4 a5 a6 a7 a8 a9,z92.enc⟩
 |_=>none
def z94.l0P (a:J2) (b:Int) {R:Type} (rec done:(Int×J2×Int×Int×Int)->Option R):(Int×J2×Int×Int×Int)->Option R:=λx=>match x with
 |(c,d,e,g,h)=>(bif (decide (c<b)) then (if 0<=c/\c<(a.length:Int) then (V.asInt .i64 (((a.getD (c).toNat [])).getD 0 .undef) λj=>(V.asInt .i64 (((a.getD (c).toNat [])).getD 1 .undef) λk=>(V.asInt .i64 (((a.getD (c).toNat [])).getD 2 .undef) λm=>(if ((d).length+(([[(.int .i64 e),(.int .i64 g),(.int .i64 h),(.int .i64 j),(.int .i64 k),(.int .i64 m)]]:J2)).length)*48<=140737488355328 then (rec ((wr .i64 (c+1)),(d++([[(.int .i64 e),(.int .i64 g),(.int .i64 h),(.int .i64 j),(.int .i64 k),(.int .i64 m)]]:J2)),j,k,m)) else none)))) else none) else (done (c,d,e,g,h)))
def z94.l0 (a:J2) (b:Int) (x:(Int×J2×Int×Int×Int)):Option ((Int×J2×Int×Int×Int)):=lfp (λrec x=>z94.l0P a b rec some x) x
def z94.F (a0 a1:J1) (a2 a3 a4 a5 a6 a7 a8 a9:Int):Option (J2×Int):=
 ((z93.F a0 a1 a2 a3 a4 a5 a6 a7 a8 a9).bind λr1=>(bif (!decide (r1.2=0)) then (some ([],r1.2)) else ((z94.l0 r1.1 (((r1.1).length:Nat):Int) ((0:Int),[],a5,a6,a7)).bind λo2=>(some (o2.2.1,(0:Int))))))
def z94.enc (r:J2×Int):V:=(.tup [(.recs false 6 r.1),(.int .i64 r.2)])
def z94.pack:List V->Option Pack
 |[(.agg [(.str a0),(.str a1),(.int .i64 a2),(.int .i64 a3),(.int .i64 a4),(.int .i64 a5),(.int .i64 a6),(.int .i64 a7),(.int .i64 a8),(.int .i64 a9)])]=>some ⟨J2×Int,z94.F a0 a1 a2 a3 a4 a5 a6 a7 a8 a9,z94.enc⟩
 |_=>none
def z95.l0P (a:Int) (b:J0) (c:Int) {R:Type} (rec:Int->Option R) (done:((Int)⊕(Int))->Option R):Int->Option R:=λd=>(bif (decide (d<c)) then (if 0<=d/\d<(b.length:Int) then (bif (!decide ((b.getD (d).toNat 0)=a)) then (done (.inr (b.getD (d).toNat 0))) else (rec (wr .i64 (d+1)))) else none) else (done (.inl d)))
def z95.l0 (a:Int) (b:J0) (c x:Int):Option (((Int)⊕(Int))):=lfp (λrec x=>z95.l0P a b c rec some x) x
def z95.F (a0:J0):Option (Int):=
 ((z95.l0 0 a0 (((a0).length:Nat):Int) 0).bind λo1=>match o1 with | .inl p2=>(some 0) | .inr q3=>(some q3))
def z95.pack:List V->Option Pack
 |[(.ints _ .i64 a0)]=>some ⟨Int,z95.F a0,z11.enc⟩
 |_=>none
def z96.F (a0 a1 a2 a3 a4 a5:Int):Option (Int):=
 ((z26.F a0 a3).bind λr1=>((z26.F a1 a4).bind λr2=>((z26.F a2 a5).bind λr3=>((z95.F [r1,r2,r3]).bind λr4=>(some r4)))))
def z96.pack:List V->Option Pack
 |[(.agg [(.int .i64 a0),(.int .i64 a1),(.int .i64 a2)]),(.agg [(.int .i64 a3),(.int .i64 a4),(.int .i64 a5)])]=>some ⟨Int,z96.F a0 a1 a2 a3 a4 a5,z11.enc⟩
 |_=>none
def z97.F (a0:Int):Option (Int):=
 (some (wr .i64 ((wr .i64 ((wr .i64 ((wr .i64 ((365:Int)*(wr .i64 (a0-1))))+(wr .i64 (Int.tdiv (wr .i64 (a0-1)) 4))))-(wr .i64 (Int.tdiv (wr .i64 (a0-1)) 100))))+(wr .i64 (Int.tdiv (wr .i64 (a0-1)) 400)))))
def z97.pack:List V->Option Pack
 |[(.int .i64 a0)]=>some ⟨Int,z97.F a0,z11.enc⟩
 |_=>none
def z98.l0P (a b:Int) {R:Type} (rec done:(Int×Int)->Option R):(Int×Int)->Option R:=λx=>match x with
 |(c,d)=>(bif (decide (d<b)) then ((z88.F a d).bind λe=>(rec ((wr .i64 (c+e)),(wr .i64 (d+1))))) else (done (c,d)))
def z98.l0 (a b:Int) (x:(Int×Int)):Option ((Int×Int)):=lfp (λrec x=>z98.l0P a b rec some x) x
def z98.F (a0 a1 a2:Int):Option (Int×Int):=
 ((z89.F a0 a1 a2).bind λr1=>(bif (!decide (r1=0)) then (some ((0:Int),r1)) else ((z97.F a0).bind λr2=>((z98.l0 a0 a1 (r2,(1:Int))).bind λo3=>(some ((wr .i64 (o3.1+a2)),(0:Int)))))))
def z98.enc (r:Int×Int):V:=(.tup [(.int .i64 r.1),(.int .i64 r.2)])
def z98.pack:List V->Option Pack
 |[(.agg [(.int .i64 a0),(.int .i64 a1),(.int .i64 a2)])]=>some ⟨Int×Int,z98.F a0 a1 a2,z98.enc⟩
 |_=>none
def z99.l2P (a:J1) (b:Int) {R:Type} (rec done:(Int×Int)->Option R):(Int×Int)->Option R:=λx=>match x with
 |(c,d)=>(bif (decide (d<b)) then (if 0<=d/\d<(a.length:Int) then (rec ((wr .i64 ((wr .i64 ((wr .i64 ((10:Int)*c))+(wr .i64 ((a.getD (d).toNat 0).toNat:Int))))-48)),(wr .i64 (d+1)))) else none) else (done (c,d)))
def z99.l2 (a:J1) (b:Int) (x:(Int×Int)):Option ((Int×Int)):=lfp (λrec x=>z99.l2P a b rec some x) x
def z99.l0P (a:J1) {R:Type} (rec done:(Int×J0)->Option R):(Int×J0)->Option R:=λx=>match x with
 |(b,c)=>(bif (decide (b>0)) then ((z99.l2 a b ((0:Int),(if (wr .i64 (b-4))>0 then (wr .i64 (b-4)) else 0))).bind λd=>(if ((c).length+([d.1]).length)*8<=140737488355328 then (rec ((wr .i64 (b-4)),(c++[d.1]))) else none)) else (done (b,c)))
def z99.l0 (a:J1) (x:(Int×J0)):Option ((Int×J0)):=lfp (λrec x=>z99.l0P a rec some x) x
def z99.F (a0:J1):Option (J0):=
 ((z99.l0 a0 ((a0.length:Int),[])).bind λo1=>((z14.F o1.2).bind λr2=>(some r2)))
def z99.pack:List V->Option Pack
 |[(.str a0)]=>some ⟨J0,z99.F a0,z8.enc⟩
 |_=>none
def z100.F (a0:J1):Option (J0×Bool):=
 (if (0:Int)<=(0:Int)/\(0:Int)<(a0.length:Int) then (bif (decide (((a0.getD 0 0).toNat:Int)=45)) then (if (0:Int)<=(1:Int)/\(1:Int)<=((a0).length:Int) then ((z99.F (a0.drop 1)).bind λr1=>((z7.F r1 true).bind λr2=>(some (r2.1,r2.2)))) else none) else ((z99.F a0).bind λr3=>((z7.F r3 false).bind λr4=>(some (r4.1,r4.2))))) else none)
def z100.pack:List V->Option Pack
 |[(.str a0)]=>some ⟨J0×Bool,z100.F a0,z7.enc⟩
 |_=>none
def z101.l0b4P (a:J1) {R:Type} (rec:Int->Option R) (done:((Int)⊕(Bool))->Option R):Int->Option R:=λb=>(bif (decide (b<(a.length:Int))) then (if 0<=b/\b<(a.length:Int) then (bif (decide (((a.getD (b).toNat 0).toNat:Int)<48)) then (done (.inr false)) else (if 0<=b/\b<(a.length:Int) then (bif (decide (((a.getD (b).toNat 0).toNat:Int)>57)) then (done (.inr false)) else (rec (wr .i64 (b+1)))) else none)) else none) else (done (.inl b)))
def z101.l0b4 (a:J1) (x:Int):Option (((Int)⊕(Bool))):=lfp (λrec x=>z101.l0b4P a rec some x) x
def z101.F (a0:J1):Option (Bool):=
 (bif (decide ((a0.length:Int)=0)) then (some false) else (bif (decide ((a0.length:Int)>1)) then (if (0:Int)<=(0:Int)/\(0:Int)<(a0.length:Int) then (bif (decide (((a0.getD 0 0).toNat:Int)=48)) then (some false) else ((z101.l0b4 a0 0).bind λo8=>match o8 with | .inl p9=>(some true) | .inr q10=>(some q10))) else none) else ((z101.l0b4 a0 0).bind λo11=>match o11 with | .inl p12=>(some true) | .inr q13=>(some q13))))
def z101.pack:List V->Option Pack
 |[(.str a0)]=>some ⟨Bool,z101.F a0,z10.enc⟩
 |_=>none
def z102.j3 (j3:J1) (r1:J0×Bool) (a0:J1):Option (J0×Bool×Int):=
 (bif (decide ((j3.length:Int)>4096)) then (some (r1.1,r1.2,(7:Int))) else ((z101.F j3).bind λr4=>(bif (!r4) then (some (r1.1,r1.2,(5:Int))) else (bif (decide (j3=([48]:J1))) then (bif (decide ((a0.length:Int)>1)) then (some (r1.1,r1.2,(5:Int))) else ((z100.F a0).bind λr8=>(some (r8.1,r8.2,(0:Int))))) else ((z100.F a0).bind λr9=>(some (r9.1,r9.2,(0:Int))))))))
def z102.F (a0:J1):Option (J0×Bool×Int):=
 ((z9.F 0).bind λr1=>(bif (decide ((a0.length:Int)>0)) then (if (0:Int)<=(0:Int)/\(0:Int)<(a0.length:Int) then (bif (decide (((a0.getD 0 0).toNat:Int)=45)) then (if (0:Int)<=(1:Int)/\(1:Int)<=((a0).length:Int) then (z102.j3 (a0.drop 1) r1 a0) else none) else (z102.j3 a0 r1 a0)) else none) else (z102.j3 a0 r1 a0)))
def z102.enc (r:J0×Bool×Int):V:=(.tup [(.agg [(.ints false .i64 r.1),(.bool r.2.1)]),(.int .i64 r.2.2)])
def z102.pack:List V->Option Pack
 |[(.str a0)]=>some ⟨J0×Bool×Int,z102.F a0,z102.enc⟩
 |_=>none
def z103.l0P (a:Int) {R:Type} (rec done:(J1×Int)->Option R):(J1×Int)->Option R:=λx=>match x with
 |(b,c)=>(bif (decide (c<a)) then (if b.length+([48]:J1).length<=9223372036854775807 then (rec ((b++([48]:J1)),(wr .i64 (c+1)))) else none) else (done (b,c)))
def z103.l0 (a:Int) (x:(J1×Int)):Option ((J1×Int)):=lfp (λrec x=>z103.l0P a rec some x) x
def z103.F (a0:Int):Option (J0):=
 ((z103.l0 a0 (([49]:J1),(0:Int))).bind λo1=>((z99.F o1.1).bind λr2=>(some r2)))
def z103.pack:List V->Option Pack
 |[(.int .i64 a0)]=>some ⟨J0,z103.F a0,z8.enc⟩
 |_=>none
def z104.F (a0:J0) (a1:Bool):Option (J0×Bool):=
 ((z7.F a0 (!a1)).bind λr1=>(some (r1.1,r1.2)))
def z104.pack:List V->Option Pack
 |[(.agg [(.ints _ .i64 a0),(.bool a1)])]=>some ⟨J0×Bool,z104.F a0 a1,z7.enc⟩
 |_=>none
def z105.l0b6P (a b:J0) {R:Type} (rec done:(Int×Int×J0)->Option R):(Int×Int×J0)->Option R:=λx=>match x with
 |(c,d,e)=>(bif (decide (d<(((a).length:Nat):Int))) then ((z13.F a d).bind λg=>((z13.F b d).bind λh=>(if ((e).length+([(Int.tmod (wr .i64 ((wr .i64 (g+h))+c)) 10000)]).length)*8<=140737488355328 then (rec ((wr .i64 (Int.tdiv (wr .i64 ((wr .i64 (g+h))+c)) 10000)),(wr .i64 (d+1)),(e++[(Int.tmod (wr .i64 ((wr .i64 (g+h))+c)) 10000)]))) else none))) else (bif (decide (d<(((b).length:Nat):Int))) then ((z13.F a d).bind λj=>((z13.F b d).bind λk=>(if ((e).length+([(Int.tmod (wr .i64 ((wr .i64 (j+k))+c)) 10000)]).length)*8<=140737488355328 then (rec ((wr .i64 (Int.tdiv (wr .i64 ((wr .i64 (j+k))+c)) 10000)),(wr .i64 (d+1)),(e++[(Int.tmod (wr .i64 ((wr .i64 (j+k))+c)) 10000)]))) else none))) else (bif (decide (c>0)) then ((z13.F a d).bind λm=>((z13.F b d).bind λn=>(if ((e).length+([(Int.tmod (wr .i64 ((wr .i64 (m+n))+c)) 10000)]).length)*8<=140737488355328 then (rec ((wr .i64 (Int.tdiv (wr .i64 ((wr .i64 (m+n))+c)) 10000)),(wr .i64 (d+1)),(e++[(Int.tmod (wr .i64 ((wr .i64 (m+n))+c)) 10000)]))) else none))) else (done (c,d,e)))))
def z105.l0b6 (a b:J0) (x:(Int×Int×J0)):Option ((Int×Int×J0)):=lfp (λrec x=>z105.l0b6P a b rec some x) x
def z105.F (a0 a1:J0):Option (J0):=
 ((z105.l0b6 a0 a1 ((0:Int),(0:Int),[])).bind λo1=>((z14.F o1.2.2).bind λr2=>(some r2)))
def z105.pack:List V->Option Pack
 |[(.ints _ .i64 a0),(.ints _ .i64 a1)]=>some ⟨J0,z105.F a0 a1,z8.enc⟩
 |_=>none
def z106.l0P (a b:J0) {R:Type} (rec:Int->Option R) (done:((Int)⊕(Int))->Option R):Int->Option R:=λc=>(bif (decide (c>=0)) then (if 0<=c/\c<(a.length:Int) then (if 0<=c/\c<(b.length:Int) then (bif (decide ((a.getD (c).toNat 0)<(b.getD (c).toNat 0))) then (done (.inr (-1:Int))) else (if 0<=c/\c<(a.length:Int) then (if 0<=c/\c<(b.length:Int) then (bif (decide ((a.getD (c).toNat 0)>(b.getD (c).toNat 0))) then (done (.inr 1)) else (rec (wr .i64 (c-1)))) else none) else none)) else none) else none) else (done (.inl c)))
def z106.l0 (a b:J0) (x:Int):Option (((Int)⊕(Int))):=lfp (λrec x=>z106.l0P a b rec some x) x
def z106.F (a0 a1:J0):Option (Int):=
 (bif (!decide ((((a0).length:Nat):Int)=(((a1).length:Nat):Int))) then (bif (decide ((((a0).length:Nat):Int)<(((a1).length:Nat):Int))) then (some (-1:Int)) else (some 1)) else ((z106.l0 a0 a1 (wr .i64 ((((a0).length:Nat):Int)-1))).bind λo1=>match o1 with | .inl p2=>(some 0) | .inr q3=>(some q3)))
def z106.pack:List V->Option Pack
 |[(.ints _ .i64 a0),(.ints _ .i64 a1)]=>some ⟨Int,z106.F a0 a1,z11.enc⟩
 |_=>none
def z107.l0P (a b:J0) {R:Type} (rec done:(Int×Int×J0)->Option R):(Int×Int×J0)->Option R:=λx=>match x with
 |(c,d,e)=>(bif (decide (d<(((a).length:Nat):Int))) then ((z13.F b d).bind λg=>(if 0<=d/\d<(a.length:Int) then (bif (decide ((wr .i64 ((wr .i64 ((a.getD (d).toNat 0)-g))-c))<0)) then (if ((e).length+([(wr .i64 ((wr .i64 ((wr .i64 ((a.getD (d).toNat 0)-g))-c))+10000))]).length)*8<=140737488355328 then (rec ((1:Int),(wr .i64 (d+1)),(e++[(wr .i64 ((wr .i64 ((wr .i64 ((a.getD (d).toNat 0)-g))-c))+10000))]))) else none) else (if ((e).length+([(wr .i64 ((wr .i64 ((a.getD (d).toNat 0)-g))-c))]).length)*8<=140737488355328 then (rec ((0:Int),(wr .i64 (d+1)),(e++[(wr .i64 ((wr .i64 ((a.getD (d).toNat 0)-g))-c))]))) else none)) else none)) else (done (c,d,e)))
def z107.l0 (a b:J0) (x:(Int×Int×J0)):Option ((Int×Int×J0)):=lfp (λrec x=>z107.l0P a b rec some x) x
def z107.F (a0 a1:J0):Option (J0):=
 ((z107.l0 a0 a1 ((0:Int),(0:Int),[])).bind λo1=>((z14.F o1.2.2).bind λr2=>(some r2)))
def z107.pack:List V->Option Pack
 |[(.ints _ .i64 a0),(.ints _ .i64 a1)]=>some ⟨J0,z107.F a0 a1,z8.enc⟩
 |_=>none
def z108.F (a0:J0) (a1:Bool) (a2:J0) (a3:Bool):Option (J0×Bool):=
 (bif (decide (a1=a3)) then ((z105.F a0 a2).bind λr1=>((z7.F r1 a1).bind λr2=>(some (r2.1,r2.2)))) else ((z106.F a0 a2).bind λr3=>(bif (decide (r3>=0)) then ((z107.F a0 a2).bind λr4=>((z7.F r4 a1).bind λr5=>(some (r5.1,r5.2)))) else ((z107.F a2 a0).bind λr6=>((z7.F r6 a3).bind λr7=>(some (r7.1,r7.2)))))))
def z108.pack:List V->Option Pack
 |[(.agg [(.ints _ .i64 a0),(.bool a1)]),(.agg [(.ints _ .i64 a2),(.bool a3)])]=>some ⟨J0×Bool,z108.F a0 a1 a2 a3,z7.enc⟩
 |_=>none
def z109.F (a0:J0) (a1:Bool) (a2:J0) (a3:Bool):Option (J0×Bool):=
 ((z104.F a2 a3).bind λr1=>((z108.F a0 a1 r1.1 r1.2).bind λr2=>(some (r2.1,r2.2))))
def z109.pack:List V->Option Pack
 |[(.agg [(.ints _ .i64 a0),(.bool a1)]),(.agg [(.ints _ .i64 a2),(.bool a3)])]=>some ⟨J0×Bool,z109.F a0 a1 a2 a3,z7.enc⟩
 |_=>none
def z110.F (a0:J0) (a1:Bool):Option (Int):=
 (bif (decide ((((a0).length:Nat):Int)=0)) then (some 0) else (bif a1 then (some (-1:Int)) else (some 1)))
def z110.pack:List V->Option Pack
 |[(.agg [(.ints _ .i64 a0),(.bool a1)])]=>some ⟨Int,z110.F a0 a1,z11.enc⟩
 |_=>none
def z111.F (a0:J0) (a1:Bool) (a2:J0) (a3:Bool):Option (Int):=
 ((z109.F a0 a1 a2 a3).bind λr1=>((z110.F r1.1 r1.2).bind λr2=>(some r2)))
def z111.pack:List V->Option Pack
 |[(.agg [(.ints _ .i64 a0),(.bool a1)]),(.agg [(.ints _ .i64 a2),(.bool a3)])]=>some ⟨Int,z111.F a0 a1 a2 a3,z11.enc⟩
 |_=>none
def z112.F (a0:J1):Option (J0×Bool×Int):=
 ((z9.F 0).bind λr1=>((z102.F a0).bind λr2=>(bif (!decide (r2.2.2=0)) then (some (r1.1,r1.2,r2.2.2)) else ((z103.F 30).bind λr3=>((z7.F r3 false).bind λr4=>((z111.F r2.1 r2.2.1 r4.1 r4.2).bind λr5=>(bif r2.2.1 then (some (r1.1,r1.2,(19:Int))) else (bif (decide (r5>0)) then (some (r1.1,r1.2,(19:Int))) else (some (r2.1,r2.2.1,(0:Int)))))))))))
def z112.pack:List V->Option Pack
 |[(.str a0)]=>some ⟨J0×Bool×Int,z112.F a0,z102.enc⟩
 |_=>none
def z113.l2P (a b:J0) {R:Type} (rec done:(Int×Int)->Option R):(Int×Int)->Option R:=λx=>match x with
 |(c,d)=>(bif (decide (c<d)) then ((z8.F (wr .i64 (Int.tdiv (wr .i64 ((wr .i64 (c+d))+1)) 2))).bind λe=>((z15.F a e).bind λg=>((z106.F g b).bind λh=>(bif (decide (h<=0)) then (rec ((wr .i64 (Int.tdiv (wr .i64 ((wr .i64 (c+d))+1)) 2)),d)) else (rec (c,(wr .i64 ((wr .i64 (Int.tdiv (wr .i64 ((wr .i64 (c+d))+1)) 2))-1)))))))) else (done (c,d)))
def z113.l2 (a b:J0) (x:(Int×Int)):Option ((Int×Int)):=lfp (λrec x=>z113.l2P a b rec some x) x
def z113.l0aP (a b:J0) {R:Type} (rec done:(J0×Int×J0)->Option R):(J0×Int×J0)->Option R:=λx=>match x with
 |(c,d,e)=>(bif (decide (d>=0)) then (if 0<=d/\d<(a.length:Int) then (if (([(a.getD (d).toNat 0)]).length+(c).length)*8<=140737488355328 then ((z14.F ([(a.getD (d).toNat 0)]++c)).bind λg=>((z113.l2 b g ((0:Int),(9999:Int))).bind λh=>(if 0<=d/\d<(e.length:Int) then (if (d).toNat<e.length then ((z8.F h.1).bind λj=>((z15.F b j).bind λk=>((z107.F g k).bind λm=>(rec (m,(wr .i64 (d-1)),(e.set (d).toNat h.1)))))) else none) else none))) else none) else none) else (done (c,d,e)))
def z113.l0a (a b:J0) (x:(J0×Int×J0)):Option ((J0×Int×J0)):=lfp (λrec x=>z113.l0aP a b rec some x) x
def z113.F (a0 a1:J0):Option (J0×J0):=
 (if 0<=(((a0).length:Nat):Int)/\(((a0).length:Nat):Int)*8<=140737488355328 then ((z113.l0a a0 a1 ([],(wr .i64 ((((a0).length:Nat):Int)-1)),(List.replicate ((((a0).length:Nat):Int)).toNat (0:Int)))).bind λo1=>((z14.F o1.2.2).bind λr2=>(some (r2,o1.1)))) else none)
def z113.enc (r:J0×J0):V:=(.tup [(.ints false .i64 r.1),(.ints false .i64 r.2)])
def z113.pack:List V->Option Pack
 |[(.ints _ .i64 a0),(.ints _ .i64 a1)]=>some ⟨J0×J0,z113.F a0 a1,z113.enc⟩
 |_=>none
def z114.l0P {R:Type} (rec done:(J0×J0)->Option R):(J0×J0)->Option R:=λx=>match x with
 |(a,b)=>(bif (decide ((((b).length:Nat):Int)>0)) then ((z113.F a b).bind λc=>(rec (b,c.2))) else (done (a,b)))
def z114.l0 (x:(J0×J0)):Option ((J0×J0)):=lfp (λrec x=>z114.l0P rec some x) x
def z114.F (a0 a1:J0):Option (J0):=
 ((z114.l0 (a0,a1)).bind λo1=>(some o1.1))
def z114.pack:List V->Option Pack
 |[(.ints _ .i64 a0),(.ints _ .i64 a1)]=>some ⟨J0,z114.F a0 a1,z8.enc⟩
 |_=>none
def z115.F (a0:J0) (a1:Bool) (a2:J0):Option (J0×Bool×J0):=
 ((z114.F a0 a2).bind λr1=>((z113.F a0 r1).bind λr2=>((z113.F a2 r1).bind λr3=>((z7.F r2.1 a1).bind λr4=>(some (r4.1,r4.2,r3.1))))))
def z115.enc (r:J0×Bool×J0):V:=(.agg [(.ints false .i64 r.1),(.bool r.2.1),(.ints false .i64 r.2.2)])
def z115.pack:List V->Option Pack
 |[(.agg [(.ints _ .i64 a0),(.bool a1)]),(.ints _ .i64 a2)]=>some ⟨J0×Bool×J0,z115.F a0 a1 a2,z115.enc⟩
 |_=>none
def z116.F (a0:J0) (a1:Bool) (a2:J0) (a3:Bool):Option (J0×Bool×J0):=
 (bif a3 then ((z104.F a0 a1).bind λr1=>((z115.F r1.1 r1.2 a2).bind λr5=>(some (r5.1,r5.2.1,r5.2.2)))) else ((z115.F a0 a1 a2).bind λr6=>(some (r6.1,r6.2.1,r6.2.2))))
def z116.pack:List V->Option Pack
 |[(.agg [(.ints _ .i64 a0),(.bool a1)]),(.agg [(.ints _ .i64 a2),(.bool a3)])]=>some ⟨J0×Bool×J0,z116.F a0 a1 a2 a3,z115.enc⟩
 |_=>none
def z117.F (a0 a1:Int):Option (J0×Bool×J0):=
 ((z9.F a0).bind λr1=>((z9.F a1).bind λr2=>((z116.F r1.1 r1.2 r2.1 r2.2).bind λr3=>(some (r3.1,r3.2.1,r3.2.2)))))
def z117.pack:List V->Option Pack
 |[(.int .i64 a0),(.int .i64 a1)]=>some ⟨J0×Bool×J0,z117.F a0 a1,z115.enc⟩
 |_=>none
def z118.j11016a {R:Type} (rec:(Int×J1×Int×Int×Bool)->Option R) (done:((Int×J1×Int×Int×Bool)⊕(Int))->Option R) (a:Bool) (b:Int) (c d:J1) (e g:Int):Option R:=
 (bif a then (if 0<=b/\b<(c.length:Int) then (if 0<=b/\b<=(wr .i64 (b+1))/\(wr .i64 (b+1))<=((c).length:Int) then (if d.length+((c.drop (b).toNat).take (((wr .i64 (b+1))).toNat-(b).toNat)).length<=9223372036854775807 then (rec ((wr .i64 (b+1)),(d++((c.drop (b).toNat).take (((wr .i64 (b+1))).toNat-(b).toNat))),e,g,(decide (((c.getD (b).toNat 0).toNat:Int)=48)))) else none) else none) else none) else (if 0<=b/\b<=(wr .i64 (b+1))/\(wr .i64 (b+1))<=((c).length:Int) then (if d.length+((c.drop (b).toNat).take (((wr .i64 (b+1))).toNat-(b).toNat)).length<=9223372036854775807 then (rec ((wr .i64 (b+1)),(d++((c.drop (b).toNat).take (((wr .i64 (b+1))).toNat-(b).toNat))),e,g,false)) else none) else none))
def z118.j11018a {R:Type} (rec:(Int×J1×Int×Int×Bool)->Option R) (done:((Int×J1×Int×Int×Bool)⊕(Int))->Option R) (a:Bool) (b:Int) (c d:J1) (e g:Int):Option R:=
 (bif a then (if 0<=b/\b<(c.length:Int) then (if 0<=b/\b<=(wr .i64 (b+1))/\(wr .i64 (b+1))<=((c).length:Int) then (if d.length+((c.drop (b).toNat).take (((wr .i64 (b+1))).toNat-(b).toNat)).length<=9223372036854775807 then (rec ((wr .i64 (b+1)),(d++((c.drop (b).toNat).take (((wr .i64 (b+1))).toNat-(b).toNat))),e,g,(decide (((c.getD (b).toNat 0).toNat:Int)=48)))) else none) else none) else none) else (if 0<=b/\b<=(wr .i64 (b+1))/\(wr .i64 (b+1))<=((c).length:Int) then (if d.length+((c.drop (b).toNat).take (((wr .i64 (b+1))).toNat-(b).toNat)).length<=9223372036854775807 then (rec ((wr .i64 (b+1)),(d++((c.drop (b).toNat).take (((wr .i64 (b+1))).toNat-(b).toNat))),e,g,false)) else none) else none))
def z118.l0b10P (a:J1) {R:Type} (rec:(Int×J1×Int×Int×Bool)->Option R) (done:((Int×J1×Int×Int×Bool)⊕(Int))->Option R):(Int×J1×Int×Int×Bool)->Option R:=λx=>match x with
 |(b,c,d,e,g)=>(bif (decide (b<(a.length:Int))) then (if 0<=b/\b<(a.length:Int) then (bif (decide (((a.getD (b).toNat 0).toNat:Int)=46)) then (bif (decide (e<0)) then (rec ((wr .i64 (b+1)),c,d,(0:Int),g)) else (if 0<=b/\b<(a.length:Int) then (bif (decide (((a.getD (b).toNat 0).toNat:Int)<48)) then (done (.inr 5)) else (if 0<=b/\b<(a.length:Int) then (bif (decide (((a.getD (b).toNat 0).toNat:Int)>57)) then (done (.inr 5)) else (bif (decide (e<0)) then (z118.j11016a rec done g b a c (wr .i64 (d+1)) e) else (z118.j11016a rec done g b a c d (wr .i64 (e+1))))) else none)) else none)) else (if 0<=b/\b<(a.length:Int) then (bif (decide (((a.getD (b).toNat 0).toNat:Int)<48)) then (done (.inr 5)) else (if 0<=b/\b<(a.length:Int) then (bif (decide (((a.getD (b).toNat 0).toNat:Int)>57)) then (done (.inr 5)) else (bif (decide (e<0)) then (z118.j11018a rec done g b a c (wr .i64 (d+1)) e) else (z118.j11018a rec done g b a c d (wr .i64 (e+1))))) else none)) else none)) else none) else (done (.inl (b,c,d,e,g))))
def z118.l0b10 (a:J1) (x:(Int×J1×Int×Int×Bool)):Option (((Int×J1×Int×Int×Bool)⊕(Int))):=lfp (λrec x=>z118.l0b10P a rec some x) x
def z118.j7 (p5:Int×J1×Int×Int×Bool) (j2:Bool):Option (J0×Bool×Int×Int):=
 (bif (decide (p5.2.2.2.1>64)) then (some ([],false,(0:Int),(10:Int))) else ((z99.F p5.2.1).bind λr8=>((z7.F r8 j2).bind λr9=>(some (r9.1,r9.2,(if 0>p5.2.2.2.1 then 0 else p5.2.2.2.1),(0:Int))))))
def z118.j3 (a0:J1) (j3:Int) (j2:Bool):Option (J0×Bool×Int×Int):=
 ((z118.l0b10 a0 (j3,([]:J1),(0:Int),(-1:Int),true)).bind λo4=>match o4 with | .inl p5=>(bif (decide (p5.2.2.1=0)) then (some ([],false,(0:Int),(5:Int))) else (bif (decide (p5.2.2.2.1=0)) then (some ([],false,(0:Int),(5:Int))) else (bif (decide (p5.2.2.1>1)) then (if (0:Int)<=(0:Int)/\(0:Int)<(p5.2.1.length:Int) then (bif (decide (((p5.2.1.getD 0 0).toNat:Int)=48)) then (some ([],false,(0:Int),(5:Int))) else (bif j2 then (bif p5.2.2.2.2 then (some ([],false,(0:Int),(5:Int))) else (z118.j7 p5 j2)) else (z118.j7 p5 j2))) else none) else (bif j2 then (bif p5.2.2.2.2 then (some ([],false,(0:Int),(5:Int))) else (z118.j7 p5 j2)) else (z118.j7 p5 j2))))) | .inr q6=>(some ([],false,(0:Int),q6)))
def z118.F (a0:J1):Option (J0×Bool×Int×Int):=
 (bif (decide ((a0.length:Int)>0)) then (if (0:Int)<=(0:Int)/\(0:Int)<(a0.length:Int) then (bif (decide (((a0.getD 0 0).toNat:Int)=45)) then (z118.j3 a0 1 true) else (z118.j3 a0 0 false)) else none) else (z118.j3 a0 0 false))
def z118.enc (r:J0×Bool×Int×Int):V:=(.tup [(.agg [(.ints false .i64 r.1),(.bool r.2.1),(.int .i64 r.2.2.1)]),(.int .i64 r.2.2.2)])
def z118.pack:List V->Option Pack
 |[(.str a0)]=>some ⟨J0×Bool×Int×Int,z118.F a0,z118.enc⟩
 |_=>none
def z119.F (a0:J0) (a1:Bool) (a2:Int):Option (J0×Bool×J0):=
 ((z103.F a2).bind λr1=>((z115.F a0 a1 r1).bind λr2=>(some (r2.1,r2.2.1,r2.2.2))))
def z119.pack:List V->Option Pack
 |[(.agg [(.ints _ .i64 a0),(.bool a1),(.int .i64 a2)])]=>some ⟨J0×Bool×J0,z119.F a0 a1 a2,z115.enc⟩
 |_=>none
def z120.F (a0:J0) (a1:Bool) (a2 a3:J0) (a4:Bool) (a5:J0):Option (J0×Bool):=
 ((z7.F a5 false).bind λr1=>((z16.F a0 a1 r1.1 r1.2).bind λr2=>(some (r2.1,r2.2))))
def z120.pack:List V->Option Pack
 |[(.agg [(.ints _ .i64 a0),(.bool a1),(.ints _ .i64 a2)]),(.agg [(.ints _ .i64 a3),(.bool a4),(.ints _ .i64 a5)])]=>some ⟨J0×Bool,z120.F a0 a1 a2 a3 a4 a5,z7.enc⟩
 |_=>none
def z121.F (a0:J0) (a1:Bool) (a2 a3:J0) (a4:Bool) (a5:J0):Option (Int):=
 ((z120.F a0 a1 a2 a3 a4 a5).bind λr1=>((z120.F a3 a4 a5 a0 a1 a2).bind λr2=>((z111.F r1.1 r1.2 r2.1 r2.2).bind λr3=>(some r3))))
def z121.pack:List V->Option Pack
 |[(.agg [(.ints _ .i64 a0),(.bool a1),(.ints _ .i64 a2)]),(.agg [(.ints _ .i64 a3),(.bool a4),(.ints _ .i64 a5)])]=>some ⟨Int,z121.F a0 a1 a2 a3 a4 a5,z11.enc⟩
 |_=>none
def z122.F (a0:J0) (a1:Bool) (a2 a3:J0) (a4:Bool) (a5:J0):Option (J0×Bool×J0):=
 ((z120.F a0 a1 a2 a3 a4 a5).bind λr1=>((z7.F a2 false).bind λr2=>((z16.F a3 a4 r2.1 r2.2).bind λr3=>((z116.F r1.1 r1.2 r3.1 r3.2).bind λr4=>(some (r4.1,r4.2.1,r4.2.2))))))
def z122.pack:List V->Option Pack
 |[(.agg [(.ints _ .i64 a0),(.bool a1),(.ints _ .i64 a2)]),(.agg [(.ints _ .i64 a3),(.bool a4),(.ints _ .i64 a5)])]=>some ⟨J0×Bool×J0,z122.F a0 a1 a2 a3 a4 a5,z115.enc⟩
 |_=>none
def z123.j6 (r3:J0×Bool×J0):Option (J0×Bool×J0×Int):=
 ((z117.F 100 1).bind λr7=>((z122.F r3.1 r3.2.1 r3.2.2 r7.1 r7.2.1 r7.2.2).bind λr8=>(some (r8.1,r8.2.1,r8.2.2,(0:Int)))))
def z123.F (a0:J1):Option (J0×Bool×J0×Int):=
 ((z117.F 0 1).bind λr1=>(bif (decide ((a0.length:Int)>4096)) then (some (r1.1,r1.2.1,r1.2.2,(7:Int))) else ((z118.F a0).bind λr2=>(bif (!decide (r2.2.2.2=0)) then (some (r1.1,r1.2.1,r1.2.2,r2.2.2.2)) else ((z119.F r2.1 r2.2.1 r2.2.2.1).bind λr3=>((z117.F 1000 1).bind λr4=>((z121.F r3.1 r3.2.1 r3.2.2 r4.1 r4.2.1 r4.2.2).bind λr5=>(bif r2.2.1 then (some (r1.1,r1.2.1,r1.2.2,(18:Int))) else (bif (decide (r5>0)) then (some (r1.1,r1.2.1,r1.2.2,(18:Int))) else (bif (decide (r2.2.2.1>12)) then (some (r1.1,r1.2.1,r1.2.2,(18:Int))) else (z123.j6 r3)))))))))))
def z123.enc (r:J0×Bool×J0×Int):V:=(.tup [(.agg [(.ints false .i64 r.1),(.bool r.2.1),(.ints false .i64 r.2.2.1)]),(.int .i64 r.2.2.2)])
def z123.pack:List V->Option Pack
 |[(.str a0)]=>some ⟨J0×Bool×J0×Int,z123.F a0,z123.enc⟩
 |_=>none
def z124.F (a0 a1 a2:Int):Option (Bool):=
 ((z11.F a0 a1).bind λr1=>(bif (decide (a2>=1)) then (some (decide (a2<=r1))) else (some false)))
def z124.pack:List V->Option Pack
 |[(.agg [(.int .i64 a0),(.int .i64 a1),(.int .i64 a2)])]=>some ⟨Bool,z124.F a0 a1 a2,z10.enc⟩
 |_=>none
def z125.l0P {R:Type} (rec done:(Int×Int)->Option R):(Int×Int)->Option R:=λx=>match x with
 |(a,b)=>(bif (decide (b>12)) then (rec ((wr .i64 (a+1)),(wr .i64 (b-12)))) else (done (a,b)))
def z125.l0 (x:(Int×Int)):Option ((Int×Int)):=lfp (λrec x=>z125.l0P rec some x) x
def z125.l2P {R:Type} (rec done:(Int×Int)->Option R):(Int×Int)->Option R:=λx=>match x with
 |(a,b)=>(bif (decide (b<1)) then (rec ((wr .i64 (a-1)),(wr .i64 (b+12)))) else (done (a,b)))
def z125.l2 (x:(Int×Int)):Option ((Int×Int)):=lfp (λrec x=>z125.l2P rec some x) x
def z125.j1 (a0 a1 a3 a2:Int):Option (Int×Int×Int×Bool):=
 ((z125.l0 (a0,(wr .i64 (a1+a3)))).bind λo2=>((z125.l2 (o2.1,o2.2)).bind λo3=>(bif (decide (o3.1<1)) then (some ((0:Int),(0:Int),(0:Int),false)) else (bif (decide (o3.1>9999)) then (some ((0:Int),(0:Int),(0:Int),false)) else ((z11.F o3.1 o3.2).bind λr7=>(some (o3.1,o3.2,(if r7<a2 then r7 else a2),true)))))))
def z125.F (a0 a1 a2 a3:Int):Option (Int×Int×Int×Bool):=
 (bif (decide (a3>200000)) then (some ((0:Int),(0:Int),(0:Int),false)) else (bif (decide (a3<(-200000:Int))) then (some ((0:Int),(0:Int),(0:Int),false)) else (z125.j1 a0 a1 a3 a2)))
def z125.enc (r:Int×Int×Int×Bool):V:=(.tup [(.agg [(.int .i64 r.1),(.int .i64 r.2.1),(.int .i64 r.2.2.1)]),(.bool r.2.2.2)])
def z125.pack:List V->Option Pack
 |[(.agg [(.int .i64 a0),(.int .i64 a1),(.int .i64 a2)]),(.int .i64 a3)]=>some ⟨Int×Int×Int×Bool,z125.F a0 a1 a2 a3,z125.enc⟩
 |_=>none
def z126.j5 (a5 a6 a7 a8 a9:Int):Option (Int):=
 ((z124.F a5 a6 a7).bind λr6=>(bif (!r6) then (some 11) else ((z125.F a5 a6 a7 (wr .i64 (a8*a9))).bind λr7=>(bif (!r7.2.2.2) then (some 11) else (some 0)))))
def z126.j4 (a9 a5 a6 a7 a8:Int):Option (Int):=
 (bif (decide (a9<1)) then (some 6) else (bif (decide (a9>1200)) then (some 6) else (z126.j5 a5 a6 a7 a8 a9)))
def z126.j3 (a2 a3 a4:Int) (j3:Bool) (a9 a5 a6 a7 a8:Int):Option (Int):=
 (bif (decide (a2<0)) then (some 2) else (bif (decide (a2>2)) then (some 2) else (bif (decide (a3<0)) then (some 2) else (bif (decide (a3>2)) then (some 2) else (bif (decide (a4<0)) then (some 2) else (bif (decide (a4>4)) then (some 2) else (bif (!j3) then (some 2) else (z126.j4 a9 a5 a6 a7 a8))))))))
def z126.F (a0 a1:J1) (a2 a3 a4 a5 a6 a7 a8 a9:Int):Option (Int):=
 ((z112.F a0).bind λr1=>(bif (!decide (r1.2.2=0)) then (some r1.2.2) else (bif (decide ((((r1.1).length:Nat):Int)=0)) then (some 19) else ((z123.F a1).bind λr2=>(bif (!decide (r2.2.2.2=0)) then (some r2.2.2.2) else (bif (decide (a8=1)) then (z126.j3 a2 a3 a4 true a9 a5 a6 a7 a8) else (bif (decide (a8=2)) then (z126.j3 a2 a3 a4 true a9 a5 a6 a7 a8) else (bif (decide (a8=3)) then (z126.j3 a2 a3 a4 true a9 a5 a6 a7 a8) else (bif (decide (a8=4)) then (z126.j3 a2 a3 a4 true a9 a5 a6 a7 a8) else (bif (decide (a8=6)) then (z126.j3 a2 a3 a4 true a9 a5 a6 a7 a8) else (z126.j3 a2 a3 a4 (decide (a8=12)) a9 a5 a6 a7 a8)))))))))))
def z126.pack:List V->Option Pack
 |[(.agg [(.str a0),(.str a1),(.int .i64 a2),(.int .i64 a3),(.int .i64 a4),(.int .i64 a5),(.int .i64 a6),(.int .i64 a7),(.int .i64 a8),(.int .i64 a9)])]=>some ⟨Int,z126.F a0 a1 a2 a3 a4 a5 a6 a7 a8 a9,z11.enc⟩
 |_=>none
def z127.l0P (a b c d e:Int) {R:Type} (rec:(Int×J2)->Option R) (done:((Int×J2)⊕(J2×Int×J2))->Option R):(Int×J2)->Option R:=λx=>match x with
 |(g,h)=>(bif (decide (g<=b)) then (bif (decide (a>200000)) then (done (.inr ([],(11:Int),h))) else ((z125.F c d e (wr .i64 (g*a))).bind λj=>(bif (!j.2.2.2) then (done (.inr ([],(11:Int),h))) else (if ((h).length+(([[(.int .i64 j.1),(.int .i64 j.2.1),(.int .i64 j.2.2.1)]]:J2)).length)*24<=140737488355328 then (rec ((wr .i64 (g+1)),(h++([[(.int .i64 j.1),(.int .i64 j.2.1),(.int .i64 j.2.2.1)]]:J2)))) else none)))) else (done (.inl (g,h))))
def z127.l0 (a b c d e:Int) (x:(Int×J2)):Option (((Int×J2)⊕(J2×Int×J2))):=lfp (λrec x=>z127.l0P a b c d e rec some x) x
def z127.j1 (a0 a1 a2 a3 a4:Int):Option (J2×Int):=
 ((z124.F a0 a1 a2).bind λr2=>(bif (!r2) then (some ([],(11:Int))) else ((z127.l0 a3 a4 a0 a1 a2 ((1:Int),[])).bind λo3=>match o3 with | .inl p4=>(some (p4.2,(0:Int))) | .inr q5=>(some (q5.1,q5.2.1)))))
def z127.F (a0 a1 a2 a3 a4:Int):Option (J2×Int):=
 (bif (decide (a3<1)) then (some ([],(2:Int))) else (bif (decide (a4<0)) then (some ([],(2:Int))) else (bif (decide (a4>1200)) then (some ([],(2:Int))) else (z127.j1 a0 a1 a2 a3 a4))))
def z127.pack:List V->Option Pack
 |[(.agg [(.int .i64 a0),(.int .i64 a1),(.int .i64 a2)]),(.int .i64 a3),(.int .i64 a4)]=>some ⟨J2×Int,z127.F a0 a1 a2 a3 a4,z92.enc⟩
 |_=>none
def z128.F (a0 a1:J1) (a2 a3 a4 a5 a6 a7 a8 a9:Int):Option (J2×Int):=
 ((z126.F a0 a1 a2 a3 a4 a5 a6 a7 a8 a9).bind λr1=>(bif (!decide (r1=0)) then (some ([],r1)) else ((z127.F a5 a6 a7 a8 a9).bind λr2=>(some (r2.1,r2.2)))))
def z128.pack:List V->Option Pack
 |[(.agg [(.str a0),(.str a1),(.int .i64 a2),(.int .i64 a3),(.int .i64 a4),(.int .i64 a5),(.int .i64 a6),(.int .i64 a7),(.int .i64 a8),(.int .i64 a9)])]=>some ⟨J2×Int,z128.F a0 a1 a2 a3 a4 a5 a6 a7 a8 a9,z92.enc⟩
 |_=>none
def z129.l0P (a:J2) {R:Type} (rec done:(Int×J2×Int×Int×Int)->Option R):(Int×J2×Int×Int×Int)->Option R:=λx=>match x with
 |(b,c,d,e,g)=>(bif (decide (b<(((a).length:Nat):Int))) then (if 0<=b/\b<(a.length:Int) then (V.asInt .i64 (((a.getD (b).toNat [])).getD 0 .undef) λh=>(V.asInt .i64 (((a.getD (b).toNat [])).getD 1 .undef) λj=>(V.asInt .i64 (((a.getD (b).toNat [])).getD 2 .undef) λk=>(if ((c).length+(([[(.int .i64 d),(.int .i64 e),(.int .i64 g),(.int .i64 h),(.int .i64 j),(.int .i64 k)]]:J2)).length)*48<=140737488355328 then (if 0<=b/\b<(a.length:Int) then (V.asInt .i64 (((a.getD (b).toNat [])).getD 0 .undef) λm=>(V.asInt .i64 (((a.getD (b).toNat [])).getD 1 .undef) λn=>(V.asInt .i64 (((a.getD (b).toNat [])).getD 2 .undef) λo=>(rec ((wr .i64 (b+1)),(c++([[(.int .i64 d),(.int .i64 e),(.int .i64 g),(.int .i64 h),(.int .i64 j),(.int .i64 k)]]:J2)),m,n,o))))) else none) else none)))) else none) else (done (b,c,d,e,g)))
def z129.l0 (a:J2) (x:(Int×J2×Int×Int×Int)):Option ((Int×J2×Int×Int×Int)):=lfp (λrec x=>z129.l0P a rec some x) x
def z129.F (a0 a1:J1) (a2 a3 a4 a5 a6 a7 a8 a9:Int):Option (J2):=
 ((z128.F a0 a1 a2 a3 a4 a5 a6 a7 a8 a9).bind λr1=>((z129.l0 r1.1 ((0:Int),[],a5,a6,a7)).bind λo2=>(some o2.2.1)))
def z129.enc (r:J2):V:=(.recs false 6 r)
def z129.pack:List V->Option Pack
 |[(.agg [(.str a0),(.str a1),(.int .i64 a2),(.int .i64 a3),(.int .i64 a4),(.int .i64 a5),(.int .i64 a6),(.int .i64 a7),(.int .i64 a8),(.int .i64 a9)])]=>some ⟨J2,z129.F a0 a1 a2 a3 a4 a5 a6 a7 a8 a9,z129.enc⟩
 |_=>none
def z130.l0b4P (a:Int) {R:Type} (rec done:(Int×Int×J0)->Option R):(Int×Int×J0)->Option R:=λx=>match x with
 |(b,c,d)=>(bif (decide (b>0)) then (if 0<=(wr .i64 (c-1))/\(wr .i64 (c-1))<20 then (if ((wr .i64 (c-1))).toNat<d.length then (rec ((wr .u64 (Int.tdiv b 10)),(wr .i64 (c-1)),(d.set ((wr .i64 (c-1))).toNat (wr .u8 (wr .u64 ((48:Int)+(Int.tmod b 10))))))) else none) else none) else (bif (decide ((wr .i64 ((20:Int)-c))<a)) then (if 0<=(wr .i64 (c-1))/\(wr .i64 (c-1))<20 then (if ((wr .i64 (c-1))).toNat<d.length then (rec ((wr .u64 (Int.tdiv b 10)),(wr .i64 (c-1)),(d.set ((wr .i64 (c-1))).toNat (wr .u8 (wr .u64 ((48:Int)+(Int.tmod b 10))))))) else none) else none) else (done (b,c,d))))
def z130.l0b4 (a:Int) (x:(Int×Int×J0)):Option ((Int×Int×J0)):=lfp (λrec x=>z130.l0b4P a rec some x) x
def z130.F (a0 a1:Int):Option (J1):=
 ((z130.l0b4 a1 (a0,(20:Int),(List.replicate 20 0))).bind λo1=>(if (o1.2.2).length=20 then (if 0<=o1.2.1/\o1.2.1<=20 then (some (((o1.2.2.drop (o1.2.1).toNat).take (20-(o1.2.1).toNat)).map λn=>UInt8.ofNat n.toNat)) else none) else none))
def z130.pack:List V->Option Pack
 |[(.int .u64 a0),(.int .i64 a1)]=>some ⟨J1,z130.F a0 a1,z5.enc⟩
 |_=>none
def z131.l2P (a:J0) (b:Int) {R:Type} (rec done:(Int×Int)->Option R):(Int×Int)->Option R:=λx=>match x with
 |(c,d)=>(bif (decide (d<b)) then (if 0<=d/\d<(a.length:Int) then (rec ((a.getD (d).toNat 0),(wr .i64 (d+1)))) else none) else (done (c,d)))
def z131.l2 (a:J0) (b:Int) (x:(Int×Int)):Option ((Int×Int)):=lfp (λrec x=>z131.l2P a b rec some x) x
def z131.j1010a {R:Type} (rec done:(J0×(List J1))->Option R) (a:Int×Int) (b:Int) (c:List J1) (d:J0×J0×Int):Option R:=
 ((z130.F a.1 b).bind λe=>(if ((c).length+([e]).length)*16<=140737488355328 then (rec (d.1,(c++[e]))) else none))
def z131.l0P {R:Type} (rec done:(J0×(List J1))->Option R):(J0×(List J1))->Option R:=λx=>match x with
 |(a,b)=>((z19.F a).bind λc=>(bif (!c) then ((z38.F [(1000000000000000000:Int)]).bind λd=>((z68.F a d).bind λe=>((z60.F e.2.1).bind λg=>((z131.l2 g (((g).length:Nat):Int) ((0:Int),(0:Int))).bind λh=>((z19.F e.1).bind λj=>(bif j then (z131.j1010a rec done h 1 b e) else (z131.j1010a rec done h 18 b e))))))) else (done (a,b))))
def z131.l0 (x:(J0×(List J1))):Option ((J0×(List J1))):=lfp (λrec x=>z131.l0P rec some x) x
def z131.l4P (a:List J1) {R:Type} (rec done:(Int×J0)->Option R):(Int×J0)->Option R:=λx=>match x with
 |(b,d)=>(bif (decide (b>=0)) then (if 0<=b/\b<(a.length:Int) then (if (b).toNat<a.length then (if ((d).length+(((a.getD (b).toNat []).map λc=>(c.toNat:Int))).length)*1<=140737488355328 then (rec ((wr .i64 (b-1)),(d++((a.getD (b).toNat []).map λc=>(c.toNat:Int))))) else none) else none) else none) else (done (b,d)))
def z131.l4 (a:List J1) (x:(Int×J0)):Option ((Int×J0)):=lfp (λrec x=>z131.l4P a rec some x) x
def z131.F (a0:J0):Option (J1):=
 ((z19.F a0).bind λr1=>(bif r1 then (some ([48]:J1)) else ((z131.l0 (a0,[])).bind λo2=>(bif (decide ((wr .i64 ((((o2.2).length:Nat):Int)-1))>=0)) then (if 0<=(wr .i64 ((((o2.2).length:Nat):Int)-1))/\(wr .i64 ((((o2.2).length:Nat):Int)-1))<(o2.2.length:Int) then (if ((wr .i64 ((((o2.2).length:Nat):Int)-1))).toNat<o2.2.length then (if (([]:J0).length+(((o2.2.getD ((wr .i64 ((((o2.2).length:Nat):Int)-1))).toNat []).map λc=>(c.toNat:Int))).length)*1<=140737488355328 then ((z131.l4 o2.2 ((wr .i64 ((wr .i64 ((((o2.2).length:Nat):Int)-1))-1)),([]++((o2.2.getD ((wr .i64 ((((o2.2).length:Nat):Int)-1))).toNat []).map λc=>(c.toNat:Int))))).bind λo3=>(if 0<(o3.2).length then (if (((o3.2).length:Nat):Int)=(o3.2.length:Int)/\0<o3.2.length/\o3.2.all Qb2=true then (some (o3.2.map λn=>UInt8.ofNat n.toNat)) else none) else none)) else none) else none) else none) else none))))
def z131.pack:List V->Option Pack
 |[(.agg [(.ints _ .u64 a0)])]=>some ⟨J1,z131.F a0,z5.enc⟩
 |_=>none
def z132.F (a0:J0) (a1:Bool):Option (J1):=
 (bif a1 then ((z131.F a0).bind λr1=>(if ([45]:J1).length+r1.length<=9223372036854775807 then (some (([45]:J1)++r1)) else none)) else ((z131.F a0).bind λr2=>(some r2)))
def z132.pack:List V->Option Pack
 |[(.agg [(.ints _ .u64 a0),(.bool a1)])]=>some ⟨J1,z132.F a0 a1,z5.enc⟩
 |_=>none
def z133.F (a0:J0) (a1:Bool) (a2:J0):Option (Int):=
 ((z20.F a0 a1).bind λr1=>(some r1))
def z133.pack:List V->Option Pack
 |[(.agg [(.ints _ .u64 a0),(.bool a1),(.ints _ .u64 a2)])]=>some ⟨Int,z133.F a0 a1 a2,z11.enc⟩
 |_=>none
def z134.F (a0:J0) (a1:Bool) (a2:J0):Option (J0×Bool):=
 (some (a0,a1))
def z134.pack:List V->Option Pack
 |[(.agg [(.ints _ .u64 a0),(.bool a1),(.ints _ .u64 a2)])]=>some ⟨J0×Bool,z134.F a0 a1 a2,z21.enc⟩
 |_=>none
def z135.F (a0:Int) (a1 a2 a3:J0):Option (Bool):=
 ((z24.F a2 a2).bind λr1=>((z29.F r1 a3).bind λr2=>(bif (decide (a0=1)) then (some true) else (bif (decide (a0=2)) then (some (decide (r2>=0))) else (bif (decide (a0=3)) then (some (decide (r2>0))) else (bif (decide (a0=4)) then ((z60.F a1).bind λr3=>(bif (decide ((((r3).length:Nat):Int)>0)) then ((z60.F a1).bind λr4=>(if (0:Int)<=(0:Int)/\(0:Int)<(r4.length:Int) then (bif (decide (r2>0)) then (some true) else (bif (decide (r2=0)) then (some (decide ((wr .u64 ((BitVec.ofInt (IntKind.bits .u64) (r4.getD 0 0) &&& BitVec.ofInt (IntKind.bits .u64) 1).toNat:Int))=1))) else (some false))) else none)) else (bif (decide (r2>0)) then (some true) else (bif (decide (r2=0)) then (some false) else (some false))))) else (some false)))))))
def z135.pack:List V->Option Pack
 |[(.int .i64 a0),(.agg [(.ints _ .u64 a1)]),(.agg [(.ints _ .u64 a2)]),(.agg [(.ints _ .u64 a3)])]=>some ⟨Bool,z135.F a0 a1 a2 a3,z10.enc⟩
 |_=>none
def z136.j14 (a0:J0) (a1:Bool) (a2 j14:J0):Option (J0×Bool×Int):=
 ((z133.F a0 a1 a2).bind λr15=>((z21.F j14 (decide (r15<0))).bind λr16=>(some (r16.1,r16.2,(0:Int)))))
def z136.F (a0:J0) (a1:Bool) (a2:J0) (a3:Int):Option (J0×Bool×Int):=
 ((z79.F a3).bind λr1=>(bif (!r1) then (some ([],false,(2:Int))) else ((z134.F a0 a1 a2).bind λr2=>((z59.F r2.1 r2.2).bind λr3=>((z73.F a0 a1 a2).bind λr4=>((z68.F r3 r4).bind λr5=>((z19.F r5.2.1).bind λr6=>(bif (!r6) then ((z73.F a0 a1 a2).bind λr7=>((z135.F a3 r5.1 r5.2.1 r7).bind λr8=>(bif r8 then ((z38.F [(1:Int)]).bind λr12=>((z24.F r5.1 r12).bind λr13=>(z136.j14 a0 a1 a2 r13))) else (z136.j14 a0 a1 a2 r5.1)))) else (z136.j14 a0 a1 a2 r5.1)))))))))
def z136.pack:List V->Option Pack
 |[(.agg [(.ints _ .u64 a0),(.bool a1),(.ints _ .u64 a2)]),(.int .i64 a3)]=>some ⟨J0×Bool×Int,z136.F a0 a1 a2 a3,z42.enc⟩
 |_=>none
def z137.F (a0:J0) (a1:Bool) (a2 a3:J0) (a4:Bool) (a5:J0):Option (J0×Bool×J0):=
 ((z74.F a3 a4 a5).bind λr1=>((z54.F a0 a1 r1.1 r1.2).bind λr2=>((z74.F a0 a1 a2).bind λr3=>((z54.F a3 a4 r3.1 r3.2).bind λr4=>((z31.F r2.1 r2.2 r4.1 r4.2).bind λr5=>((z73.F a0 a1 a2).bind λr6=>((z73.F a3 a4 a5).bind λr7=>((z40.F r6 r7).bind λr8=>((z70.F r5.1 r5.2 r8).bind λr9=>(some (r9.1,r9.2.1,r9.2.2)))))))))))
def z137.pack:List V->Option Pack
 |[(.agg [(.ints _ .u64 a0),(.bool a1),(.ints _ .u64 a2)]),(.agg [(.ints _ .u64 a3),(.bool a4),(.ints _ .u64 a5)])]=>some ⟨J0×Bool×J0,z137.F a0 a1 a2 a3 a4 a5,z47.enc⟩
 |_=>none
def z138.F (a0:J0) (a1:Bool) (a2 a3:J0) (a4:Bool) (a5:J0):Option (J0×Bool×J0):=
 ((z54.F a0 a1 a3 a4).bind λr1=>((z73.F a0 a1 a2).bind λr2=>((z73.F a3 a4 a5).bind λr3=>((z40.F r2 r3).bind λr4=>((z70.F r1.1 r1.2 r4).bind λr5=>(some (r5.1,r5.2.1,r5.2.2)))))))
def z138.pack:List V->Option Pack
 |[(.agg [(.ints _ .u64 a0),(.bool a1),(.ints _ .u64 a2)]),(.agg [(.ints _ .u64 a3),(.bool a4),(.ints _ .u64 a5)])]=>some ⟨J0×Bool×J0,z138.F a0 a1 a2 a3 a4 a5,z47.enc⟩
 |_=>none
def z139.F (a0 a1:Int):Option (J0×Bool×J0):=
 ((z48.F a0).bind λr1=>((z48.F a1).bind λr2=>((z71.F r1.1 r1.2 r2.1 r2.2).bind λr3=>(some (r3.1,r3.2.1,r3.2.2.1)))))
def z139.pack:List V->Option Pack
 |[(.int .i64 a0),(.int .i64 a1)]=>some ⟨J0×Bool×J0,z139.F a0 a1,z47.enc⟩
 |_=>none
def z140.j6 (a3 a0 a4 a1 j6:Int):Option (J0×Bool×J0):=
 ((z139.F (wr .i64 ((wr .i64 ((wr .i64 ((wr .i64 ((360:Int)*(wr .i64 (a3-a0))))+(wr .i64 ((30:Int)*(wr .i64 (a4-a1))))))+j6))-30)) 360).bind λr7=>(some (r7.1,r7.2.1,r7.2.2)))
def z140.j9 (a3 a0 a4 a1 j9 a2:Int):Option (J0×Bool×J0):=
 ((z139.F (wr .i64 ((wr .i64 ((wr .i64 ((wr .i64 ((360:Int)*(wr .i64 (a3-a0))))+(wr .i64 ((30:Int)*(wr .i64 (a4-a1))))))+j9))-a2)) 360).bind λr10=>(some (r10.1,r10.2.1,r10.2.2)))
def z140.F (a0 a1 a2 a3 a4 a5:Int):Option (J0×Bool×J0):=
 (bif (decide (a2>30)) then (bif (decide (a5>30)) then (z140.j6 a3 a0 a4 a1 30) else (z140.j6 a3 a0 a4 a1 a5)) else (bif (decide (a5>30)) then (bif (decide (a2=30)) then (z140.j9 a3 a0 a4 a1 30 a2) else (z140.j9 a3 a0 a4 a1 a5 a2)) else (z140.j9 a3 a0 a4 a1 a5 a2)))
def z140.pack:List V->Option Pack
 |[(.agg [(.int .i64 a0),(.int .i64 a1),(.int .i64 a2)]),(.agg [(.int .i64 a3),(.int .i64 a4),(.int .i64 a5)])]=>some ⟨J0×Bool×J0,z140.F a0 a1 a2 a3 a4 a5,z47.enc⟩
 |_=>none
def z141.F (a0 a1 a2 a3 a4 a5:Int):Option (Int×Int):=
 ((z98.F a0 a1 a2).bind λr1=>(bif (!decide (r1.2=0)) then (some ((0:Int),r1.2)) else ((z98.F a3 a4 a5).bind λr2=>(bif (!decide (r2.2=0)) then (some ((0:Int),r2.2)) else (some ((wr .i64 (r2.1-r1.1)),(0:Int)))))))
def z141.pack:List V->Option Pack
 |[(.agg [(.int .i64 a0),(.int .i64 a1),(.int .i64 a2)]),(.agg [(.int .i64 a3),(.int .i64 a4),(.int .i64 a5)])]=>some ⟨Int×Int,z141.F a0 a1 a2 a3 a4 a5,z98.enc⟩
 |_=>none
def z142.F (a0 a1 a2 a3 a4 a5:Int):Option (Int):=
 ((z141.F a0 a1 a2 a3 a4 a5).bind λr1=>(some r1.1))
def z142.pack:List V->Option Pack
 |[(.agg [(.int .i64 a0),(.int .i64 a1),(.int .i64 a2)]),(.agg [(.int .i64 a3),(.int .i64 a4),(.int .i64 a5)])]=>some ⟨Int,z142.F a0 a1 a2 a3 a4 a5,z11.enc⟩
 |_=>none
def z143.F (a0:Int):Option (Int):=
 ((z87.F a0).bind λr1=>(bif r1 then (some 366) else (some 365)))
def z143.pack:List V->Option Pack
 |[(.int .i64 a0)]=>some ⟨Int,z143.F a0,z11.enc⟩
 |_=>none
def z144.F (a0 a1 a2 a3 a4 a5:Int):Option (J0×Bool×J0):=
 (bif (decide (a0=a3)) then ((z142.F a0 a1 a2 a3 a4 a5).bind λr1=>((z143.F a0).bind λr2=>((z139.F r1 r2).bind λr3=>(some (r3.1,r3.2.1,r3.2.2))))) else ((z142.F a0 a1 a2 a0 12 31).bind λr4=>((z142.F a3 1 1 a3 a4 a5).bind λr5=>((z143.F a0).bind λr6=>((z139.F (wr .i64 (r4+1)) r6).bind λr7=>((z139.F (wr .i64 ((wr .i64 (a3-a0))-1)) 1).bind λr8=>((z137.F r7.1 r7.2.1 r7.2.2 r8.1 r8.2.1 r8.2.2).bind λr9=>((z143.F a3).bind λr10=>((z139.F r5 r10).bind λr11=>((z137.F r9.1 r9.2.1 r9.2.2 r11.1 r11.2.1 r11.2.2).bind λr12=>(some (r12.1,r12.2.1,r12.2.2))))))))))))
def z144.pack:List V->Option Pack
 |[(.agg [(.int .i64 a0),(.int .i64 a1),(.int .i64 a2)]),(.agg [(.int .i64 a3),(.int .i64 a4),(.int .i64 a5)])]=>some ⟨J0×Bool×J0,z144.F a0 a1 a2 a3 a4 a5,z47.enc⟩
 |_=>none
def z145.j4 (j4:Bool) (a1 a2 a3 a4 a5 a6 a0:Int):Option (J0×Bool×J0×Int):=
 (bif j4 then (some ([],false,[],(11:Int))) else ((z96.F a1 a2 a3 a4 a5 a6).bind λr5=>(bif (decide (r5>0)) then (some ([],false,[],(12:Int))) else (bif (decide (a0=0)) then ((z140.F a1 a2 a3 a4 a5 a6).bind λr6=>(some (r6.1,r6.2.1,r6.2.2,(0:Int)))) else (bif (decide (a0=1)) then ((z142.F a1 a2 a3 a4 a5 a6).bind λr7=>((z139.F r7 365).bind λr8=>(some (r8.1,r8.2.1,r8.2.2,(0:Int))))) else ((z144.F a1 a2 a3 a4 a5 a6).bind λr9=>(some (r9.1,r9.2.1,r9.2.2,(0:Int)))))))))
def z145.F (a0 a1 a2 a3 a4 a5 a6:Int):Option (J0×Bool×J0×Int):=
 ((z82.F a0).bind λr1=>(bif (!r1) then (some ([],false,[],(2:Int))) else ((z89.F a1 a2 a3).bind λr2=>(bif (!decide (r2=0)) then (z145.j4 true a1 a2 a3 a4 a5 a6 a0) else ((z89.F a4 a5 a6).bind λr3=>(z145.j4 (!decide (r3=0)) a1 a2 a3 a4 a5 a6 a0))))))
def z145.pack:List V->Option Pack
 |[(.int .i64 a0),(.agg [(.int .i64 a1),(.int .i64 a2),(.int .i64 a3)]),(.agg [(.int .i64 a4),(.int .i64 a5),(.int .i64 a6)])]=>some ⟨J0×Bool×J0×Int,z145.F a0 a1 a2 a3 a4 a5 a6,z71.enc⟩
 |_=>none
def z146.F (a0:J0) (a1:Bool) (a2 a3:J0) (a4:Bool) (a5:J0):Option (J0×Bool×J0):=
 ((z120.F a0 a1 a2 a3 a4 a5).bind λr1=>((z120.F a3 a4 a5 a0 a1 a2).bind λr2=>((z108.F r1.1 r1.2 r2.1 r2.2).bind λr3=>((z15.F a2 a5).bind λr4=>((z115.F r3.1 r3.2 r4).bind λr5=>(some (r5.1,r5.2.1,r5.2.2)))))))
def z146.pack:List V->Option Pack
 |[(.agg [(.ints _ .i64 a0),(.bool a1),(.ints _ .i64 a2)]),(.agg [(.ints _ .i64 a3),(.bool a4),(.ints _ .i64 a5)])]=>some ⟨J0×Bool×J0,z146.F a0 a1 a2 a3 a4 a5,z115.enc⟩
 |_=>none
def z147.l0P (a:Int) {R:Type} (rec done:(Int×Int)->Option R):(Int×Int)->Option R:=λx=>match x with
 |(b,c)=>(bif (decide (c<a)) then ((z10.F c).bind λd=>(bif d then (rec ((wr .i64 ((wr .i64 (b+365))+1)),(wr .i64 (c+1)))) else (rec ((wr .i64 (b+365)),(wr .i64 (c+1)))))) else (done (b,c)))
def z147.l0 (a:Int) (x:(Int×Int)):Option ((Int×Int)):=lfp (λrec x=>z147.l0P a rec some x) x
def z147.l2P (a b:Int) {R:Type} (rec done:(Int×Int)->Option R):(Int×Int)->Option R:=λx=>match x with
 |(c,d)=>(bif (decide (d<b)) then ((z11.F a d).bind λe=>(rec ((wr .i64 (c+e)),(wr .i64 (d+1))))) else (done (c,d)))
def z147.l2 (a b:Int) (x:(Int×Int)):Option ((Int×Int)):=lfp (λrec x=>z147.l2P a b rec some x) x
def z147.F (a0 a1 a2:Int):Option (Int):=
 ((z147.l0 a0 ((0:Int),(1:Int))).bind λo1=>((z147.l2 a0 a1 (o1.1,(1:Int))).bind λo2=>(some (wr .i64 (o2.1+a2)))))
def z147.pack:List V->Option Pack
 |[(.agg [(.int .i64 a0),(.int .i64 a1),(.int .i64 a2)])]=>some ⟨Int,z147.F a0 a1 a2,z11.enc⟩
 |_=>none
def z148.j6 (a4 a1 a5 a2 j6:Int):Option (J0×Bool×J0):=
 ((z117.F (wr .i64 ((wr .i64 ((wr .i64 ((wr .i64 ((360:Int)*(wr .i64 (a4-a1))))+(wr .i64 ((30:Int)*(wr .i64 (a5-a2))))))+j6))-30)) 360).bind λr7=>(some (r7.1,r7.2.1,r7.2.2)))
def z148.j9 (a4 a1 a5 a2 j9 a3:Int):Option (J0×Bool×J0):=
 ((z117.F (wr .i64 ((wr .i64 ((wr .i64 ((wr .i64 ((360:Int)*(wr .i64 (a4-a1))))+(wr .i64 ((30:Int)*(wr .i64 (a5-a2))))))+j9))-a3)) 360).bind λr10=>(some (r10.1,r10.2.1,r10.2.2)))
def z148.j1015a {R:Type} (rec done:(Int×J0×Bool×J0)->Option R) (a b c d:Int) (e:J0) (g:Bool) (h:J0) (j:Int):Option R:=
 ((z117.F (wr .i64 ((if a<(wr .i64 (b+c)) then a else (wr .i64 (b+c)))-(if d>b then d else b))) c).bind λk=>((z146.F e g h k.1 k.2.1 k.2.2).bind λm=>(rec ((wr .i64 (j+1)),m.1,m.2.1,m.2.2))))
def z148.l0P (a b c:Int) {R:Type} (rec done:(Int×J0×Bool×J0)->Option R):(Int×J0×Bool×J0)->Option R:=λx=>match x with
 |(d,e,g,h)=>(bif (decide (d<=c)) then ((z147.F d 1 1).bind λj=>((z10.F d).bind λk=>(bif k then (z148.j1015a rec done b j 366 a e g h d) else (z148.j1015a rec done b j 365 a e g h d)))) else (done (d,e,g,h)))
def z148.l0 (a b c:Int) (x:(Int×J0×Bool×J0)):Option ((Int×J0×Bool×J0)):=lfp (λrec x=>z148.l0P a b c rec some x) x
def z148.F (a0 a1 a2 a3 a4 a5 a6:Int):Option (J0×Bool×J0):=
 (bif (decide (a0=0)) then (bif (decide (a3=31)) then (bif (decide (a6=31)) then (z148.j6 a4 a1 a5 a2 30) else (z148.j6 a4 a1 a5 a2 a6)) else (bif (decide (a6=31)) then (bif (decide (a3=30)) then (z148.j9 a4 a1 a5 a2 30 a3) else (z148.j9 a4 a1 a5 a2 a6 a3)) else (z148.j9 a4 a1 a5 a2 a6 a3))) else ((z147.F a1 a2 a3).bind λr11=>((z147.F a4 a5 a6).bind λr12=>(bif (decide (a0=1)) then ((z117.F (wr .i64 (r12-r11)) 365).bind λr13=>(some (r13.1,r13.2.1,r13.2.2))) else ((z117.F 0 1).bind λr14=>((z148.l0 r11 r12 a4 (a1,r14.1,r14.2.1,r14.2.2)).bind λo15=>(some (o15.2.1,o15.2.2.1,o15.2.2.2))))))))
def z148.pack:List V->Option Pack
 |[(.int .i64 a0),(.agg [(.int .i64 a1),(.int .i64 a2),(.int .i64 a3)]),(.agg [(.int .i64 a4),(.int .i64 a5),(.int .i64 a6)])]=>some ⟨J0×Bool×J0,z148.F a0 a1 a2 a3 a4 a5 a6,z115.enc⟩
 |_=>none
def z149.F (a0:J0) (a1:Bool):Option (J0×Bool×J0):=
 (some (a0,a1,[(1:Int)]))
def z149.pack:List V->Option Pack
 |[(.agg [(.ints _ .i64 a0),(.bool a1)])]=>some ⟨J0×Bool×J0,z149.F a0 a1,z115.enc⟩
 |_=>none
def z150.F (a0:J0) (a1:Bool) (a2 a3:J0) (a4:Bool) (a5:J0):Option (J0×Bool×J0):=
 ((z16.F a0 a1 a3 a4).bind λr1=>((z15.F a2 a5).bind λr2=>((z115.F r1.1 r1.2 r2).bind λr3=>(some (r3.1,r3.2.1,r3.2.2)))))
def z150.pack:List V->Option Pack
 |[(.agg [(.ints _ .i64 a0),(.bool a1),(.ints _ .i64 a2)]),(.agg [(.ints _ .i64 a3),(.bool a4),(.ints _ .i64 a5)])]=>some ⟨J0×Bool×J0,z150.F a0 a1 a2 a3 a4 a5,z115.enc⟩
 |_=>none
def z151.j11 (j11:Bool) (r2:J0) (a1:Bool) (r1:J0×J0):Option (J0×Bool):=
 (bif j11 then ((z7.F r2 a1).bind λr12=>(some (r12.1,r12.2))) else ((z7.F r1.1 a1).bind λr13=>(some (r13.1,r13.2))))
def z151.j9 (a3 r4:Int) (r2:J0) (a1:Bool) (r1 r5:J0×J0) (j9:Bool):Option (J0×Bool):=
 (bif (decide (a3=4)) then (bif (decide (r4>0)) then (z151.j11 true r2 a1 r1) else (bif (decide (r4=0)) then (z151.j11 (decide ((((r5.2).length:Nat):Int)>0)) r2 a1 r1) else (z151.j11 false r2 a1 r1))) else (z151.j11 j9 r2 a1 r1))
def z151.j10 (a3 r4:Int) (r2:J0) (a1:Bool) (r1 r5:J0×J0) (j10:Bool):Option (J0×Bool):=
 (bif (decide (a3=4)) then (bif (decide (r4>0)) then (z151.j11 true r2 a1 r1) else (bif (decide (r4=0)) then (z151.j11 (decide ((((r5.2).length:Nat):Int)>0)) r2 a1 r1) else (z151.j11 false r2 a1 r1))) else (z151.j11 j10 r2 a1 r1))
def z151.j6 (a3 r4:Int) (r2:J0) (a1:Bool) (r1 r5:J0×J0) (j6:Bool):Option (J0×Bool):=
 (bif (decide (a3=2)) then (bif (decide (a3=3)) then (z151.j9 a3 r4 r2 a1 r1 r5 (decide (r4>0))) else (z151.j9 a3 r4 r2 a1 r1 r5 (decide (r4>=0)))) else (bif (decide (a3=3)) then (z151.j10 a3 r4 r2 a1 r1 r5 (decide (r4>0))) else (z151.j10 a3 r4 r2 a1 r1 r5 j6)))
def z151.F (a0:J0) (a1:Bool) (a2:J0) (a3:Int):Option (J0×Bool):=
 ((z113.F a0 a2).bind λr1=>((z105.F r1.1 [(1:Int)]).bind λr2=>((z15.F r1.2 [(2:Int)]).bind λr3=>((z106.F r3 a2).bind λr4=>((z113.F r1.1 [(2:Int)]).bind λr5=>(bif (decide ((((r1.2).length:Nat):Int)>0)) then (bif (decide (a3=1)) then (z151.j6 a3 r4 r2 a1 r1 r5 true) else (z151.j6 a3 r4 r2 a1 r1 r5 false)) else (z151.j11 false r2 a1 r1)))))))
def z151.pack:List V->Option Pack
 |[(.agg [(.ints _ .i64 a0),(.bool a1),(.ints _ .i64 a2)]),(.int .i64 a3)]=>some ⟨J0×Bool,z151.F a0 a1 a2 a3,z7.enc⟩
 |_=>none
def z152.F (a0:J0) (a1:Bool) (a2 a3:J1) (a4 a5 a6 a7 a8 a9 a10 a11 a12 a13 a14 a15 a16 a17:Int):Option (J0×Bool×Int):=
 ((z91.F a2 a3 a4 a5 a6 a7 a8 a9 a10 a11).bind λr1=>(bif (!decide (r1=0)) then (some ([],false,r1)) else ((z145.F a5 a12 a13 a14 a15 a16 a17).bind λr2=>(bif (!decide (r2.2.2.2=0)) then (some ([],false,r2.2.2.2)) else ((z76.F a3).bind λr3=>((z47.F a0 a1).bind λr4=>((z138.F r4.1 r4.2.1 r4.2.2 r3.1 r3.2.1 r3.2.2.1).bind λr5=>((z138.F r5.1 r5.2.1 r5.2.2 r2.1 r2.2.1 r2.2.2.1).bind λr6=>((z136.F r6.1 r6.2.1 r6.2.2 a6).bind λr7=>(some (r7.1,r7.2.1,r7.2.2)))))))))))
def z152.pack:List V->Option Pack
 |[(.agg [(.ints _ .u64 a0),(.bool a1)]),(.agg [(.str a2),(.str a3),(.int .i64 a4),(.int .i64 a5),(.int .i64 a6),(.int .i64 a7),(.int .i64 a8),(.int .i64 a9),(.int .i64 a10),(.int .i64 a11)]),(.agg [(.int .i64 a12),(.int .i64 a13),(.int .i64 a14)]),(.agg [(.int .i64 a15),(.int .i64 a16),(.int .i64 a17)])]=>some ⟨J0×Bool×Int,z152.F a0 a1 a2 a3 a4 a5 a6 a7 a8 a9 a10 a11 a12 a13 a14 a15 a16 a17,z42.enc⟩
 |_=>none
def z153.F (a0:J0) (a1:Bool) (a2 a3:J1) (a4 a5 a6 a7 a8 a9 a10 a11 a12 a13 a14 a15 a16 a17:Int):Option (J0×Bool):=
 ((z123.F a3).bind λr1=>((z148.F a5 a12 a13 a14 a15 a16 a17).bind λr2=>((z149.F a0 a1).bind λr3=>((z150.F r3.1 r3.2.1 r3.2.2 r1.1 r1.2.1 r1.2.2.1).bind λr4=>((z150.F r4.1 r4.2.1 r4.2.2 r2.1 r2.2.1 r2.2.2).bind λr5=>((z151.F r5.1 r5.2.1 r5.2.2 a6).bind λr6=>(some (r6.1,r6.2))))))))
def z153.pack:List V->Option Pack
 |[(.agg [(.ints _ .i64 a0),(.bool a1)]),(.agg [(.str a2),(.str a3),(.int .i64 a4),(.int .i64 a5),(.int .i64 a6),(.int .i64 a7),(.int .i64 a8),(.int .i64 a9),(.int .i64 a10),(.int .i64 a11)]),(.agg [(.int .i64 a12),(.int .i64 a13),(.int .i64 a14)]),(.agg [(.int .i64 a15),(.int .i64 a16),(.int .i64 a17)])]=>some ⟨J0×Bool,z153.F a0 a1 a2 a3 a4 a5 a6 a7 a8 a9 a10 a11 a12 a13 a14 a15 a16 a17,z7.enc⟩
 |_=>none
def z154.l0P (a:J2) (b:Int) {R:Type} (rec:(Int×J0×Bool×J0×Bool)->Option R) (done:((Int×J0×Bool×J0×Bool)⊕(Int×J0×Bool×J0×Bool×J0×Bool×J0×Bool))->Option R):(Int×J0×Bool×J0×Bool)->Option R:=λx=>match x with
 |(c,d,e,g,h)=>(bif (decide (c<b)) then (if 0<=c/\c<(a.length:Int) then (V.asInt .i64 (((a.getD (c).toNat [])).getD 0 .undef) λj=>(V.asInt .i64 (((a.getD (c).toNat [])).getD 1 .undef) λk=>(V.asInt .i64 (((a.getD (c).toNat [])).getD 2 .undef) λm=>(V.asStr (((a.getD (c).toNat [])).getD 3 .undef) λn=>(V.asStr (((a.getD (c).toNat [])).getD 4 .undef) λo=>(V.asStr (((a.getD (c).toNat [])).getD 5 .undef) λp=>(V.asStr (((a.getD (c).toNat [])).getD 6 .undef) λq=>(V.asStr (((a.getD (c).toNat [])).getD 7 .undef) λr=>((z46.F o).bind λs=>(bif (!decide (s.2.2=0)) then (done (.inr (s.2.2,[],false,[],false,d,e,g,h))) else ((z46.F p).bind λt=>(bif (!decide (t.2.2=0)) then (done (.inr (t.2.2,[],false,[],false,d,e,g,h))) else ((z31.F d e s.1 s.2.1).bind λu=>((z31.F g h t.1 t.2.1).bind λv=>(rec ((wr .i64 (c+1)),u.1,u.2,v.1,v.2)))))))))))))))) else none) else (done (.inl (c,d,e,g,h))))
def z154.l0 (a:J2) (b:Int) (x:(Int×J0×Bool×J0×Bool)):Option (((Int×J0×Bool×J0×Bool)⊕(Int×J0×Bool×J0×Bool×J0×Bool×J0×Bool))):=lfp (λrec x=>z154.l0P a b rec some x) x
def z154.F (a0:J2):Option (J0×Bool×J0×Bool×Int):=
 ((z154.l0 a0 (((a0).length:Nat):Int) ((0:Int),[],false,[],false)).bind λo1=>match o1 with | .inl p2=>(some (p2.2.1,p2.2.2.1,p2.2.2.2.1,p2.2.2.2.2,(0:Int))) | .inr q3=>(some (q3.2.1,q3.2.2.1,q3.2.2.2.1,q3.2.2.2.2.1,q3.1)))
def z154.enc (r:J0×Bool×J0×Bool×Int):V:=(.tup [(.agg [(.ints false .u64 r.1),(.bool r.2.1)]),(.agg [(.ints false .u64 r.2.2.1),(.bool r.2.2.2.1)]),(.int .i64 r.2.2.2.2)])
def z154.pack:List V->Option Pack
 |[(.recs _ 8 a0)]=>some ⟨J0×Bool×J0×Bool×Int,z154.F a0,z154.enc⟩
 |_=>none
def z155.j2 (a1:Int) (r1:J0×Bool×J0×Int):Option (J0×Bool×J0×Int):=
 ((z48.F a1).bind λr3=>((z48.F 12).bind λr4=>((z71.F r3.1 r3.2 r4.1 r4.2).bind λr5=>((z138.F r1.1 r1.2.1 r1.2.2.1 r5.1 r5.2.1 r5.2.2.1).bind λr6=>(some (r6.1,r6.2.1,r6.2.2,(0:Int)))))))
def z155.F (a0:J1) (a1:Int):Option (J0×Bool×J0×Int):=
 ((z76.F a0).bind λr1=>(bif (!decide (r1.2.2.2=0)) then (some ([],false,[],r1.2.2.2)) else (bif (decide (a1<1)) then (some ([],false,[],(2:Int))) else (bif (decide (a1>12)) then (some ([],false,[],(2:Int))) else (z155.j2 a1 r1)))))
def z155.pack:List V->Option Pack
 |[(.str a0),(.int .i64 a1)]=>some ⟨J0×Bool×J0×Int,z155.F a0 a1,z71.enc⟩
 |_=>none
def z156.F (a0:J0):Option (Int):=
 ((z19.F a0).bind λr1=>(bif r1 then (some 0) else (if 0<=(wr .i64 ((((a0).length:Nat):Int)-1))/\(wr .i64 ((((a0).length:Nat):Int)-1))<(a0.length:Int) then ((z61.F (a0.getD ((wr .i64 ((((a0).length:Nat):Int)-1))).toNat 0)).bind λr2=>(some (wr .i64 ((wr .i64 ((64:Int)*(wr .i64 ((((a0).length:Nat):Int)-1))))+r2)))) else none)))
def z156.pack:List V->Option Pack
 |[(.agg [(.ints _ .u64 a0)])]=>some ⟨Int,z156.F a0,z11.enc⟩
 |_=>none
def z157.F (a0:J0) (a1:Int):Option (J0×Int):=
 (bif (decide (a1<0)) then (some ([],(2:Int))) else (bif (decide (a1>1200)) then (some ([],(6:Int))) else ((z156.F a0).bind λr1=>(bif (decide ((wr .i64 (r1*a1))>262144)) then (some ([],(6:Int))) else ((z43.F a0 a1).bind λr5=>(some (r5,(0:Int))))))))
def z157.pack:List V->Option Pack
 |[(.agg [(.ints _ .u64 a0)]),(.int .i64 a1)]=>some ⟨J0×Int,z157.F a0 a1,z41.enc⟩
 |_=>none
def z158.F (a0:J0):Option (J0×Bool):=
 ((z21.F a0 false).bind λr1=>(some (r1.1,r1.2)))
def z158.pack:List V->Option Pack
 |[(.agg [(.ints _ .u64 a0)])]=>some ⟨J0×Bool,z158.F a0,z21.enc⟩
 |_=>none
def z159.j13 (r11 r12:J0×Int) (a0:J0) (a1:Bool) (a2 a3:J0) (a4:Bool) (a5 r7:J0):Option (J0×Bool×J0×Int):=
 ((z30.F r11.1 r12.1).bind λr14=>((z134.F a0 a1 a2).bind λr15=>((z134.F a3 a4 a5).bind λr16=>((z54.F r15.1 r15.2 r16.1 r16.2).bind λr17=>((z158.F r11.1).bind λr18=>((z54.F r17.1 r17.2 r18.1 r18.2).bind λr19=>((z73.F a0 a1 a2).bind λr20=>((z40.F r20 r7).bind λr21=>((z40.F r21 r14.1).bind λr22=>((z158.F r22).bind λr23=>((z71.F r19.1 r19.2 r23.1 r23.2).bind λr24=>(some (r24.1,r24.2.1,r24.2.2.1,r24.2.2.2)))))))))))))
def z159.j1 (j1:Bool) (a3:J0) (a4:Bool) (a5:J0) (a6:Int) (a0:J0) (a1:Bool) (a2:J0):Option (J0×Bool×J0×Int):=
 (bif j1 then (some ([],false,[],(2:Int))) else ((z133.F a3 a4 a5).bind λr2=>(bif (decide (r2<0)) then (some ([],false,[],(18:Int))) else ((z133.F a3 a4 a5).bind λr3=>(bif (decide (r3=0)) then ((z48.F a6).bind λr4=>((z47.F r4.1 r4.2).bind λr5=>((z75.F a0 a1 a2 r5.1 r5.2.1 r5.2.2).bind λr6=>(some (r6.1,r6.2.1,r6.2.2.1,r6.2.2.2))))) else ((z73.F a3 a4 a5).bind λr7=>((z134.F a3 a4 a5).bind λr8=>((z59.F r8.1 r8.2).bind λr9=>((z24.F r9 r7).bind λr10=>((z157.F r10 a6).bind λr11=>((z157.F r7 a6).bind λr12=>(bif (!decide (r11.2=0)) then (some ([],false,[],(6:Int))) else (bif (!decide (r12.2=0)) then (some ([],false,[],(6:Int))) else (z159.j13 r11 r12 a0 a1 a2 a3 a4 a5 r7))))))))))))))
def z159.F (a0:J0) (a1:Bool) (a2 a3:J0) (a4:Bool) (a5:J0) (a6:Int):Option (J0×Bool×J0×Int):=
 (bif (decide (a6<1)) then (z159.j1 true a3 a4 a5 a6 a0 a1 a2) else (z159.j1 (decide (a6>1200)) a3 a4 a5 a6 a0 a1 a2))
def z159.pack:List V->Option Pack
 |[(.agg [(.ints _ .u64 a0),(.bool a1),(.ints _ .u64 a2)]),(.agg [(.ints _ .u64 a3),(.bool a4),(.ints _ .u64 a5)]),(.int .i64 a6)]=>some ⟨J0×Bool×J0×Int,z159.F a0 a1 a2 a3 a4 a5 a6,z71.enc⟩
 |_=>none
def z160.F (a0:J0) (a1:Bool) (a2:J1) (a3 a4 a5:Int):Option (J0×Bool×Int):=
 ((z155.F a2 a3).bind λr1=>(bif (!decide (r1.2.2.2=0)) then (some ([],false,r1.2.2.2)) else ((z20.F a0 a1).bind λr2=>(bif (decide (r2<0)) then (some ([],false,(19:Int))) else ((z47.F a0 a1).bind λr3=>((z159.F r3.1 r3.2.1 r3.2.2 r1.1 r1.2.1 r1.2.2.1 a4).bind λr4=>(bif (!decide (r4.2.2.2=0)) then (some ([],false,r4.2.2.2)) else ((z136.F r4.1 r4.2.1 r4.2.2.1 a5).bind λr5=>(some (r5.1,r5.2.1,r5.2.2))))))))))
def z160.pack:List V->Option Pack
 |[(.agg [(.ints _ .u64 a0),(.bool a1)]),(.str a2),(.int .i64 a3),(.int .i64 a4),(.int .i64 a5)]=>some ⟨J0×Bool×Int,z160.F a0 a1 a2 a3 a4 a5,z42.enc⟩
 |_=>none
def z161.j2 (a2:Int) (a0:J0) (a1:Bool) (a3:Int):Option (J0×Bool×Int):=
 ((z48.F a2).bind λr3=>((z71.F a0 a1 r3.1 r3.2).bind λr4=>((z136.F r4.1 r4.2.1 r4.2.2.1 a3).bind λr5=>(some (r5.1,r5.2.1,r5.2.2)))))
def z161.F (a0:J0) (a1:Bool) (a2 a3:Int):Option (J0×Bool×Int):=
 ((z20.F a0 a1).bind λr1=>(bif (decide (r1<0)) then (some ([],false,(19:Int))) else (bif (decide (a2<1)) then (some ([],false,(2:Int))) else (bif (decide (a2>1200)) then (some ([],false,(2:Int))) else (z161.j2 a2 a0 a1 a3)))))
def z161.pack:List V->Option Pack
 |[(.agg [(.ints _ .u64 a0),(.bool a1)]),(.int .i64 a2),(.int .i64 a3)]=>some ⟨J0×Bool×Int,z161.F a0 a1 a2 a3,z42.enc⟩
 |_=>none
def z162.F (a0 a1:J1) (a2 a3 a4 a5 a6 a7 a8 a9:Int):Option (J0×Bool×Int):=
 ((z46.F a0).bind λr1=>(bif (decide (a2=0)) then ((z160.F r1.1 r1.2.1 a1 a8 a9 a4).bind λr2=>(some (r2.1,r2.2.1,r2.2.2))) else (bif (decide (a2=1)) then ((z161.F r1.1 r1.2.1 a9 a4).bind λr3=>(some (r3.1,r3.2.1,r3.2.2))) else (some ([],false,(0:Int))))))
def z162.pack:List V->Option Pack
 |[(.agg [(.str a0),(.str a1),(.int .i64 a2),(.int .i64 a3),(.int .i64 a4),(.int .i64 a5),(.int .i64 a6),(.int .i64 a7),(.int .i64 a8),(.int .i64 a9)])]=>some ⟨J0×Bool×Int,z162.F a0 a1 a2 a3 a4 a5 a6 a7 a8 a9,z42.enc⟩
 |_=>none
def z163.F (a0:J0) (a1:Bool) (a2:J0) (a3:Bool):Option (J0×Bool):=
 ((z34.F a0 a1 a2 a3).bind λr1=>(bif (decide (r1<0)) then (some (a0,a1)) else (some (a2,a3))))
def z163.pack:List V->Option Pack
 |[(.agg [(.ints _ .u64 a0),(.bool a1)]),(.agg [(.ints _ .u64 a2),(.bool a3)])]=>some ⟨J0×Bool,z163.F a0 a1 a2 a3,z21.enc⟩
 |_=>none
def z164.F (a0:Int) (a1:J0) (a2:Bool) (a3:J0) (a4:Bool) (a5:J0) (a6:Bool):Option (J0×Bool):=
 (bif (decide (a0=0)) then ((z33.F a1 a2 a5 a6).bind λr1=>((z20.F r1.1 r1.2).bind λr2=>(bif (decide (r2<0)) then (some ([],false)) else ((z163.F r1.1 r1.2 a3 a4).bind λr6=>(some (r6.1,r6.2)))))) else ((z163.F a1 a2 a3 a4).bind λr7=>(some (r7.1,r7.2))))
def z164.pack:List V->Option Pack
 |[(.int .i64 a0),(.agg [(.ints _ .u64 a1),(.bool a2)]),(.agg [(.ints _ .u64 a3),(.bool a4)]),(.agg [(.ints _ .u64 a5),(.bool a6)])]=>some ⟨J0×Bool,z164.F a0 a1 a2 a3 a4 a5 a6,z21.enc⟩
 |_=>none
def z165.j1031a {R:Type} (rec:(Int×J0×Bool×J2)->Option R) (done:((Int×J0×Bool×J2)⊕(J2×Int×J0×Bool×J2))->Option R) (a:J0) (b:Bool) (c:J0) (d:Bool) (e:J0×Bool×Int) (g:J2) (h j k m:Int):Option R:=
 ((z33.F a b c d).bind λn=>((z132.F a b).bind λo=>((z132.F e.1 e.2.1).bind λp=>((z132.F c d).bind λq=>((z31.F e.1 e.2.1 c d).bind λr=>((z132.F r.1 r.2).bind λs=>((z132.F n.1 n.2).bind λt=>(if ((g).length+(([[(.int .i64 h),(.int .i64 j),(.int .i64 k),(.str o),(.str p),(.str q),(.str s),(.str t)]]:J2)).length)*104<=140737488355328 then (rec ((wr .i64 (m+1)),n.1,n.2,(g++([[(.int .i64 h),(.int .i64 j),(.int .i64 k),(.str o),(.str p),(.str q),(.str s),(.str t)]]:J2)))) else none))))))))
def z165.l0P (a b:J2) (c:Int) (d e:J1) (g h j k m n o p:Int) (q:J0) (r:Bool) {R:Type} (rec:(Int×J0×Bool×J2)->Option R) (done:((Int×J0×Bool×J2)⊕(J2×Int×J0×Bool×J2))->Option R):(Int×J0×Bool×J2)->Option R:=λx=>match x with
 |(s,t,u,v)=>(bif (decide (s<c)) then (if 0<=s/\s<(b.length:Int) then (V.asInt .i64 (((b.getD (s).toNat [])).getD 0 .undef) λw=>(V.asInt .i64 (((b.getD (s).toNat [])).getD 1 .undef) λy=>(V.asInt .i64 (((b.getD (s).toNat [])).getD 2 .undef) λz=>(V.asInt .i64 (((b.getD (s).toNat [])).getD 3 .undef) λA=>(V.asInt .i64 (((b.getD (s).toNat [])).getD 4 .undef) λB=>(V.asInt .i64 (((b.getD (s).toNat [])).getD 5 .undef) λC=>((z152.F t u d e g h j k m n o p w y z A B C).bind λD=>(bif (!decide (D.2.2=0)) then (done (.inr ([],D.2.2,t,u,v))) else ((z164.F g q r t u D.1 D.2.1).bind λE=>(bif (decide (s=(wr .i64 ((((a).length:Nat):Int)-1)))) then (z165.j1031a rec done t u t u D v A B C s) else (z165.j1031a rec done t u E.1 E.2 D v A B C s))))))))))) else none) else (done (.inl (s,t,u,v))))
def z165.l0 (a b:J2) (c:Int) (d e:J1) (g h j k m n o p:Int) (q:J0) (r:Bool) (x:(Int×J0×Bool×J2)):Option (((Int×J0×Bool×J2)⊕(J2×Int×J0×Bool×J2))):=lfp (λrec x=>z165.l0P a b c d e g h j k m n o p q r rec some x) x
def z165.F (a0 a1:J1) (a2 a3 a4 a5 a6 a7 a8 a9:Int):Option (J2×Int):=
 ((z94.F a0 a1 a2 a3 a4 a5 a6 a7 a8 a9).bind λr1=>(bif (!decide (r1.2=0)) then (some ([],r1.2)) else ((z162.F a0 a1 a2 a3 a4 a5 a6 a7 a8 a9).bind λr2=>(bif (!decide (r2.2.2=0)) then (some ([],r2.2.2)) else ((z46.F a0).bind λr3=>((z165.l0 r1.1 r1.1 (((r1.1).length:Nat):Int) a0 a1 a2 a3 a4 a5 a6 a7 a8 a9 r2.1 r2.2.1 ((0:Int),r3.1,r3.2.1,[])).bind λo4=>match o4 with | .inl p5=>(some (p5.2.2.2,(0:Int))) | .inr q6=>(some (q6.1,q6.2.1))))))))
def z165.enc (r:J2×Int):V:=(.tup [(.recs false 8 r.1),(.int .i64 r.2)])
def z165.pack:List V->Option Pack
 |[(.agg [(.str a0),(.str a1),(.int .i64 a2),(.int .i64 a3),(.int .i64 a4),(.int .i64 a5),(.int .i64 a6),(.int .i64 a7),(.int .i64 a8),(.int .i64 a9)])]=>some ⟨J2×Int,z165.F a0 a1 a2 a3 a4 a5 a6 a7 a8 a9,z165.enc⟩
 |_=>none
def z166.F:Option (J1×J1×Int×Int×Int×Int×Int×Int×Int×Int):=
 (some (([49,48,48,48,48,48]:J1),([49,50]:J1),(0:Int),(0:Int),(2:Int),(2024:Int),(1:Int),(1:Int),(1:Int),(2:Int)))
def z166.pack:List V->Option Pack
 |[]=>some ⟨J1×J1×Int×Int×Int×Int×Int×Int×Int×Int,z166.F,z18.enc⟩
 |_=>none
def z167.j4 (r2:J2×Int):Option (Bool):=
 ((z154.F r2.1).bind λr5=>(if (0:Int)<=(0:Int)/\(0:Int)<(r2.1.length:Int) then (V.asInt .i64 (((r2.1.getD 0 [])).getD 0 .undef) λc6=>(V.asInt .i64 (((r2.1.getD 0 [])).getD 1 .undef) λc7=>(V.asInt .i64 (((r2.1.getD 0 [])).getD 2 .undef) λc8=>(V.asStr (((r2.1.getD 0 [])).getD 3 .undef) λc9=>(V.asStr (((r2.1.getD 0 [])).getD 4 .undef) λc10=>(V.asStr (((r2.1.getD 0 [])).getD 5 .undef) λc11=>(V.asStr (((r2.1.getD 0 [])).getD 6 .undef) λc12=>(V.asStr (((r2.1.getD 0 [])).getD 7 .undef) λc13=>(bif (decide (c12=([53,48,55,53,49]:J1))) then (if (0:Int)<=(0:Int)/\(0:Int)<(r2.1.length:Int) then (V.asInt .i64 (((r2.1.getD 0 [])).getD 0 .undef) λc14=>(V.asInt .i64 (((r2.1.getD 0 [])).getD 1 .undef) λc15=>(V.asInt .i64 (((r2.1.getD 0 [])).getD 2 .undef) λc16=>(V.asStr (((r2.1.getD 0 [])).getD 3 .undef) λc17=>(V.asStr (((r2.1.getD 0 [])).getD 4 .undef) λc18=>(V.asStr (((r2.1.getD 0 [])).getD 5 .undef) λc19=>(V.asStr (((r2.1.getD 0 [])).getD 6 .undef) λc20=>(V.asStr (((r2.1.getD 0 [])).getD 7 .undef) λc21=>(bif (decide (c18=([49,48,48,48]:J1))) then (if (0:Int)<=(1:Int)/\(1:Int)<(r2.1.length:Int) then (V.asInt .i64 (((r2.1.getD 1 [])).getD 0 .undef) λc22=>(V.asInt .i64 (((r2.1.getD 1 [])).getD 1 .undef) λc23=>(V.asInt .i64 (((r2.1.getD 1 [])).getD 2 .undef) λc24=>(V.asStr (((r2.1.getD 1 [])).getD 3 .undef) λc25=>(V.asStr (((r2.1.getD 1 [])).getD 4 .undef) λc26=>(V.asStr (((r2.1.getD 1 [])).getD 5 .undef) λc27=>(V.asStr (((r2.1.getD 1 [])).getD 6 .undef) λc28=>(V.asStr (((r2.1.getD 1 [])).getD 7 .undef) λc29=>(bif (decide (c29=([48]:J1))) then (bif (decide (r5.2.2.2.2=0)) then ((z132.F r5.2.2.1 r5.2.2.2.1).bind λr30=>(bif (decide (r30=([49,48,48,48,48,48]:J1))) then ((z20.F r5.1 r5.2.1).bind λr31=>(some (decide (r31>0)))) else (some false))) else (some false)) else (some false)))))))))) else none) else (some false)))))))))) else none) else (some false)))))))))) else none))
def z167.F:Option (Bool):=
 (z166.F.bind λr1=>((z165.F r1.1 r1.2.1 r1.2.2.1 r1.2.2.2.1 r1.2.2.2.2.1 r1.2.2.2.2.2.1 r1.2.2.2.2.2.2.1 r1.2.2.2.2.2.2.2.1 r1.2.2.2.2.2.2.2.2.1 r1.2.2.2.2.2.2.2.2.2).bind λr2=>((z165.F ([]:J1) ([]:J1) 0 0 0 0 0 0 0 0).bind λr3=>(bif (!decide (r2.2=0)) then (some false) else (bif (!decide ((((r2.1).length:Nat):Int)=2)) then (some false) else (bif (!decide (r3.2=5)) then (some false) else (z167.j4 r2)))))))
def z167.pack:List V->Option Pack
 |[]=>some ⟨Bool,z167.F,z10.enc⟩
 |_=>none
def z168.l0P (a b:J2) (c:Int) {R:Type} (rec:Int->Option R) (done:((Int)⊕(Bool))->Option R):Int->Option R:=λd=>(bif (decide (d<c)) then (if 0<=d/\d<(a.length:Int) then (V.asInt .i64 (((a.getD (d).toNat [])).getD 0 .undef) λe=>(V.asInt .i64 (((a.getD (d).toNat [])).getD 1 .undef) λg=>(V.asInt .i64 (((a.getD (d).toNat [])).getD 2 .undef) λh=>(V.asStr (((a.getD (d).toNat [])).getD 3 .undef) λj=>(V.asStr (((a.getD (d).toNat [])).getD 4 .undef) λk=>(V.asStr (((a.getD (d).toNat [])).getD 5 .undef) λm=>(V.asStr (((a.getD (d).toNat [])).getD 6 .undef) λn=>(V.asStr (((a.getD (d).toNat [])).getD 7 .undef) λo=>(if 0<=d/\d<(b.length:Int) then (V.asInt .i64 (((b.getD (d).toNat [])).getD 0 .undef) λp=>(V.asInt .i64 (((b.getD (d).toNat [])).getD 1 .undef) λq=>(V.asInt .i64 (((b.getD (d).toNat [])).getD 2 .undef) λr=>(V.asStr (((b.getD (d).toNat [])).getD 3 .undef) λs=>(V.asStr (((b.getD (d).toNat [])).getD 4 .undef) λt=>(V.asStr (((b.getD (d).toNat [])).getD 5 .undef) λu=>(V.asStr (((b.getD (d).toNat [])).getD 6 .undef) λv=>(V.asStr (((b.getD (d).toNat [])).getD 7 .undef) λw=>(bif (!((decide (e=p)&&(decide (g=q)&&decide (h=r)))&&(decide (j=s)&&(decide (k=t)&&(decide (m=u)&&(decide (n=v)&&decide (o=w))))))) then (done (.inr false)) else (rec (wr .i64 (d+1)))))))))))) else none))))))))) else none) else (done (.inl d)))
def z168.l0 (a b:J2) (c x:Int):Option (((Int)⊕(Bool))):=lfp (λrec x=>z168.l0P a b c rec some x) x
def z168.F (a0 a1:J2):Option (Bool):=
 (bif (!decide ((((a0).length:Nat):Int)=(((a1).length:Nat):Int))) then (some false) else ((z168.l0 a0 a1 (((a0).length:Nat):Int) 0).bind λo1=>match o1 with | .inl p2=>(some true) | .inr q3=>(some q3)))
def z168.pack:List V->Option Pack
 |[(.recs _ 8 a0),(.recs _ 8 a1)]=>some ⟨Bool,z168.F a0 a1,z10.enc⟩
 |_=>none
def z169.j3 (a1:Int) (r2:J0×Bool×J0×Int):Option (J0×Bool×J0×Int):=
 ((z117.F a1 12).bind λr4=>((z150.F r2.1 r2.2.1 r2.2.2.1 r4.1 r4.2.1 r4.2.2).bind λr5=>(some (r5.1,r5.2.1,r5.2.2,(0:Int)))))
def z169.F (a0:J1) (a1:Int):Option (J0×Bool×J0×Int):=
 ((z117.F 0 1).bind λr1=>((z123.F a0).bind λr2=>(bif (!decide (r2.2.2.2=0)) then (some (r1.1,r1.2.1,r1.2.2,r2.2.2.2)) else (bif (decide (a1<1)) then (some (r1.1,r1.2.1,r1.2.2,(2:Int))) else (bif (decide (a1>12)) then (some (r1.1,r1.2.1,r1.2.2,(2:Int))) else (z169.j3 a1 r2))))))
def z169.pack:List V->Option Pack
 |[(.str a0),(.int .i64 a1)]=>some ⟨J0×Bool×J0×Int,z169.F a0 a1,z123.enc⟩
 |_=>none
def z170.l0P (a:Int) (b:J0) (c:Bool) (d:J0) {R:Type} (rec done:(Int×J0×Bool×J0)->Option R):(Int×J0×Bool×J0)->Option R:=λx=>match x with
 |(e,g,h,j)=>(bif (decide (e<a)) then ((z150.F g h j b c d).bind λk=>(rec ((wr .i64 (e+1)),k.1,k.2.1,k.2.2))) else (done (e,g,h,j)))
def z170.l0 (a:Int) (b:J0) (c:Bool) (d:J0) (x:(Int×J0×Bool×J0)):Option ((Int×J0×Bool×J0)):=lfp (λrec x=>z170.l0P a b c d rec some x) x
def z170.F (a0:J0) (a1:Bool) (a2:J0) (a3:Int):Option (J0×Bool×J0):=
 ((z117.F 1 1).bind λr1=>((z170.l0 a3 a0 a1 a2 ((0:Int),r1.1,r1.2.1,r1.2.2)).bind λo2=>(some (o2.2.1,o2.2.2.1,o2.2.2.2))))
def z170.pack:List V->Option Pack
 |[(.agg [(.ints _ .i64 a0),(.bool a1),(.ints _ .i64 a2)]),(.int .i64 a3)]=>some ⟨J0×Bool×J0,z170.F a0 a1 a2 a3,z115.enc⟩
 |_=>none
def z171.F (a0:J0) (a1:Bool) (a2:J0):Option (J0×Bool×J0):=
 ((z104.F a0 a1).bind λr1=>(some (r1.1,r1.2,a2)))
def z171.pack:List V->Option Pack
 |[(.agg [(.ints _ .i64 a0),(.bool a1),(.ints _ .i64 a2)])]=>some ⟨J0×Bool×J0,z171.F a0 a1 a2,z115.enc⟩
 |_=>none
def z172.F (a0:J0) (a1:Bool) (a2 a3:J0) (a4:Bool) (a5:J0):Option (J0×Bool×J0):=
 ((z171.F a3 a4 a5).bind λr1=>((z146.F a0 a1 a2 r1.1 r1.2.1 r1.2.2).bind λr2=>(some (r2.1,r2.2.1,r2.2.2))))
def z172.pack:List V->Option Pack
 |[(.agg [(.ints _ .i64 a0),(.bool a1),(.ints _ .i64 a2)]),(.agg [(.ints _ .i64 a3),(.bool a4),(.ints _ .i64 a5)])]=>some ⟨J0×Bool×J0,z172.F a0 a1 a2 a3 a4 a5,z115.enc⟩
 |_=>none
def z173.F (a0:J0) (a1:Bool) (a2 a3:J0) (a4:Bool) (a5:J0) (a6:Int):Option (J0×Bool×J0):=
 (bif (decide ((((a3).length:Nat):Int)=0)) then ((z117.F a6 1).bind λr1=>((z122.F a0 a1 a2 r1.1 r1.2.1 r1.2.2).bind λr2=>(some (r2.1,r2.2.1,r2.2.2)))) else ((z117.F 1 1).bind λr3=>((z146.F r3.1 r3.2.1 r3.2.2 a3 a4 a5).bind λr4=>((z122.F r3.1 r3.2.1 r3.2.2 r4.1 r4.2.1 r4.2.2).bind λr5=>((z170.F r5.1 r5.2.1 r5.2.2 a6).bind λr6=>((z172.F r3.1 r3.2.1 r3.2.2 r6.1 r6.2.1 r6.2.2).bind λr7=>((z150.F a0 a1 a2 a3 a4 a5).bind λr8=>((z122.F r8.1 r8.2.1 r8.2.2 r7.1 r7.2.1 r7.2.2).bind λr9=>(some (r9.1,r9.2.1,r9.2.2))))))))))
def z173.pack:List V->Option Pack
 |[(.agg [(.ints _ .i64 a0),(.bool a1),(.ints _ .i64 a2)]),(.agg [(.ints _ .i64 a3),(.bool a4),(.ints _ .i64 a5)]),(.int .i64 a6)]=>some ⟨J0×Bool×J0,z173.F a0 a1 a2 a3 a4 a5 a6,z115.enc⟩
 |_=>none
def z174.j4 (a0:J0) (a1:Bool) (r2:J0×Bool×J0×Int) (a4 a5:Int):Option (J0×Bool×Int):=
 ((z149.F a0 a1).bind λr5=>((z173.F r5.1 r5.2.1 r5.2.2 r2.1 r2.2.1 r2.2.2.1 a4).bind λr6=>((z151.F r6.1 r6.2.1 r6.2.2 a5).bind λr7=>(some (r7.1,r7.2,(0:Int))))))
def z174.j3 (a5:Int) (r1:J0×Bool) (a0:J0) (a1:Bool) (r2:J0×Bool×J0×Int) (a4:Int):Option (J0×Bool×Int):=
 (bif (decide (a5<0)) then (some (r1.1,r1.2,(2:Int))) else (bif (decide (a5>4)) then (some (r1.1,r1.2,(2:Int))) else (z174.j4 a0 a1 r2 a4 a5)))
def z174.F (a0:J0) (a1:Bool) (a2:J1) (a3 a4 a5:Int):Option (J0×Bool×Int):=
 ((z9.F 0).bind λr1=>((z169.F a2 a3).bind λr2=>(bif (!decide (r2.2.2.2=0)) then (some (r1.1,r1.2,r2.2.2.2)) else (bif a1 then (some (r1.1,r1.2,(19:Int))) else (bif (decide (a4<1)) then (some (r1.1,r1.2,(2:Int))) else (bif (decide (a4>1200)) then (some (r1.1,r1.2,(2:Int))) else (z174.j3 a5 r1 a0 a1 r2 a4)))))))
def z174.pack:List V->Option Pack
 |[(.agg [(.ints _ .i64 a0),(.bool a1)]),(.str a2),(.int .i64 a3),(.int .i64 a4),(.int .i64 a5)]=>some ⟨J0×Bool×Int,z174.F a0 a1 a2 a3 a4 a5,z102.enc⟩
 |_=>none
def z175.j2 (a2:Int) (a0:J0) (a1:Bool) (a3:Int):Option (J0×Bool×Int):=
 ((z9.F a2).bind λr3=>((z116.F a0 a1 r3.1 r3.2).bind λr4=>((z151.F r4.1 r4.2.1 r4.2.2 a3).bind λr5=>(some (r5.1,r5.2,(0:Int))))))
def z175.F (a0:J0) (a1:Bool) (a2 a3:Int):Option (J0×Bool×Int):=
 ((z9.F 0).bind λr1=>(bif a1 then (some (r1.1,r1.2,(19:Int))) else (bif (decide (a2<1)) then (some (r1.1,r1.2,(2:Int))) else (bif (decide (a2>1200)) then (some (r1.1,r1.2,(2:Int))) else (bif (decide (a3<0)) then (some (r1.1,r1.2,(2:Int))) else (bif (decide (a3>4)) then (some (r1.1,r1.2,(2:Int))) else (z175.j2 a2 a0 a1 a3)))))))
def z175.pack:List V->Option Pack
 |[(.agg [(.ints _ .i64 a0),(.bool a1)]),(.int .i64 a2),(.int .i64 a3)]=>some ⟨J0×Bool×Int,z175.F a0 a1 a2 a3,z102.enc⟩
 |_=>none
def z176.j6085a {R:Type} (rec done:(Int×J0×Bool×J2)->Option R) (a:J0) (b:Bool) (c:J0) (d:Bool) (e:J0×Bool) (g:Int) (h j:J2):Option R:=
 ((z109.F a b c d).bind λk=>((z108.F e.1 e.2 c d).bind λm=>(if 0<=g/\g<(h.length:Int) then (V.asInt .i64 (((h.getD (g).toNat [])).getD 0 .undef) λn=>(V.asInt .i64 (((h.getD (g).toNat [])).getD 1 .undef) λo=>(V.asInt .i64 (((h.getD (g).toNat [])).getD 2 .undef) λp=>(V.asInt .i64 (((h.getD (g).toNat [])).getD 3 .undef) λq=>(V.asInt .i64 (((h.getD (g).toNat [])).getD 4 .undef) λr=>(V.asInt .i64 (((h.getD (g).toNat [])).getD 5 .undef) λs=>((z6.F a b).bind λt=>((z6.F e.1 e.2).bind λu=>((z6.F c d).bind λv=>((z6.F m.1 m.2).bind λw=>((z6.F k.1 k.2).bind λx=>(if ((j).length+(([[(.int .i64 q),(.int .i64 r),(.int .i64 s),(.str t),(.str u),(.str v),(.str w),(.str x)]]:J2)).length)*104<=140737488355328 then (rec ((wr .i64 (g+1)),k.1,k.2,(j++([[(.int .i64 q),(.int .i64 r),(.int .i64 s),(.str t),(.str u),(.str v),(.str w),(.str x)]]:J2)))) else none)))))))))))) else none)))
def z176.j6069a {R:Type} (rec done:(Int×J0×Bool×J2)->Option R) (a:J0) (b:Bool) (c:J0) (d:Bool) (e:J0×Bool) (g:Int) (h j:J2):Option R:=
 ((z111.F a b c d).bind λk=>(bif (decide (k>0)) then ((z109.F c d c d).bind λm=>((z108.F e.1 e.2 c d).bind λn=>(if 0<=g/\g<(h.length:Int) then (V.asInt .i64 (((h.getD (g).toNat [])).getD 0 .undef) λo=>(V.asInt .i64 (((h.getD (g).toNat [])).getD 1 .undef) λp=>(V.asInt .i64 (((h.getD (g).toNat [])).getD 2 .undef) λq=>(V.asInt .i64 (((h.getD (g).toNat [])).getD 3 .undef) λr=>(V.asInt .i64 (((h.getD (g).toNat [])).getD 4 .undef) λs=>(V.asInt .i64 (((h.getD (g).toNat [])).getD 5 .undef) λt=>((z6.F c d).bind λu=>((z6.F e.1 e.2).bind λv=>((z6.F c d).bind λw=>((z6.F n.1 n.2).bind λx=>((z6.F m.1 m.2).bind λy=>(if ((j).length+(([[(.int .i64 r),(.int .i64 s),(.int .i64 t),(.str u),(.str v),(.str w),(.str x),(.str y)]]:J2)).length)*104<=140737488355328 then (rec ((wr .i64 (g+1)),m.1,m.2,(j++([[(.int .i64 r),(.int .i64 s),(.int .i64 t),(.str u),(.str v),(.str w),(.str x),(.str y)]]:J2)))) else none)))))))))))) else none))) else (bif (decide (g=(wr .i64 ((((h).length:Nat):Int)-1)))) then (z176.j6085a rec done c d c d e g h j) else (z176.j6085a rec done c d a b e g h j))))
def z176.j6117a {R:Type} (rec done:(Int×J0×Bool×J2)->Option R) (a:J0) (b:Bool) (c:J0) (d:Bool) (e:J0×Bool) (g:Int) (h j:J2):Option R:=
 ((z109.F a b c d).bind λk=>((z108.F e.1 e.2 c d).bind λm=>(if 0<=g/\g<(h.length:Int) then (V.asInt .i64 (((h.getD (g).toNat [])).getD 0 .undef) λn=>(V.asInt .i64 (((h.getD (g).toNat [])).getD 1 .undef) λo=>(V.asInt .i64 (((h.getD (g).toNat [])).getD 2 .undef) λp=>(V.asInt .i64 (((h.getD (g).toNat [])).getD 3 .undef) λq=>(V.asInt .i64 (((h.getD (g).toNat [])).getD 4 .undef) λr=>(V.asInt .i64 (((h.getD (g).toNat [])).getD 5 .undef) λs=>((z6.F a b).bind λt=>((z6.F e.1 e.2).bind λu=>((z6.F c d).bind λv=>((z6.F m.1 m.2).bind λw=>((z6.F k.1 k.2).bind λx=>(if ((j).length+(([[(.int .i64 q),(.int .i64 r),(.int .i64 s),(.str t),(.str u),(.str v),(.str w),(.str x)]]:J2)).length)*104<=140737488355328 then (rec ((wr .i64 (g+1)),k.1,k.2,(j++([[(.int .i64 q),(.int .i64 r),(.int .i64 s),(.str t),(.str u),(.str v),(.str w),(.str x)]]:J2)))) else none)))))))))))) else none)))
def z176.j6101a {R:Type} (rec done:(Int×J0×Bool×J2)->Option R) (a:J0) (b:Bool) (c:J0) (d:Bool) (e:J0×Bool) (g:Int) (h j:J2):Option R:=
 ((z111.F a b c d).bind λk=>(bif (decide (k>0)) then ((z109.F c d c d).bind λm=>((z108.F e.1 e.2 c d).bind λn=>(if 0<=g/\g<(h.length:Int) then (V.asInt .i64 (((h.getD (g).toNat [])).getD 0 .undef) λo=>(V.asInt .i64 (((h.getD (g).toNat [])).getD 1 .undef) λp=>(V.asInt .i64 (((h.getD (g).toNat [])).getD 2 .undef) λq=>(V.asInt .i64 (((h.getD (g).toNat [])).getD 3 .undef) λr=>(V.asInt .i64 (((h.getD (g).toNat [])).getD 4 .undef) λs=>(V.asInt .i64 (((h.getD (g).toNat [])).getD 5 .undef) λt=>((z6.F c d).bind λu=>((z6.F e.1 e.2).bind λv=>((z6.F c d).bind λw=>((z6.F n.1 n.2).bind λx=>((z6.F m.1 m.2).bind λy=>(if ((j).length+(([[(.int .i64 r),(.int .i64 s),(.int .i64 t),(.str u),(.str v),(.str w),(.str x),(.str y)]]:J2)).length)*104<=140737488355328 then (rec ((wr .i64 (g+1)),m.1,m.2,(j++([[(.int .i64 r),(.int .i64 s),(.int .i64 t),(.str u),(.str v),(.str w),(.str x),(.str y)]]:J2)))) else none)))))))))))) else none))) else (bif (decide (g=(wr .i64 ((((h).length:Nat):Int)-1)))) then (z176.j6117a rec done c d c d e g h j) else (z176.j6117a rec done c d a b e g h j))))
def z176.l0b5P (a:J2) (b c:J1) (d e g h j k m n:Int) (o:J0) (p:Bool) {R:Type} (rec done:(Int×J0×Bool×J2)->Option R):(Int×J0×Bool×J2)->Option R:=λx=>match x with
 |(q,r,s,t)=>(bif (decide (q<(((a).length:Nat):Int))) then (if 0<=q/\q<(a.length:Int) then (V.asInt .i64 (((a.getD (q).toNat [])).getD 0 .undef) λu=>(V.asInt .i64 (((a.getD (q).toNat [])).getD 1 .undef) λv=>(V.asInt .i64 (((a.getD (q).toNat [])).getD 2 .undef) λw=>(V.asInt .i64 (((a.getD (q).toNat [])).getD 3 .undef) λy=>(V.asInt .i64 (((a.getD (q).toNat [])).getD 4 .undef) λz=>(V.asInt .i64 (((a.getD (q).toNat [])).getD 5 .undef) λA=>(if 0<=q/\q<(a.length:Int) then (V.asInt .i64 (((a.getD (q).toNat [])).getD 0 .undef) λB=>(V.asInt .i64 (((a.getD (q).toNat [])).getD 1 .undef) λC=>(V.asInt .i64 (((a.getD (q).toNat [])).getD 2 .undef) λD=>(V.asInt .i64 (((a.getD (q).toNat [])).getD 3 .undef) λE=>(V.asInt .i64 (((a.getD (q).toNat [])).getD 4 .undef) λG=>(V.asInt .i64 (((a.getD (q).toNat [])).getD 5 .undef) λH=>((z153.F r s b c d e g h j k m n u v w E G H).bind λI=>(bif (decide (d=0)) then ((z109.F o p I.1 I.2).bind λJ=>(bif J.2 then ((z9.F 0).bind λK=>(z176.j6069a rec done K.1 K.2 r s I q a t)) else (z176.j6069a rec done J.1 J.2 r s I q a t))) else (bif p then ((z9.F 0).bind λL=>(z176.j6101a rec done L.1 L.2 r s I q a t)) else (z176.j6101a rec done o p r s I q a t)))))))))) else none))))))) else none) else (done (q,r,s,t)))
def z176.l0b5 (a:J2) (b c:J1) (d e g h j k m n:Int) (o:J0) (p:Bool) (x:(Int×J0×Bool×J2)):Option ((Int×J0×Bool×J2)):=lfp (λrec x=>z176.l0b5P a b c d e g h j k m n o p rec some x) x
def z176.j13 (r1:J2) (a0 a1:J1) (a2 a3 a4 a5 a6 a7 a8 a9:Int) (j12:J0) (j13:Bool) (r2:J0×Bool×Int):Option (J2):=
 ((z176.l0b5 r1 a0 a1 a2 a3 a4 a5 a6 a7 a8 a9 j12 j13 ((0:Int),r2.1,r2.2.1,[])).bind λo14=>(some o14.2.2.2))
def z176.j17 (r1:J2) (a0 a1:J1) (a2 a3 a4 a5 a6 a7 a8 a9:Int) (j16:J0) (j17:Bool) (r2:J0×Bool×Int):Option (J2):=
 ((z176.l0b5 r1 a0 a1 a2 a3 a4 a5 a6 a7 a8 a9 j16 j17 ((0:Int),r2.1,r2.2.1,[])).bind λo18=>(some o18.2.2.2))
def z176.F (a0 a1:J1) (a2 a3 a4 a5 a6 a7 a8 a9:Int):Option (J2):=
 ((z129.F a0 a1 a2 a3 a4 a5 a6 a7 a8 a9).bind λr1=>((z112.F a0).bind λr2=>((z9.F 0).bind λr3=>(bif (decide (a2=0)) then ((z174.F r2.1 r2.2.1 a1 a8 a9 a4).bind λr4=>(bif (decide (a2=1)) then ((z175.F r2.1 r2.2.1 a9 a4).bind λr11=>(z176.j13 r1 a0 a1 a2 a3 a4 a5 a6 a7 a8 a9 r11.1 r11.2.1 r2)) else (z176.j13 r1 a0 a1 a2 a3 a4 a5 a6 a7 a8 a9 r4.1 r4.2.1 r2))) else (bif (decide (a2=1)) then ((z175.F r2.1 r2.2.1 a9 a4).bind λr15=>(z176.j17 r1 a0 a1 a2 a3 a4 a5 a6 a7 a8 a9 r15.1 r15.2.1 r2)) else (z176.j17 r1 a0 a1 a2 a3 a4 a5 a6 a7 a8 a9 r3.1 r3.2 r2))))))
def z176.enc (r:J2):V:=(.recs false 8 r)
def z176.pack:List V->Option Pack
 |[(.agg [(.str a0),(.str a1),(.int .i64 a2),(.int .i64 a3),(.int .i64 a4),(.int .i64 a5),(.int .i64 a6),(.int .i64 a7),(.int .i64 a8),(.int .i64 a9)])]=>some ⟨J2,z176.F a0 a1 a2 a3 a4 a5 a6 a7 a8 a9,z176.enc⟩
 |_=>none
def z177.j10 (r2:J2×Int) (r1:J1×J1×Int×Int×Int×Int×Int×Int×Int×Int):Option (Bool):=
 (z167.F.bind λr11=>(bif r11 then (bif (decide (r2.2=0)) then ((z176.F r1.1 r1.2.1 r1.2.2.1 r1.2.2.2.1 r1.2.2.2.2.1 r1.2.2.2.2.2.1 r1.2.2.2.2.2.2.1 r1.2.2.2.2.2.2.2.1 r1.2.2.2.2.2.2.2.2.1 r1.2.2.2.2.2.2.2.2.2).bind λr12=>((z168.F r2.1 r12).bind λr13=>(some r13))) else (some false)) else (some false)))
def z177.j7 (r3:J2×Int) (r4:Int) (a12 a13:J1) (a14 a15 a16 a17 a18 a19 a20 a21:Int) (r2:J2×Int) (r1:J1×J1×Int×Int×Int×Int×Int×Int×Int×Int):Option (Bool):=
 (bif (!decide (r3.2=r4)) then (some false) else (bif (decide (r4=0)) then ((z176.F (a12.take ((if 100<(a12.length:Int) then 100 else (a12.length:Int))).toNat) (a13.take ((if 100<(a13.length:Int) then 100 else (a13.length:Int))).toNat) a14 a15 a16 a17 a18 a19 a20 a21).bind λr8=>((z168.F r3.1 r8).bind λr9=>(bif (!r9) then (some false) else (bif (!decide (r4=0)) then (bif (decide ((((r3.1).length:Nat):Int)>0)) then (some false) else (z177.j10 r2 r1)) else (z177.j10 r2 r1))))) else (bif (!decide (r4=0)) then (bif (decide ((((r3.1).length:Nat):Int)>0)) then (some false) else (z177.j10 r2 r1)) else (z177.j10 r2 r1))))
def z177.F (a0 a1 a2 a3 a4 a5 a6 a7 a8 a9 a10 a11:Int) (a12 a13:J1) (a14 a15 a16 a17 a18 a19 a20 a21:Int):Option (Bool):=
 ((z18.F a0 a1 a2 a3 a4 a5 a6 a7 a8 a9 a10 a11 14).bind λr1=>((z165.F r1.1 r1.2.1 r1.2.2.1 r1.2.2.2.1 r1.2.2.2.2.1 r1.2.2.2.2.2.1 r1.2.2.2.2.2.2.1 r1.2.2.2.2.2.2.2.1 r1.2.2.2.2.2.2.2.2.1 r1.2.2.2.2.2.2.2.2.2).bind λr2=>(if 0<=(if 100<(a12.length:Int) then 100 else (a12.length:Int))/\(if 100<(a12.length:Int) then 100 else (a12.length:Int))<=((a12).length:Int) then (if 0<=(if 100<(a13.length:Int) then 100 else (a13.length:Int))/\(if 100<(a13.length:Int) then 100 else (a13.length:Int))<=((a13).length:Int) then ((z165.F (a12.take ((if 100<(a12.length:Int) then 100 else (a12.length:Int))).toNat) (a13.take ((if 100<(a13.length:Int) then 100 else (a13.length:Int))).toNat) a14 a15 a16 a17 a18 a19 a20 a21).bind λr3=>((z126.F (a12.take ((if 100<(a12.length:Int) then 100 else (a12.length:Int))).toNat) (a13.take ((if 100<(a13.length:Int) then 100 else (a13.length:Int))).toNat) a14 a15 a16 a17 a18 a19 a20 a21).bind λr4=>(bif (decide (r4=0)) then (bif (decide (a21>14)) then (z167.F.bind λr7=>(some r7)) else (z177.j7 r3 r4 a12 a13 a14 a15 a16 a17 a18 a19 a20 a21 r2 r1)) else (z177.j7 r3 r4 a12 a13 a14 a15 a16 a17 a18 a19 a20 a21 r2 r1)))) else none) else none)))
def z177.pack:List V->Option Pack
 |[(.agg [(.int .u64 a0),(.int .u16 a1),(.int .u32 a2),(.int .u8 a3),(.int .u8 a4),(.int .u8 a5),(.int .u8 a6),(.int .u8 a7),(.int .u8 a8),(.int .i64 a9),(.int .i64 a10),(.int .i64 a11)]),(.agg [(.str a12),(.str a13),(.int .i64 a14),(.int .i64 a15),(.int .i64 a16),(.int .i64 a17),(.int .i64 a18),(.int .i64 a19),(.int .i64 a20),(.int .i64 a21)])]=>some ⟨Bool,z177.F a0 a1 a2 a3 a4 a5 a6 a7 a8 a9 a10 a11 a12 a13 a14 a15 a16 a17 a18 a19 a20 a21,z10.enc⟩
 |_=>none
end
end Go.Proofs.YtgjncgiekniniaaGreatDoor.A
end
section
set_option maxRecDepth 100000
namespace Go.Proofs.YtgjncgiekniniaaGreatDoor.A
open Go
noncomputable section
def z10.C:Ctx where
 T:=tab
def z10.dec:V->Option (Bool)
 |(.bool x0)=>some x0
 |_=>none
theorem z10.link (a0:Int):z10.C.evTop 219 (ifun Tryz.f219) [(.int .i64 a0)] z10.dec=z10.F a0:=by kernel_rfl
def z15.l2aash:Env×Store:=((.ints false .i64 [])::(.ints false .i64 []) :: .undef :: .undef::(.sref 0 0)::(.sref 1 0)::(.int .i64 0)::(.int .i64 0)::(.int .i64 0)::un 54 [],[(.arr 0 true 3 (.ints false .i64 [])),(.arr 0 false 3 (.ints false .i64 []))])
def z15.l2aaout0 (a b:J0) (c d e:Int) (g h:J0) (o:Int×Int×J0):X×Env×Store:=((.exit 2),Qb z15.l2aash [.li a,.li b,.i c,.i o.1,.i o.2.1,.li g,.li o.2.2])
def z15.l2aapack:List Leaf->Option LPack
 |[.li a,.li b,.i c,.i d,.i e,.li g,.li h]=>some (.one _ (z15.l2aa a b c (d,e,h)) (z15.l2aaout0 a b c d e g h))
 |_=>none
def z15.l0sh:Env×Store:=((.ints false .i64 [])::(.ints false .i64 []) :: .undef :: .undef::(.sref 0 0)::(.sref 1 0)::(.int .i64 0)::un 56 [],[(.arr 0 true 3 (.ints false .i64 [])),(.arr 0 false 3 (.ints false .i64 []))])
def z15.l0out0 (a b:J0) (c:Int) (d e:J0) (o:Int×J0):X×Env×Store:=((.exit 0),Qb z15.l0sh [.li a,.li b,.i o.1,.li d,.li o.2])
def z15.l0pack:List Leaf->Option LPack
 |[.li a,.li b,.i c,.li d,.li e]=>some (.one _ (z15.l0 a b (c,e)) (z15.l0out0 a b c d e))
 |_=>none
def z15.C:Ctx where
 T:=tab
 draws:=λf i=>match f,i with|208,10=>([(38,[(5,0)],0),(39,[(6,0)],0),(40,[(8,0)],0),(41,[(38,2),(39,3)],6),(42,[(37,1),(40,4)],15),(43,[(41,5)],31),(44,[(0,0)],0),(45,[(6,0)],0),(46,[(43,7),(44,8)],192),(47,[(45,9)],448),(48,[(9,0)],0),(49,[(46,10),(47,11)],1984),(50,[(42,6),(48,12)],4095),(51,[(7,0)],0),(52,[(49,13),(50,14)],16383),(11,[(51,15)],32767)],4503462188418048)|_,_=>([],0)
 call:=λg args=>match g with|234=>z13.pack args|235=>z14.pack args|_=>none
 keep:=λf i=>match f,i with|208,2=>([0,1,4,5,6,7,8],[0,1],[])|208,0=>([0,1,4,5,6,29,30],[0,1],[])|_,_=>([],[],[])
 keepE:=λf i=>match f,i with|208,2=>([0,1,4,5,6,7,8],[0,1],[])|208,0=>([0,1,4,5,6,29,30],[0,1],[])|_,_=>([],[],[])
 keepR:=λf i=>match f,i with|208,2=>([4],[0,1],[4])|208,0=>([4],[0,1],[4])|_,_=>([],[],[])
 L:=λf i b st=>match f,i,b with|208,2,0=>(matchSt z15.l2aash st).bind z15.l2aapack|208,0,0=>(matchSt z15.l0sh st).bind z15.l0pack|_,_,_=>none
def z15.dec:V->Option (J0)
 |(.ints _ .i64 x0)=>some x0
 |_=>none
theorem z15.l2aa_link (R:Type) (k:Env×Store->Option R) (d:X×Env×Store->Option R) (a b:J0) (c e g:Int) (h j:J0) :
  z15.C.loopP 208 2 (Qg 2 (ifun Tryz.f208).body) 2 k d (Qb z15.l2aash [.li a,.li b,.i c,.i e,.i g,.li h,.li j]) =
  z15.l2aaP a b c (λx'=>k (Qb z15.l2aash [.li a,.li b,.i c,.i x'.1,.i x'.2.1,.li h,.li x'.2.2])) (λo=>d (z15.l2aaout0 a b c e g h j o)) (e,g,j):=by kernel_rfl
theorem z15.l0_link (R:Type) (k:Env×Store->Option R) (d:X×Env×Store->Option R) (a b:J0) (c:Int) (e g:J0) :
  z15.C.loopP 208 0 (Qg 0 (ifun Tryz.f208).body) 2 k d (Qb z15.l0sh [.li a,.li b,.i c,.li e,.li g]) =
  z15.l0P a b (λx'=>k (Qb z15.l0sh [.li a,.li b,.i x'.1,.li e,.li x'.2])) (λo=>d (z15.l0out0 a b c e g o)) (c,g):=by kernel_rfl
theorem z15.link (a0 a1:J0):z15.C.evTop 208 (ifun Tryz.f208) [(.ints false .i64 a0),(.ints false .i64 a1)] z15.dec=z15.F a0 a1:=by kernel_rfl
def z17.l0sh:Env×Store:=(.undef::(.ptr 0 0)::(.str ([]:J1))::(.str ([]:J1))::un 36 [],[(.cells 213 [(.ints false .i64 []),(.bool false),(.int .i64 0)])])
def z17.l0out0 (a c:J1) (d:J0) (e:Bool) (g:Int) (o:J1):X×Env×Store:=((.exit 0),Qb z17.l0sh [.s a,.s o,.li d,.b e,.i g])
def z17.l0pack:List Leaf->Option LPack
 |[.s a,.s c,.li d,.b e,.i g]=>some (.one _ (z17.l0 g c) (z17.l0out0 a c d e g))
 |_=>none
def z17.C:Ctx where
 T:=tab
 draws:=λf i=>match f,i with|132,5=>([(19,[(3,17)],0),(20,[(3,17)],0),(21,[(19,2)],2),(22,[(1,0)],0),(23,[(21,4)],8),(24,[(20,3),(22,5)],30),(25,[(18,1),(23,6)],63),(26,[(24,7)],127),(27,[(3,17)],0),(28,[(3,17)],0),(29,[(27,10)],512),(30,[(1,0)],0),(31,[(29,12)],2048),(32,[(28,11),(30,13)],7680),(33,[(26,9),(31,14)],16128),(34,[(25,8),(32,15)],32767),(4,[(33,16)],65535)],17179607048)|_,_=>([],0)
 call:=λg args=>match g with|102=>z5.pack args|_=>none
 keep:=λf i=>match f,i with|132,0=>([1,2,3],[0],[])|_,_=>([],[],[])
 keepE:=λf i=>match f,i with|132,0=>([1,2,3],[0],[])|_,_=>([],[],[])
 keepR:=λf i=>match f,i with|132,0=>([2],[0],[2])|_,_=>([],[],[])
 L:=λf i b st=>match f,i,b with|132,0,0=>(matchSt z17.l0sh st).bind z17.l0pack|_,_,_=>none
def z17.dec:V->Option (J1)
 |(.str x0)=>some x0
 |_=>none
theorem z17.l0_link (R:Type) (k:Env×Store->Option R) (d:X×Env×Store->Option R) (a c:J1) (e:J0) (g:Bool) (h:Int) :
  z17.C.loopP 132 0 (Qg 0 (ifun Tryz.f132).body) 1 k d (Qb z17.l0sh [.s a,.s c,.li e,.b g,.i h]) =
  z17.l0P h (λx'=>k (Qb z17.l0sh [.s a,.s x',.li e,.b g,.i h])) (λo=>d (z17.l0out0 a c e g h o)) c:=by kernel_rfl
theorem z17.link (a0:J0) (a1:Bool) (a2:Int):z17.C.evTop 132 (ifun Tryz.f132) [(.agg [(.ints false .i64 a0),(.bool a1),(.int .i64 a2)])] z17.dec=z17.F a0 a1 a2:=by kernel_rfl
def z18.C:Ctx where
 T:=tab
 call:=λg args=>match g with|95=>z12.pack args|60=>z9.pack args|131=>z16.pack args|26=>z6.pack args|132=>z17.pack args|_=>none
def z18.dec:V->Option (J1×J1×Int×Int×Int×Int×Int×Int×Int×Int)
 |(.agg [(.str x0),(.str x1),(.int .i64 x2),(.int .i64 x3),(.int .i64 x4),(.int .i64 x5),(.int .i64 x6),(.int .i64 x7),(.int .i64 x8),(.int .i64 x9)])=>some (x0,x1,x2,x3,x4,x5,x6,x7,x8,x9)
 |_=>none
theorem z18.link (a0 a1 a2 a3 a4 a5 a6 a7 a8 a9 a10 a11 a12:Int):z18.C.evTop 43 (ifun Tryz.f43) [(.agg [(.int .u64 a0),(.int .u16 a1),(.int .u32 a2),(.int .u8 a3),(.int .u8 a4),(.int .u8 a5),(.int .u8 a6),(.int .u8 a7),(.int .u8 a8),(.int .i64 a9),(.int .i64 a10),(.int .i64 a11)]),(.int .i64 a12)] z18.dec=z18.F a0 a1 a2 a3 a4 a5 a6 a7 a8 a9 a10 a11 a12:=by kernel_rfl
def z23.l0b6sh:Env×Store:=((.ints false .u64 []) :: .undef::(.ptr 0 0)::(.int .i64 0)::un 19 [],[(.cells 37 [(.ints false .u64 [])])])
def z23.l0b6out0 (a:J0) (b:Int) (c:J0) (o:Int):X×Env×Store:=((.exit 0),Qb z23.l0b6sh [.li a,.i o,.li c])
def z23.l0b6pack:List Leaf->Option LPack
 |[.li a,.i b,.li c]=>some (.one _ (z23.l0b6 a b) (z23.l0b6out0 a b c))
 |_=>none
def z23.C:Ctx where
 T:=tab
 keep:=λf i=>match f,i with|185,0=>([0,2,3],[0],[])|_,_=>([],[],[])
 keepE:=λf i=>match f,i with|185,0=>([0,2,3],[0],[])|_,_=>([],[],[])
 keepR:=λf i=>match f,i with|185,0=>([2],[0],[2])|_,_=>([],[],[])
 L:=λf i b st=>match f,i,b with|185,0,0=>(matchSt z23.l0b6sh st).bind z23.l0b6pack|_,_,_=>none
def z23.dec:V->Option (J0)
 |(.agg [(.ints _ .u64 x0)])=>some x0
 |_=>none
theorem z23.l0b6_link (R:Type) (k:Env×Store->Option R) (d:X×Env×Store->Option R) (a:J0) (b:Int) (c:J0) :
  z23.C.loopP 185 0 (Qg 0 (ifun Tryz.f185).body) 1 k d (Qb z23.l0b6sh [.li a,.i b,.li c]) =
  z23.l0b6P a (λx'=>k (Qb z23.l0b6sh [.li a,.i x',.li c])) (λo=>d (z23.l0b6out0 a b c o)) b:=by kernel_rfl
theorem z23.link (a0:J0):z23.C.evTop 185 (ifun Tryz.f185) [(.ints false .u64 a0)] z23.dec=z23.F a0:=by kernel_rfl
def z28.C:Ctx where
 T:=tab
 call:=λg args=>match g with|273=>z27.pack args|_=>none
def z28.dec:V->Option (Int)
 |(.int .i64 x0)=>some x0
 |_=>none
theorem z28.link (a0 a1:Int):z28.C.evTop 245 (ifun Tryz.f245) [(.int .u64 a0),(.int .u64 a1)] z28.dec=z28.F a0 a1:=by kernel_rfl
def z33.C:Ctx where
 T:=tab
 draws:=λf i=>match f,i with|90,1=>([(6,[(2,0)],0),(7,[(3,0)],0),(8,[(6,2)],2),(9,[(5,1),(7,3)],7),(0,[(4,0),(8,4)],15)],480)|_,_=>([],0)
 call:=λg args=>match g with|110=>z32.pack args|24=>z31.pack args|_=>none
def z33.dec:V->Option (J0×Bool)
 |(.agg [(.ints _ .u64 x0),(.bool x1)])=>some (x0,x1)
 |_=>none
theorem z33.link (a0:J0) (a1:Bool) (a2:J0) (a3:Bool):z33.C.evTop 90 (ifun Tryz.f90) [(.agg [(.ints false .u64 a0),(.bool a1)]),(.agg [(.ints false .u64 a2),(.bool a3)])] z33.dec=z33.F a0 a1 a2 a3:=by kernel_rfl
def z38.C:Ctx where
 T:=tab
 call:=λg args=>match g with|185=>z23.pack args|_=>none
 prim:=λg=>match g with|222=>some (cloneP (.ints true .u64 []) 79 8)|_=>none
theorem z38.link (a0:J0):z38.C.evTop 158 (ifun Tryz.f158) [(.ints false .u64 a0)] z23.dec=z38.F a0:=by kernel_rfl
def z39.C:Ctx where
 T:=tab
def z39.dec:V->Option (Int×Int)
 |(.tup [(.int .u64 x0),(.int .u64 x1)])=>some (x0,x1)
 |_=>none
theorem z39.link (a0 a1:Int):z39.C.evTop 268 (ifun Tryz.f268) [(.int .u64 a0),(.int .u64 a1)] z39.dec=z39.F a0 a1:=by kernel_rfl
def z40.l0ash:Env×Store:=(.undef::(.int .u64 0)::(.sview 3 0 0 0)::(.ptr 4 0) :: .undef :: .undef::(.int .u64 0)::un 6 ((.ints false .u64 [])::(.int .i64 0)::(.int .i64 0)::un 44 []),[(.cells 37 [(.ints false .u64 [])]),.dead,(.cells 37 [(.ints false .u64 [])]),(.arr 0 false 79 (.ints false .u64 [])),(.cells 37 [(.ints false .u64 [])])])
def z40.l0aout0 (a:Int) (b c:Nat) (d:Int) (e:J0) (g h:Int) (j k m p:J0) (o:Int×Int×J0):X×Env×Store:=((.exit 0),Qb z40.l0ash [.i a,.n b,.n c,.i o.1,.li e,.i g,.i o.2.1,.li j,.li k,.li o.2.2,.li p])
def z40.l0apack:List Leaf->Option LPack
 |[.i a,.n b,.n c,.i d,.li e,.i g,.i h,.li j,.li k,.li m,.li o]=>some (.one _ (z40.l0a a b c e g (d,h,m)) (z40.l0aout0 a b c d e g h j k m o))
 |_=>none
def z40.l0sh:Env×Store:=(.undef :: .undef::(.ptr 0 0) :: .undef::(.ptr 2 0)::(.sref 3 0)::un 12 ((.ints false .u64 [])::(.int .i64 0)::(.int .i64 0)::un 13 []),[(.cells 37 [(.ints false .u64 [])]),.dead,(.cells 37 [(.ints false .u64 [])]),(.arr 0 false 79 (.ints false .u64 []))])
def z40.l0out0 (a:J0) (b c:Int) (d e g:J0) (o:Int×J0):X×Env×Store:=((.exit 0),Qb z40.l0sh [.li a,.i b,.i o.1,.li d,.li e,.li o.2])
def z40.l0pack:List Leaf->Option LPack
 |[.li a,.i b,.i c,.li d,.li e,.li g]=>some (.one _ (z40.l0 a b d (c,g)) (z40.l0out0 a b c d e g))
 |_=>none
def z40.C:Ctx where
 T:=tab
 draws:=λf i=>match f,i with|164,5=>([(26,[(2,0)],0),(27,[(7,0)],0),(28,[(5,0)],0),(29,[(6,0)],0),(30,[(27,3),(28,4)],12),(31,[(25,1),(26,2),(29,5)],31)],2113929216)|_,_=>([],0)
 call:=λg args=>match g with|268=>z39.pack args|183=>z0.pack args|185=>z23.pack args|_=>none
 inl:=λg=>match g with|227=>some (ifun Tryz.f227)|_=>none
 keep:=λf i=>match f,i with|227,0=>([1,2,3,6,13,14,15],List.range 64,[])|164,0=>([2,4,5,18,19,20],[0,2,3],[])|_,_=>([],[],[])
 keepE:=λf i=>match f,i with|227,0=>([1,2,3,6,13,14,15],List.range 64,[])|164,0=>([2,4,5,18,19,20],[0,2,3],[])|_,_=>([],[],[])
 keepR:=λf i=>match f,i with|227,0=>([],List.range 64,[])|164,0=>([4],[0,2,3],[4])|_,_=>([],[],[])
 L:=λf i b st=>match f,i,b with|227,0,4=>(matchSt z40.l0ash st).bind z40.l0apack|164,0,0=>(matchSt z40.l0sh st).bind z40.l0pack|_,_,_=>none
theorem z40.l0a_link (R:Type) (k:Env×Store->Option R) (d:X×Env×Store->Option R) (a:Int) (b c:Nat) (e:Int) (g:J0) (h j:Int) (m p q r:J0) :
  z40.C.loopPI (z40.C.inlK 0) 227 0 4 (Qg 0 (ifun Tryz.f227).body) 5 k d (Qb z40.l0ash [.i a,.n b,.n c,.i e,.li g,.i h,.i j,.li m,.li p,.li q,.li r]) =
  z40.l0aP a b c g h (λx'=>k (Qb z40.l0ash [.i a,.n b,.n c,.i x'.1,.li g,.i h,.i x'.2.1,.li m,.li p,.li x'.2.2,.li r])) (λo=>d (z40.l0aout0 a b c e g h j m p q r o)) (e,j,q):=by kernel_rfl
theorem z40.l0_link (R:Type) (k:Env×Store->Option R) (d:X×Env×Store->Option R) (a:J0) (b c:Int) (e g h:J0) :
  z40.C.loopP 164 0 (Qg 0 (ifun Tryz.f164).body) 4 k d (Qb z40.l0sh [.li a,.i b,.i c,.li e,.li g,.li h]) =
  z40.l0P a b e (λx'=>k (Qb z40.l0sh [.li a,.i b,.i x'.1,.li e,.li g,.li x'.2])) (λo=>d (z40.l0out0 a b c e g h o)) (c,h):=by kernel_rfl
theorem z40.link (a0 a1:J0):z40.C.evTop 164 (ifun Tryz.f164) [(.agg [(.ints false .u64 a0)]),(.agg [(.ints false .u64 a1)])] z23.dec=z40.F a0 a1:=by kernel_rfl
def z46.C:Ctx where
 T:=tab
 draws:=λf i=>match f,i with|36,4=>([(18,[(4,0)],0),(19,[(17,1)],1),(20,[(18,2)],3),(21,[(19,3)],7),(22,[(4,0),(20,4)],15),(23,[(20,4)],15),(24,[(21,5),(22,6),(20,4)],63),(25,[(23,7),(20,4)],127),(26,[(20,4),(24,8)],255),(17,[(25,9)],511)],67043328)|_,_=>([],0)
 call:=λg args=>match g with|76=>z42.pack args|28=>z20.pack args|114=>z45.pack args|74=>z34.pack args|_=>none
def z46.dec:V->Option (J0×Bool×Int)
 |(.tup [(.agg [(.ints _ .u64 x0),(.bool x1)]),(.int .i64 x2)])=>some (x0,x1,x2)
 |_=>none
theorem z46.link (a0:J1):z46.C.evTop 36 (ifun Tryz.f36) [(.str a0)] z46.dec=z46.F a0:=by kernel_rfl
def z51.C:Ctx where
 T:=tab
theorem z51.link (a0:Int):z51.C.evTop 202 (ifun Tryz.f202) [(.int .i64 a0)] z10.dec=z51.F a0:=by kernel_rfl
def z55.C:Ctx where
 T:=tab
 call:=λg args=>match g with|195=>z44.pack args|91=>z21.pack args|_=>none
theorem z55.link (a0:Int):z55.C.evTop 204 (ifun Tryz.f204) [(.int .i64 a0)] z33.dec=z55.F a0:=by kernel_rfl
def z56.C:Ctx where
 T:=tab
 draws:=λf i=>match f,i with|203,1=>([(6,[(2,0)],0),(7,[(5,1)],1),(8,[(1,0)],0),(9,[(2,0)],0),(10,[(8,4)],8),(11,[(7,3),(9,5)],28),(12,[(10,6)],60),(13,[(6,2),(11,7)],127),(0,[(4,0),(12,8)],255)],8160)|_,_=>([],0)
 call:=λg args=>match g with|204=>z55.pack args|156=>z54.pack args|_=>none
theorem z56.link (a0:J0) (a1:Bool) (a2 a3:Int):z56.C.evTop 203 (ifun Tryz.f203) [(.agg [(.ints false .u64 a0),(.bool a1),(.int .i64 a2)]),(.int .i64 a3)] z33.dec=z56.F a0 a1 a2 a3:=by kernel_rfl
def z59.C:Ctx where
 T:=tab
theorem z59.link (a0:J0) (a1:Bool):z59.C.evTop 92 (ifun Tryz.f92) [(.agg [(.ints false .u64 a0),(.bool a1)])] z23.dec=z59.F a0 a1:=by kernel_rfl
def z60.C:Ctx where
 T:=tab
 prim:=λg=>match g with|222=>some (cloneP (.ints true .u64 []) 79 8)|_=>none
def z60.dec:V->Option (J0)
 |(.ints _ .u64 x0)=>some x0
 |_=>none
theorem z60.link (a0:J0):z60.C.evTop 188 (ifun Tryz.f188) [(.agg [(.ints false .u64 a0)])] z60.dec=z60.F a0:=by kernel_rfl
def z61.C:Ctx where
 T:=tab
theorem z61.link (a0:Int):z61.C.evTop 280 (ifun Tryz.f280) [(.int .u64 a0)] z28.dec=z61.F a0:=by kernel_rfl
def z62.C:Ctx where
 T:=tab
 call:=λg args=>match g with|280=>z61.pack args|_=>none
theorem z62.link (a0:Int):z62.C.evTop 262 (ifun Tryz.f262) [(.int .u64 a0)] z28.dec=z62.F a0:=by kernel_rfl
def z77.C:Ctx where
 T:=tab
def z77.dec:V->Option ((List J1))
 |(.strs _ x0)=>some x0
 |_=>none
theorem z77.link:z77.C.evTop 137 (ifun Tryz.f137) [] z77.dec=z77.F:=by kernel_rfl
def z85.C:Ctx where
 T:=tab
 call:=λg args=>match g with|47=>z78.pack args|209=>z84.pack args|149=>z81.pack args|_=>none
theorem z85.link (a0 a1:J1) (a2 a3 a4 a5 a6 a7 a8 a9:Int):z85.C.evTop 133 (ifun Tryz.f133) [(.agg [(.str a0),(.str a1),(.int .i64 a2),(.int .i64 a3),(.int .i64 a4),(.int .i64 a5),(.int .i64 a6),(.int .i64 a7),(.int .i64 a8),(.int .i64 a9)])] z10.dec=z85.F a0 a1 a2 a3 a4 a5 a6 a7 a8 a9:=by kernel_rfl
def z90.C:Ctx where
 T:=tab
 draws:=λf i=>match f,i with|134,10=>([(48,[(8,0)],0),(49,[(47,1)],1),(50,[(8,0)],0),(51,[(49,3)],4),(52,[(8,0)],0),(53,[(51,5)],16),(54,[(50,4),(52,6)],60),(55,[(48,2),(53,7)],127),(56,[(8,0)],255),(0,[(55,9),(54,8)],511)],71916856549572608)|_,_=>([],0)
 call:=λg args=>match g with|142=>z89.pack args|210=>z88.pack args|_=>none
def z90.dec:V->Option (Int×Int×Int×Int)
 |(.tup [(.agg [(.int .i64 x0),(.int .i64 x1),(.int .i64 x2)]),(.int .i64 x3)])=>some (x0,x1,x2,x3)
 |_=>none
theorem z90.link (a0 a1 a2 a3:Int):z90.C.evTop 134 (ifun Tryz.f134) [(.agg [(.int .i64 a0),(.int .i64 a1),(.int .i64 a2)]),(.int .i64 a3)] z90.dec=z90.F a0 a1 a2 a3:=by kernel_rfl
def z95.l0sh:Env×Store:=(.undef :: .undef::(.int .i64 0)::(.int .i64 0) :: .undef :: .undef::(.ints false .i64 [])::(.int .i64 0)::(.int .i64 0)::un 9 [],[])
def z95.l0so1:Env×Store:=(.undef :: .undef::(.int .i64 0)::un 15 [],[])
def z95.l0out0 (a b:Int) (c:J0) (d e o:Int):X×Env×Store:=((.exit 0),Qb z95.l0sh [.i a,.i b,.li c,.i d,.i o])
def z95.l0out1 (a b:Int) (c:J0) (d e o:Int):X×Env×Store:=(.ret,Qb z95.l0so1 [.i o])
def z95.l0pack:List Leaf->Option LPack
 |[.i a,.i b,.li c,.i d,.i e]=>some (.two _ _ (z95.l0 b c d e) (z95.l0out0 a b c d e) (z95.l0out1 a b c d e))
 |_=>none
def z95.C:Ctx where
 T:=tab
 keep:=λf i=>match f,i with|145,0=>([2,3,6,7,8],[],[])|_,_=>([],[],[])
 keepE:=λf i=>match f,i with|145,0=>([2,3,6,7,8],[],[])|_,_=>([],[],[])
 keepR:=λf i=>match f,i with|145,0=>([2],[],[2])|_,_=>([],[],[])
 L:=λf i b st=>match f,i,b with|145,0,0=>(matchSt z95.l0sh st).bind z95.l0pack|_,_,_=>none
theorem z95.l0_link (R:Type) (k:Env×Store->Option R) (d:X×Env×Store->Option R) (a b:Int) (c:J0) (e g:Int) :
  z95.C.loopP 145 0 (Qg 0 (ifun Tryz.f145).body) 0 k d (Qb z95.l0sh [.i a,.i b,.li c,.i e,.i g]) =
  z95.l0P b c e (λx'=>k (Qb z95.l0sh [.i a,.i b,.li c,.i e,.i x'])) (λo=>match o with | .inl o=>d (z95.l0out0 a b c e g o) | .inr o=>d (z95.l0out1 a b c e g o)) g:=by kernel_rfl
theorem z95.link (a0:J0):z95.C.evTop 145 (ifun Tryz.f145) [(.ints false .i64 a0)] z28.dec=z95.F a0:=by kernel_rfl
def z96.C:Ctx where
 T:=tab
 draws:=λf i=>match f,i with|57,1=>([(6,[(2,0)],0),(7,[(5,1)],1),(8,[(3,0)],0),(9,[(7,3)],4),(10,[(6,2),(8,4)],15),(11,[(2,0)],0),(12,[(10,6)],32),(13,[(3,0)],0),(14,[(12,8)],128),(15,[(11,7),(13,9)],511),(16,[(2,0)],0),(17,[(15,11)],1024),(18,[(3,0)],0),(19,[(17,13)],4096),(20,[(16,12),(18,14)],16383),(21,[(9,5),(14,10),(19,15)],32767),(22,[(20,16)],65535),(5,[(21,17)],131071)],4194288)|_,_=>([],0)
 call:=λg args=>match g with|146=>z26.pack args|145=>z95.pack args|_=>none
theorem z96.link (a0 a1 a2 a3 a4 a5:Int):z96.C.evTop 57 (ifun Tryz.f57) [(.agg [(.int .i64 a0),(.int .i64 a1),(.int .i64 a2)]),(.agg [(.int .i64 a3),(.int .i64 a4),(.int .i64 a5)])] z28.dec=z96.F a0 a1 a2 a3 a4 a5:=by kernel_rfl
def z99.l2sh:Env×Store:=((.str ([]:J1)) :: .undef::(.sref 0 0)::(.sref 1 0)::(.int .i64 0)::(.int .i64 0)::(.int .i64 0)::un 28 [],[(.arr 0 true 3 (.ints false .i64 [])),(.arr 0 true 3 (.ints false .i64 []))])
def z99.l2out0 (a:J1) (b c d:Int) (e g:J0) (o:Int×Int):X×Env×Store:=((.exit 2),Qb z99.l2sh [.s a,.i b,.i o.1,.i o.2,.li e,.li g])
def z99.l2pack:List Leaf->Option LPack
 |[.s a,.i b,.i c,.i d,.li e,.li g]=>some (.one _ (z99.l2 a b (c,d)) (z99.l2out0 a b c d e g))
 |_=>none
def z99.l0sh:Env×Store:=((.str ([]:J1)) :: .undef::(.sref 0 0)::(.sref 1 0)::(.int .i64 0)::un 30 [],[(.arr 0 true 3 (.ints false .i64 [])),(.arr 0 true 3 (.ints false .i64 []))])
def z99.l0out0 (a:J1) (b:Int) (c d:J0) (o:Int×J0):X×Env×Store:=((.exit 0),Qb z99.l0sh [.s a,.i o.1,.li c,.li o.2])
def z99.l0pack:List Leaf->Option LPack
 |[.s a,.i b,.li c,.li d]=>some (.one _ (z99.l0 a (b,d)) (z99.l0out0 a b c d))
 |_=>none
def z99.C:Ctx where
 T:=tab
 call:=λg args=>match g with|235=>z14.pack args|_=>none
 keep:=λf i=>match f,i with|192,2=>([0,2,3,4,5,6],[0,1],[])|192,0=>([0,2,3,4],[0,1],[])|_,_=>([],[],[])
 keepE:=λf i=>match f,i with|192,2=>([0,2,3,4,5,6],[0,1],[])|192,0=>([0,2,3,4],[0,1],[])|_,_=>([],[],[])
 keepR:=λf i=>match f,i with|192,2=>([2],[0,1],[2])|192,0=>([2],[0,1],[2])|_,_=>([],[],[])
 L:=λf i b st=>match f,i,b with|192,2,0=>(matchSt z99.l2sh st).bind z99.l2pack|192,0,0=>(matchSt z99.l0sh st).bind z99.l0pack|_,_,_=>none
theorem z99.l2_link (R:Type) (k:Env×Store->Option R) (d:X×Env×Store->Option R) (a:J1) (b c e:Int) (g h:J0) :
  z99.C.loopP 192 2 (Qg 2 (ifun Tryz.f192).body) 2 k d (Qb z99.l2sh [.s a,.i b,.i c,.i e,.li g,.li h]) =
  z99.l2P a b (λx'=>k (Qb z99.l2sh [.s a,.i b,.i x'.1,.i x'.2,.li g,.li h])) (λo=>d (z99.l2out0 a b c e g h o)) (c,e):=by kernel_rfl
theorem z99.l0_link (R:Type) (k:Env×Store->Option R) (d:X×Env×Store->Option R) (a:J1) (b:Int) (c e:J0) :
  z99.C.loopP 192 0 (Qg 0 (ifun Tryz.f192).body) 2 k d (Qb z99.l0sh [.s a,.i b,.li c,.li e]) =
  z99.l0P a (λx'=>k (Qb z99.l0sh [.s a,.i x'.1,.li c,.li x'.2])) (λo=>d (z99.l0out0 a b c e o)) (b,e):=by kernel_rfl
theorem z99.link (a0:J1):z99.C.evTop 192 (ifun Tryz.f192) [(.str a0)] z15.dec=z99.F a0:=by kernel_rfl
def z102.C:Ctx where
 T:=tab
 call:=λg args=>match g with|60=>z9.pack args|196=>z101.pack args|103=>z100.pack args|_=>none
def z102.dec:V->Option (J0×Bool×Int)
 |(.tup [(.agg [(.ints _ .i64 x0),(.bool x1)]),(.int .i64 x2)])=>some (x0,x1,x2)
 |_=>none
theorem z102.link (a0:J1):z102.C.evTop 115 (ifun Tryz.f115) [(.str a0)] z102.dec=z102.F a0:=by kernel_rfl
def z112.C:Ctx where
 T:=tab
 call:=λg args=>match g with|60=>z9.pack args|115=>z102.pack args|116=>z103.pack args|113=>z7.pack args|117=>z111.pack args|_=>none
theorem z112.link (a0:J1):z112.C.evTop 37 (ifun Tryz.f37) [(.str a0)] z102.dec=z112.F a0:=by kernel_rfl
def z117.C:Ctx where
 T:=tab
 call:=λg args=>match g with|60=>z9.pack args|205=>z116.pack args|_=>none
def z117.dec:V->Option (J0×Bool×J0)
 |(.agg [(.ints _ .i64 x0),(.bool x1),(.ints _ .i64 x2)])=>some (x0,x1,x2)
 |_=>none
theorem z117.link (a0 a1:Int):z117.C.evTop 125 (ifun Tryz.f125) [(.int .i64 a0),(.int .i64 a1)] z117.dec=z117.F a0 a1:=by kernel_rfl
def z119.C:Ctx where
 T:=tab
 call:=λg args=>match g with|116=>z103.pack args|206=>z115.pack args|_=>none
theorem z119.link (a0:J0) (a1:Bool) (a2:Int):z119.C.evTop 127 (ifun Tryz.f127) [(.agg [(.ints false .i64 a0),(.bool a1),(.int .i64 a2)])] z117.dec=z119.F a0 a1 a2:=by kernel_rfl
def z121.C:Ctx where
 T:=tab
 call:=λg args=>match g with|207=>z120.pack args|117=>z111.pack args|_=>none
theorem z121.link (a0:J0) (a1:Bool) (a2 a3:J0) (a4:Bool) (a5:J0):z121.C.evTop 128 (ifun Tryz.f128) [(.agg [(.ints false .i64 a0),(.bool a1),(.ints false .i64 a2)]),(.agg [(.ints false .i64 a3),(.bool a4),(.ints false .i64 a5)])] z28.dec=z121.F a0 a1 a2 a3 a4 a5:=by kernel_rfl
def z129.l0sh:Env×Store:=(.undef :: .undef::(.sref 1 0)::(.recs false 3 []) :: .undef::(.sref 2 0)::(.ptr 3 0)::(.int .i64 0)::un 27 [],[.dead,(.arr 0 true 108 (.recs false 6 [])),(.arr 0 true 108 (.recs false 6 [])),(.cells 41 [(.int .i64 0),(.int .i64 0),(.int .i64 0)])])
def z129.l0out0 (a:J2) (b:Int) (c d:J2) (e g h:Int) (o:Int×J2×Int×Int×Int):X×Env×Store:=((.exit 0),Qb z129.l0sh [.lr a,.i o.1,.lr c,.lr o.2.1,.i o.2.2.1,.i o.2.2.2.1,.i o.2.2.2.2])
def z129.l0pack:List Leaf->Option LPack
 |[.lr a,.i b,.lr c,.lr d,.i e,.i g,.i h]=>some (.one _ (z129.l0 a (b,d,e,g,h)) (z129.l0out0 a b c d e g h))
 |_=>none
def z129.C:Ctx where
 T:=tab
 draws:=λf i=>match f,i with|52,7=>([(22,[(5,10)],0),(23,[(6,0)],0),(24,[(3,0)],0),(25,[(7,0)],0),(26,[(23,3),(24,4)],12),(27,[(25,5)],28),(28,[(22,2),(26,6)],62),(29,[(27,7)],126),(30,[(21,1),(28,8)],255),(6,[(29,9)],511)],1071644704)|_,_=>([],0)
 call:=λg args=>match g with|50=>z128.pack args|_=>none
 keep:=λf i=>match f,i with|52,0=>([2,3,5,6,7],[1,2,3],[])|_,_=>([],[],[])
 keepE:=λf i=>match f,i with|52,0=>([2,3,5,6,7],[1,2,3],[])|_,_=>([],[],[])
 keepR:=λf i=>match f,i with|52,0=>([2],[1,2,3],[2])|_,_=>([],[],[])
 L:=λf i b st=>match f,i,b with|52,0,0=>(matchSt z129.l0sh st).bind z129.l0pack|_,_,_=>none
def z129.dec:V->Option (J2)
 |(.recs _ 6 x0)=>some x0
 |_=>none
theorem z129.l0_link (R:Type) (k:Env×Store->Option R) (d:X×Env×Store->Option R) (a:J2) (b:Int) (c e:J2) (g h j:Int) :
  z129.C.loopP 52 0 (Qg 0 (ifun Tryz.f52).body) 4 k d (Qb z129.l0sh [.lr a,.i b,.lr c,.lr e,.i g,.i h,.i j]) =
  z129.l0P a (λx'=>k (Qb z129.l0sh [.lr a,.i x'.1,.lr c,.lr x'.2.1,.i x'.2.2.1,.i x'.2.2.2.1,.i x'.2.2.2.2])) (λo=>d (z129.l0out0 a b c e g h j o)) (b,e,g,h,j):=by kernel_rfl
theorem z129.link (a0 a1:J1) (a2 a3 a4 a5 a6 a7 a8 a9:Int):z129.C.evTop 52 (ifun Tryz.f52) [(.agg [(.str a0),(.str a1),(.int .i64 a2),(.int .i64 a3),(.int .i64 a4),(.int .i64 a5),(.int .i64 a6),(.int .i64 a7),(.int .i64 a8),(.int .i64 a9)])] z129.dec=z129.F a0 a1 a2 a3 a4 a5 a6 a7 a8 a9:=by kernel_rfl
def z130.l0b4sh:Env×Store:=((.int .u64 0)::(.int .i64 0) :: .undef :: .undef::(.str ([]:J1))::(.ptr 0 0)::(.int .i64 0)::un 21 [],[(.arr 0 false 321 (.ints false .u8 []))])
def z130.l0b4out0 (a b:Int) (c:J1) (d:Int) (e:J0) (o:Int×Int×J0):X×Env×Store:=((.exit 0),Qb z130.l0b4sh [.i o.1,.i b,.s c,.i o.2.1,.li o.2.2])
def z130.l0b4pack:List Leaf->Option LPack
 |[.i a,.i b,.s c,.i d,.li e]=>some (.one _ (z130.l0b4 b (a,d,e)) (z130.l0b4out0 a b c d e))
 |_=>none
def z130.C:Ctx where
 T:=tab
 keep:=λf i=>match f,i with|189,0=>([0,1,4,5,6],[0],[])|_,_=>([],[],[])
 keepE:=λf i=>match f,i with|189,0=>([0,1,4,5,6],[0],[])|_,_=>([],[],[])
 keepR:=λf i=>match f,i with|189,0=>([4],[0],[4])|_,_=>([],[],[])
 L:=λf i b st=>match f,i,b with|189,0,0=>(matchSt z130.l0b4sh st).bind z130.l0b4pack|_,_,_=>none
theorem z130.l0b4_link (R:Type) (k:Env×Store->Option R) (d:X×Env×Store->Option R) (a b:Int) (c:J1) (e:Int) (g:J0) :
  z130.C.loopP 189 0 (Qg 0 (ifun Tryz.f189).body) 1 k d (Qb z130.l0b4sh [.i a,.i b,.s c,.i e,.li g]) =
  z130.l0b4P b (λx'=>k (Qb z130.l0b4sh [.i x'.1,.i b,.s c,.i x'.2.1,.li x'.2.2])) (λo=>d (z130.l0b4out0 a b c e g o)) (a,e,g):=by kernel_rfl
theorem z130.link (a0 a1:Int):z130.C.evTop 189 (ifun Tryz.f189) [(.int .u64 a0),(.int .i64 a1)] z17.dec=z130.F a0 a1:=by kernel_rfl
def z133.C:Ctx where
 T:=tab
 call:=λg args=>match g with|28=>z20.pack args|_=>none
theorem z133.link (a0:J0) (a1:Bool) (a2:J0):z133.C.evTop 71 (ifun Tryz.f71) [(.agg [(.ints false .u64 a0),(.bool a1),(.ints false .u64 a2)])] z28.dec=z133.F a0 a1 a2:=by kernel_rfl
def z134.C:Ctx where
 T:=tab
theorem z134.link (a0:J0) (a1:Bool) (a2:J0):z134.C.evTop 216 (ifun Tryz.f216) [(.agg [(.ints false .u64 a0),(.bool a1),(.ints false .u64 a2)])] z33.dec=z134.F a0 a1 a2:=by kernel_rfl
def z135.C:Ctx where
 T:=tab
 draws:=λf i=>match f,i with|217,1=>([(12,[(6,0)],0),(13,[(6,0)],0),(14,[(11,1),(12,2)],3),(15,[(7,0)],0),(16,[(13,3),(14,4)],15),(10,[(15,5)],31)],64000)|_,_=>([],0)
 call:=λg args=>match g with|99=>z24.pack args|186=>z29.pack args|188=>z60.pack args|_=>none
theorem z135.link (a0:Int) (a1 a2 a3:J0):z135.C.evTop 217 (ifun Tryz.f217) [(.int .i64 a0),(.agg [(.ints false .u64 a1)]),(.agg [(.ints false .u64 a2)]),(.agg [(.ints false .u64 a3)])] z10.dec=z135.F a0 a1 a2 a3:=by kernel_rfl
def z136.C:Ctx where
 T:=tab
 draws:=λf i=>match f,i with|150,3=>([(15,[(2,0)],0),(16,[(14,1)],1),(17,[(15,2)],3),(18,[(2,0)],0),(19,[(17,4)],15),(20,[(16,3),(18,5)],31),(14,[(19,6)],63),(21,[(13,7)],127),(22,[(13,7)],127),(23,[(13,7)],127),(7,[],0),(8,[],0),(0,[(6,11),(20,8)],3327),(0,[(7,12),(21,9)],7679),(9,[(22,10)],16383)],8380864)|150,4=>([(24,[(7,0)],0),(25,[(23,1)],1),(26,[(24,2)],3),(27,[(25,3)],7),(28,[(1,0),(26,4)],15),(29,[(6,0),(26,4)],15),(30,[(7,0),(26,4)],15),(31,[(2,0),(26,4)],15),(32,[(30,8),(26,4)],143),(33,[(27,5),(28,6),(29,7),(31,9),(26,4)],511),(34,[(26,4),(32,10)],1023)],17171480576)|150,5=>([(35,[(6,0)],0),(36,[],0),(37,[(35,2)],2),(38,[(34,1),(36,3)],7),(0,[(6,0),(37,4)],15)],257698037760)|150,6=>([(39,[(6,0)],0),(40,[(2,0)],0),(41,[(39,2)],2),(42,[(40,3)],6),(43,[(38,1),(41,4)],15),(0,[(4,0),(42,5)],31),(6,[],63)],8521215115296)|_,_=>([],0)
 call:=λg args=>match g with|214=>z79.pack args|216=>z134.pack args|92=>z59.pack args|130=>z73.pack args|162=>z68.pack args|104=>z19.pack args|217=>z135.pack args|158=>z38.pack args|99=>z24.pack args|71=>z133.pack args|91=>z21.pack args|_=>none
theorem z136.link (a0:J0) (a1:Bool) (a2:J0) (a3:Int):z136.C.evTop 150 (ifun Tryz.f150) [(.agg [(.ints false .u64 a0),(.bool a1),(.ints false .u64 a2)]),(.int .i64 a3)] z46.dec=z136.F a0 a1 a2 a3:=by kernel_rfl
def z139.C:Ctx where
 T:=tab
 call:=λg args=>match g with|69=>z48.pack args|176=>z71.pack args|_=>none
def z139.dec:V->Option (J0×Bool×J0)
 |(.agg [(.ints _ .u64 x0),(.bool x1),(.ints _ .u64 x2)])=>some (x0,x1,x2)
 |_=>none
theorem z139.link (a0 a1:Int):z139.C.evTop 230 (ifun Tryz.f230) [(.int .i64 a0),(.int .i64 a1)] z139.dec=z139.F a0 a1:=by kernel_rfl
def z148.l0sh:Env×Store:=(un 5 ((.ptr 1 0)::(.ptr 2 0) :: .undef :: .undef::(.int .i64 0)::(.int .i64 0)::(.ptr 3 0)::(.int .i64 0)::un 80 []),[.dead,(.cells 41 [(.int .i64 0),(.int .i64 0),(.int .i64 0)]),(.cells 72 [(.ints false .i64 []),(.bool false),(.ints false .i64 [])]),(.cells 72 [(.ints false .i64 []),(.bool false),(.ints false .i64 [])])])
def z148.l0out0 (a c d e g h:Int) (j:J0) (k:Bool) (m n:J0) (p:Bool) (q:J0) (o:Int×J0×Bool×J0):X×Env×Store:=((.exit 0),Qb z148.l0sh [.i a,.i c,.i o.1,.i e,.i g,.i h,.li j,.b k,.li m,.li o.2.1,.b o.2.2.1,.li o.2.2.2])
def z148.l0pack:List Leaf->Option LPack
 |[.i a,.i c,.i d,.i e,.i g,.i h,.li j,.b k,.li m,.li n,.b o,.li p]=>some (.one _ (z148.l0 a c e (d,n,o,p)) (z148.l0out0 a c d e g h j k m n o p))
 |_=>none
def z148.C:Ctx where
 T:=tab
 call:=λg args=>match g with|125=>z117.pack args|233=>z147.pack args|219=>z10.pack args|220=>z146.pack args|_=>none
 keep:=λf i=>match f,i with|166,0=>([5,6,9,10,11,12],[1,2,3],[])|_,_=>([],[],[])
 keepE:=λf i=>match f,i with|166,0=>([5,6,9,10,11,12],[1,2,3],[])|_,_=>([],[],[])
 keepR:=λf i=>match f,i with|166,0=>([6],[1,2,3],[6])|_,_=>([],[],[])
 L:=λf i b st=>match f,i,b with|166,0,0=>(matchSt z148.l0sh st).bind z148.l0pack|_,_,_=>none
theorem z148.l0_link (R:Type) (k:Env×Store->Option R) (d:X×Env×Store->Option R) (a c e g h j:Int) (m:J0) (n:Bool) (p q:J0) (r:Bool) (s:J0) :
  z148.C.loopP 166 0 (Qg 0 (ifun Tryz.f166).body) 4 k d (Qb z148.l0sh [.i a,.i c,.i e,.i g,.i h,.i j,.li m,.b n,.li p,.li q,.b r,.li s]) =
  z148.l0P a c g (λx'=>k (Qb z148.l0sh [.i a,.i c,.i x'.1,.i g,.i h,.i j,.li m,.b n,.li p,.li x'.2.1,.b x'.2.2.1,.li x'.2.2.2])) (λo=>d (z148.l0out0 a c e g h j m n p q r s o)) (e,q,r,s):=by kernel_rfl
theorem z148.link (a0 a1 a2 a3 a4 a5 a6:Int):z148.C.evTop 166 (ifun Tryz.f166) [(.int .i64 a0),(.agg [(.int .i64 a1),(.int .i64 a2),(.int .i64 a3)]),(.agg [(.int .i64 a4),(.int .i64 a5),(.int .i64 a6)])] z117.dec=z148.F a0 a1 a2 a3 a4 a5 a6:=by kernel_rfl
def z150.C:Ctx where
 T:=tab
 call:=λg args=>match g with|131=>z16.pack args|208=>z15.pack args|206=>z115.pack args|_=>none
theorem z150.link (a0:J0) (a1:Bool) (a2 a3:J0) (a4:Bool) (a5:J0):z150.C.evTop 168 (ifun Tryz.f168) [(.agg [(.ints false .i64 a0),(.bool a1),(.ints false .i64 a2)]),(.agg [(.ints false .i64 a3),(.bool a4),(.ints false .i64 a5)])] z117.dec=z150.F a0 a1 a2 a3 a4 a5:=by kernel_rfl
def z167.C:Ctx where
 T:=tab
 call:=λg args=>match g with|169=>z166.pack args|86=>z165.pack args|84=>z154.pack args|25=>z132.pack args|28=>z20.pack args|_=>none
theorem z167.link:z167.C.evTop 83 (ifun Tryz.f83) [] z10.dec=z167.F:=by kernel_rfl
def z168.l0sh:Env×Store:=((.recs false 8 [])::(.recs false 8 []) :: .undef :: .undef::(.bool false)::un 7 ((.int .i64 0)::(.int .i64 0)::un 12 []),[])
def z168.l0so1:Env×Store:=(un 4 ((.bool false)::un 21 []),[])
def z168.l0out0 (a c:J2) (d:Bool) (e g o:Int):X×Env×Store:=((.exit 0),Qb z168.l0sh [.lr a,.lr c,.b d,.i e,.i o])
def z168.l0out1 (a c:J2) (d:Bool) (e g:Int) (o:Bool):X×Env×Store:=(.ret,Qb z168.l0so1 [.b o])
def z168.l0pack:List Leaf->Option LPack
 |[.lr a,.lr c,.b d,.i e,.i g]=>some (.two _ _ (z168.l0 a c e g) (z168.l0out0 a c d e g) (z168.l0out1 a c d e g))
 |_=>none
def z168.C:Ctx where
 T:=tab
 draws:=λf i=>match f,i with|93,6=>([(17,[(0,0)],0),(18,[(5,0)],0),(19,[(16,1),(17,2)],3),(20,[(18,3)],7),(21,[(1,0)],0),(22,[(5,0)],0),(23,[(20,5),(21,6)],48),(24,[(22,7)],112),(25,[(19,4),(23,8)],255)],33488896)|_,_=>([],0)
 keep:=λf i=>match f,i with|93,0=>([0,1,4,12,13],[],[])|_,_=>([],[],[])
 keepE:=λf i=>match f,i with|93,0=>([0,1,4,12,13],[],[])|_,_=>([],[],[])
 keepR:=λf i=>match f,i with|93,0=>([4],[],[4])|_,_=>([],[],[])
 L:=λf i b st=>match f,i,b with|93,0,0=>(matchSt z168.l0sh st).bind z168.l0pack|_,_,_=>none
theorem z168.l0_link (R:Type) (k:Env×Store->Option R) (d:X×Env×Store->Option R) (a c:J2) (e:Bool) (g h:Int) :
  z168.C.loopP 93 0 (Qg 0 (ifun Tryz.f93).body) 0 k d (Qb z168.l0sh [.lr a,.lr c,.b e,.i g,.i h]) =
  z168.l0P a c g (λx'=>k (Qb z168.l0sh [.lr a,.lr c,.b e,.i g,.i x'])) (λo=>match o with | .inl o=>d (z168.l0out0 a c e g h o) | .inr o=>d (z168.l0out1 a c e g h o)) h:=by kernel_rfl
theorem z168.link (a0 a1:J2):z168.C.evTop 93 (ifun Tryz.f93) [(.recs false 8 a0),(.recs false 8 a1)] z10.dec=z168.F a0 a1:=by kernel_rfl
def z171.C:Ctx where
 T:=tab
 call:=λg args=>match g with|35=>z104.pack args|_=>none
theorem z171.link (a0:J0) (a1:Bool) (a2:J0):z171.C.evTop 282 (ifun Tryz.f282) [(.agg [(.ints false .i64 a0),(.bool a1),(.ints false .i64 a2)])] z117.dec=z171.F a0 a1 a2:=by kernel_rfl
def z176.l0b5sh:Env×Store:=(.undef::(.ptr 0 0)::(.sref 1 0)::(.recs false 6 [])::(.ptr 2 0) :: .undef::(.ptr 3 0)::(.sref 4 0)::(.int .i64 0)::un 118 [],[(.cells 78 [(.str ([]:J1)),(.str ([]:J1)),(.int .i64 0),(.int .i64 0),(.int .i64 0),(.int .i64 0),(.int .i64 0),(.int .i64 0),(.int .i64 0),(.int .i64 0)]),(.arr 0 true 166 (.recs false 8 [])),(.cells 47 [(.ints false .i64 []),(.bool false)]),(.cells 47 [(.ints false .i64 []),(.bool false)]),(.arr 0 true 166 (.recs false 8 []))])
def z176.l0b5out0 (a:J2) (c:Int) (d e:J1) (g h j k m n p q:Int) (r:J2) (t:J0) (u:Bool) (v:J0) (w:Bool) (x:J2) (o:Int×J0×Bool×J2):X×Env×Store:=((.exit 0),Qb z176.l0b5sh [.lr a,.i o.1,.s d,.s e,.i g,.i h,.i j,.i k,.i m,.i n,.i p,.i q,.lr r,.li o.2.1,.b o.2.2.1,.li v,.b w,.lr o.2.2.2])
def z176.l0b5pack:List Leaf->Option LPack
 |[.lr a,.i c,.s d,.s e,.i g,.i h,.i j,.i k,.i m,.i n,.i o,.i p,.lr q,.li r,.b t,.li u,.b v,.lr w]=>some (.one _ (z176.l0b5 a d e g h j k m n o p u v (c,r,t,w)) (z176.l0b5out0 a c d e g h j k m n o p q r t u v w))
 |_=>none
def z176.C:Ctx where
 T:=tab
 draws:=λf i=>match f,i with|94,12=>([(59,[(4,0)],0),(60,[(1,0)],0),(61,[(3,0)],0),(62,[(8,0)],0),(63,[(60,3),(61,4)],12),(64,[(62,5)],28),(65,[(63,6)],60),(66,[(3,0)],0),(67,[(8,0)],0),(68,[(65,8),(66,9)],384),(69,[(67,10)],896),(70,[(68,11)],1920),(71,[(58,1),(59,2),(64,7),(69,12)],4095),(10,[],0),(0,[(9,14),(70,13)],16383)],2360895011058670895616)|_,_=>([],0)
 call:=λg args=>match g with|52=>z129.pack args|37=>z112.pack args|60=>z9.pack args|177=>z174.pack args|178=>z175.pack args|82=>z153.pack args|63=>z109.pack args|117=>z111.pack args|85=>z108.pack args|26=>z6.pack args|_=>none
 keep:=λf i=>match f,i with|94,0=>([1,2,3,4,6,7,8],[0,1,2,3,4],[])|_,_=>([],[],[])
 keepE:=λf i=>match f,i with|94,0=>([1,2,3,4,6,7,8],[0,1,2,3,4],[])|_,_=>([],[],[])
 keepR:=λf i=>match f,i with|94,0=>([2],[0,1,2,3,4],[2])|_,_=>([],[],[])
 L:=λf i b st=>match f,i,b with|94,0,0=>(matchSt z176.l0b5sh st).bind z176.l0b5pack|_,_,_=>none
def z176.dec:V->Option (J2)
 |(.recs _ 8 x0)=>some x0
 |_=>none
theorem z176.l0b5_link (R:Type) (k:Env×Store->Option R) (d:X×Env×Store->Option R) (a:J2) (c:Int) (e g:J1) (h j m n p q r t:Int) (u:J2) (v:J0) (w:Bool) (x:J0) (y:Bool) (z:J2) :
  z176.C.loopP 94 0 (Qg 0 (ifun Tryz.f94).body) 5 k d (Qb z176.l0b5sh [.lr a,.i c,.s e,.s g,.i h,.i j,.i m,.i n,.i p,.i q,.i r,.i t,.lr u,.li v,.b w,.li x,.b y,.lr z]) =
  z176.l0b5P a e g h j m n p q r t x y (λx'=>k (Qb z176.l0b5sh [.lr a,.i x'.1,.s e,.s g,.i h,.i j,.i m,.i n,.i p,.i q,.i r,.i t,.lr u,.li x'.2.1,.b x'.2.2.1,.li x,.b y,.lr x'.2.2.2])) (λo=>d (z176.l0b5out0 a c e g h j m n p q r t u v w x y z o)) (c,v,w,z):=by kernel_rfl
theorem z176.link (a0 a1:J1) (a2 a3 a4 a5 a6 a7 a8 a9:Int):z176.C.evTop 94 (ifun Tryz.f94) [(.agg [(.str a0),(.str a1),(.int .i64 a2),(.int .i64 a3),(.int .i64 a4),(.int .i64 a5),(.int .i64 a6),(.int .i64 a7),(.int .i64 a8),(.int .i64 a9)])] z176.dec=z176.F a0 a1 a2 a3 a4 a5 a6 a7 a8 a9:=by kernel_rfl
end
noncomputable section
def z6.C:Ctx where
 T:=tab
 call:=λg args=>match g with|102=>z5.pack args|_=>none
theorem z6.link (a0:J0) (a1:Bool):z6.C.evTop 26 (ifun Tryz.f26) [(.agg [(.ints false .i64 a0),(.bool a1)])] z17.dec=z6.F a0 a1:=by kernel_rfl
def z9.C:Ctx where
 T:=tab
 call:=λg args=>match g with|152=>z8.pack args|113=>z7.pack args|_=>none
def z9.dec:V->Option (J0×Bool)
 |(.agg [(.ints _ .i64 x0),(.bool x1)])=>some (x0,x1)
 |_=>none
theorem z9.link (a0:Int):z9.C.evTop 60 (ifun Tryz.f60) [(.int .i64 a0)] z9.dec=z9.F a0:=by kernel_rfl
def z14.l0b6sh:Env×Store:=((.ints false .i64 []) :: .undef::(.sref 0 0)::(.int .i64 0)::un 17 [],[(.arr 0 true 3 (.ints false .i64 []))])
def z14.l0b6out0 (a:J0) (b:Int) (c:J0) (o:Int):X×Env×Store:=((.exit 0),Qb z14.l0b6sh [.li a,.i o,.li c])
def z14.l0b6pack:List Leaf->Option LPack
 |[.li a,.i b,.li c]=>some (.one _ (z14.l0b6 a b) (z14.l0b6out0 a b c))
 |_=>none
def z14.C:Ctx where
 T:=tab
 keep:=λf i=>match f,i with|235,0=>([0,2,3],[0],[])|_,_=>([],[],[])
 keepE:=λf i=>match f,i with|235,0=>([0,2,3],[0],[])|_,_=>([],[],[])
 keepR:=λf i=>match f,i with|235,0=>([2],[0],[2])|_,_=>([],[],[])
 L:=λf i b st=>match f,i,b with|235,0,0=>(matchSt z14.l0b6sh st).bind z14.l0b6pack|_,_,_=>none
theorem z14.l0b6_link (R:Type) (k:Env×Store->Option R) (d:X×Env×Store->Option R) (a:J0) (b:Int) (c:J0) :
  z14.C.loopP 235 0 (Qg 0 (ifun Tryz.f235).body) 1 k d (Qb z14.l0b6sh [.li a,.i b,.li c]) =
  z14.l0b6P a (λx'=>k (Qb z14.l0b6sh [.li a,.i x',.li c])) (λo=>d (z14.l0b6out0 a b c o)) b:=by kernel_rfl
theorem z14.link (a0:J0):z14.C.evTop 235 (ifun Tryz.f235) [(.ints false .i64 a0)] z15.dec=z14.F a0:=by kernel_rfl
def z16.C:Ctx where
 T:=tab
 call:=λg args=>match g with|208=>z15.pack args|113=>z7.pack args|_=>none
theorem z16.link (a0:J0) (a1:Bool) (a2:J0) (a3:Bool):z16.C.evTop 131 (ifun Tryz.f131) [(.agg [(.ints false .i64 a0),(.bool a1)]),(.agg [(.ints false .i64 a2),(.bool a3)])] z9.dec=z16.F a0 a1 a2 a3:=by kernel_rfl
def z24.l0sh:Env×Store:=(.undef :: .undef::(.ptr 0 0)::(.ptr 1 0)::(.ptr 2 0)::(.sref 3 0)::(.int .u64 0)::un 11 ((.int .i64 0)::(.int .i64 0)::un 19 []),[(.cells 37 [(.ints false .u64 [])]),(.cells 37 [(.ints false .u64 [])]),(.cells 37 [(.ints false .u64 [])]),(.arr 0 false 79 (.ints false .u64 []))])
def z24.l0out0 (a b c:Int) (d e g h:J0) (o:Int×Int×J0):X×Env×Store:=((.exit 0),Qb z24.l0sh [.i o.1,.i b,.i o.2.1,.li d,.li e,.li g,.li o.2.2])
def z24.l0pack:List Leaf->Option LPack
 |[.i a,.i b,.i c,.li d,.li e,.li g,.li h]=>some (.one _ (z24.l0 b d e (a,c,h)) (z24.l0out0 a b c d e g h))
 |_=>none
def z24.C:Ctx where
 T:=tab
 draws:=λf i=>match f,i with|99,6=>([(24,[(5,0)],0),(25,[(7,0)],0),(26,[(2,0)],0),(27,[(7,0)],0),(28,[(25,3),(26,4)],12),(29,[(3,0)],0),(30,[(7,0)],0),(31,[(28,6),(29,7)],124),(32,[(6,16)],0),(33,[(27,5),(30,8),(31,9)],508),(23,[(32,10)],1020),(34,[(22,11)],2044),(35,[(22,11)],2044),(36,[(23,1),(24,2)],4095),(0,[(35,14),(33,12)],12287),(7,[(34,13)],32767)],68715282496)|_,_=>([],0)
 call:=λg args=>match g with|184=>z22.pack args|183=>z0.pack args|185=>z23.pack args|_=>none
 keep:=λf i=>match f,i with|99,0=>([2,3,4,5,6,18,19],[0,1,2,3],[])|_,_=>([],[],[])
 keepE:=λf i=>match f,i with|99,0=>([2,3,4,5,6,18,19],[0,1,2,3],[])|_,_=>([],[],[])
 keepR:=λf i=>match f,i with|99,0=>([4],[0,1,2,3],[4])|_,_=>([],[],[])
 L:=λf i b st=>match f,i,b with|99,0,0=>(matchSt z24.l0sh st).bind z24.l0pack|_,_,_=>none
theorem z24.l0_link (R:Type) (k:Env×Store->Option R) (d:X×Env×Store->Option R) (a b c:Int) (e g h j:J0) :
  z24.C.loopP 99 0 (Qg 0 (ifun Tryz.f99).body) 4 k d (Qb z24.l0sh [.i a,.i b,.i c,.li e,.li g,.li h,.li j]) =
  z24.l0P b e g (λx'=>k (Qb z24.l0sh [.i x'.1,.i b,.i x'.2.1,.li e,.li g,.li h,.li x'.2.2])) (λo=>d (z24.l0out0 a b c e g h j o)) (a,c,j):=by kernel_rfl
theorem z24.link (a0 a1:J0):z24.C.evTop 99 (ifun Tryz.f99) [(.agg [(.ints false .u64 a0)]),(.agg [(.ints false .u64 a1)])] z23.dec=z24.F a0 a1:=by kernel_rfl
def z25.C:Ctx where
 T:=tab
theorem z25.link (a0:Int):z25.C.evTop 212 (ifun Tryz.f212) [(.int .i64 a0)] z10.dec=z25.F a0:=by kernel_rfl
def z31.C:Ctx where
 T:=tab
 draws:=λf i=>match f,i with|24,2=>([(15,[(2,0)],0),(16,[(14,1)],1),(17,[(3,0)],0),(18,[(16,3)],4),(19,[(15,2),(17,4)],15),(20,[(2,0)],0),(21,[(19,6)],32),(22,[(18,5),(20,7)],127),(0,[(4,0),(21,8)],255)],4177920)|_,_=>([],0)
 call:=λg args=>match g with|99=>z24.pack args|91=>z21.pack args|100=>z30.pack args|_=>none
theorem z31.link (a0:J0) (a1:Bool) (a2:J0) (a3:Bool):z31.C.evTop 24 (ifun Tryz.f24) [(.agg [(.ints false .u64 a0),(.bool a1)]),(.agg [(.ints false .u64 a2),(.bool a3)])] z33.dec=z31.F a0 a1 a2 a3:=by kernel_rfl
def z32.C:Ctx where
 T:=tab
 call:=λg args=>match g with|91=>z21.pack args|_=>none
theorem z32.link (a0:J0) (a1:Bool):z32.C.evTop 110 (ifun Tryz.f110) [(.agg [(.ints false .u64 a0),(.bool a1)])] z33.dec=z32.F a0 a1:=by kernel_rfl
def z34.C:Ctx where
 T:=tab
 call:=λg args=>match g with|90=>z33.pack args|28=>z20.pack args|_=>none
theorem z34.link (a0:J0) (a1:Bool) (a2:J0) (a3:Bool):z34.C.evTop 74 (ifun Tryz.f74) [(.agg [(.ints false .u64 a0),(.bool a1)]),(.agg [(.ints false .u64 a2),(.bool a3)])] z28.dec=z34.F a0 a1 a2 a3:=by kernel_rfl
def z44.C:Ctx where
 T:=tab
 call:=λg args=>match g with|158=>z38.pack args|247=>z43.pack args|_=>none
def z44.dec:V->Option (J0×Int)
 |(.tup [(.agg [(.ints _ .u64 x0)]),(.int .i64 x1)])=>some (x0,x1)
 |_=>none
theorem z44.link (a0:Int):z44.C.evTop 195 (ifun Tryz.f195) [(.int .i64 a0)] z44.dec=z44.F a0:=by kernel_rfl
def z45.C:Ctx where
 T:=tab
 call:=λg args=>match g with|195=>z44.pack args|91=>z21.pack args|_=>none
theorem z45.link:z45.C.evTop 114 (ifun Tryz.f114) [] z33.dec=z45.F:=by kernel_rfl
def z47.C:Ctx where
 T:=tab
theorem z47.link (a0:J0) (a1:Bool):z47.C.evTop 68 (ifun Tryz.f68) [(.agg [(.ints false .u64 a0),(.bool a1)])] z139.dec=z47.F a0 a1:=by kernel_rfl
def z48.C:Ctx where
 T:=tab
 call:=λg args=>match g with|158=>z38.pack args|91=>z21.pack args|_=>none
theorem z48.link (a0:Int):z48.C.evTop 69 (ifun Tryz.f69) [(.int .i64 a0)] z33.dec=z48.F a0:=by kernel_rfl
def z49.C:Ctx where
 T:=tab
 call:=λg args=>match g with|200=>z3.pack args|_=>none
theorem z49.link (a0:J1):z49.C.evTop 199 (ifun Tryz.f199) [(.str a0)] z10.dec=z49.F a0:=by kernel_rfl
def z53.C:Ctx where
 T:=tab
theorem z53.link (a0:J0) (a1:Bool) (a2:Int):z53.C.evTop 120 (ifun Tryz.f120) [(.agg [(.ints false .u64 a0),(.bool a1),(.int .i64 a2)])] z33.dec=z53.F a0 a1 a2:=by kernel_rfl
def z54.C:Ctx where
 T:=tab
 draws:=λf i=>match f,i with|156,1=>([(6,[(2,0)],0),(7,[(5,1)],1),(8,[(3,0)],0),(9,[(7,3)],4),(10,[(6,2),(8,4)],15),(11,[(2,0)],0),(12,[(10,6)],32),(13,[(3,0)],0),(14,[(12,8)],128),(15,[(11,7),(13,9)],480),(16,[(9,5),(14,10)],1023),(0,[(4,0),(15,11)],2047)],65504)|_,_=>([],0)
 call:=λg args=>match g with|164=>z40.pack args|91=>z21.pack args|_=>none
theorem z54.link (a0:J0) (a1:Bool) (a2:J0) (a3:Bool):z54.C.evTop 156 (ifun Tryz.f156) [(.agg [(.ints false .u64 a0),(.bool a1)]),(.agg [(.ints false .u64 a2),(.bool a3)])] z33.dec=z54.F a0 a1 a2 a3:=by kernel_rfl
def z58.C:Ctx where
 T:=tab
theorem z58.link (a0:J0) (a1:Bool) (a2:Int):z58.C.evTop 122 (ifun Tryz.f122) [(.agg [(.ints false .u64 a0),(.bool a1),(.int .i64 a2)])] z28.dec=z58.F a0 a1 a2:=by kernel_rfl
def z74.C:Ctx where
 T:=tab
 call:=λg args=>match g with|130=>z73.pack args|91=>z21.pack args|_=>none
theorem z74.link (a0:J0) (a1:Bool) (a2:J0):z74.C.evTop 157 (ifun Tryz.f157) [(.agg [(.ints false .u64 a0),(.bool a1),(.ints false .u64 a2)])] z33.dec=z74.F a0 a1 a2:=by kernel_rfl
def z75.C:Ctx where
 T:=tab
 draws:=λf i=>match f,i with|124,1=>([(7,[(2,0)],0),(8,[(6,1)],1),(9,[(3,0)],0),(10,[(8,3)],4),(11,[(7,2),(9,4)],15),(12,[(2,0)],0),(13,[(11,6)],63),(14,[(3,0)],0),(15,[(13,8)],128),(16,[(12,7),(14,9)],511),(17,[(10,5),(15,10)],1023),(18,[(16,11)],2047),(19,[(16,11)],2047),(0,[(4,0),(17,12)],8191),(6,[(18,13)],16383)],524256)|_,_=>([],0)
 call:=λg args=>match g with|157=>z74.pack args|156=>z54.pack args|176=>z71.pack args|_=>none
def z75.dec:V->Option (J0×Bool×J0×Int)
 |(.tup [(.agg [(.ints _ .u64 x0),(.bool x1),(.ints _ .u64 x2)]),(.int .i64 x3)])=>some (x0,x1,x2,x3)
 |_=>none
theorem z75.link (a0:J0) (a1:Bool) (a2 a3:J0) (a4:Bool) (a5:J0):z75.C.evTop 124 (ifun Tryz.f124) [(.agg [(.ints false .u64 a0),(.bool a1),(.ints false .u64 a2)]),(.agg [(.ints false .u64 a3),(.bool a4),(.ints false .u64 a5)])] z75.dec=z75.F a0 a1 a2 a3 a4 a5:=by kernel_rfl
def z76.C:Ctx where
 T:=tab
 call:=λg args=>match g with|118=>z50.pack args|69=>z48.pack args|119=>z52.pack args|120=>z53.pack args|28=>z20.pack args|121=>z57.pack args|122=>z58.pack args|123=>z72.pack args|68=>z47.pack args|124=>z75.pack args|_=>none
theorem z76.link (a0:J1):z76.C.evTop 38 (ifun Tryz.f38) [(.str a0)] z75.dec=z76.F a0:=by kernel_rfl
def z78.C:Ctx where
 T:=tab
 call:=λg args=>match g with|137=>z77.pack args|_=>none
theorem z78.link (a0:Int):z78.C.evTop 47 (ifun Tryz.f47) [(.int .i64 a0)] z17.dec=z78.F a0:=by kernel_rfl
def z79.C:Ctx where
 T:=tab
theorem z79.link (a0:Int):z79.C.evTop 214 (ifun Tryz.f214) [(.int .i64 a0)] z10.dec=z79.F a0:=by kernel_rfl
def z80.C:Ctx where
 T:=tab
theorem z80.link:z80.C.evTop 215 (ifun Tryz.f215) [] z77.dec=z80.F:=by kernel_rfl
def z98.l0sh:Env×Store:=(.undef::(.ptr 0 0)::(.int .i64 0)::(.int .i64 0) :: .undef::(.int .i64 0)::(.int .i64 0)::un 24 [],[(.cells 41 [(.int .i64 0),(.int .i64 0),(.int .i64 0)])])
def z98.l0out0 (a b c d e g h:Int) (o:Int×Int):X×Env×Store:=((.exit 0),Qb z98.l0sh [.i a,.i b,.i o.1,.i o.2,.i e,.i g,.i h])
def z98.l0pack:List Leaf->Option LPack
 |[.i a,.i b,.i c,.i d,.i e,.i g,.i h]=>some (.one _ (z98.l0 e g (c,d)) (z98.l0out0 a b c d e g h))
 |_=>none
def z98.C:Ctx where
 T:=tab
 call:=λg args=>match g with|142=>z89.pack args|211=>z97.pack args|210=>z88.pack args|_=>none
 keep:=λf i=>match f,i with|140,0=>([1,2,3,5,6],[0],[])|_,_=>([],[],[])
 keepE:=λf i=>match f,i with|140,0=>([1,2,3,5,6],[0],[])|_,_=>([],[],[])
 keepR:=λf i=>match f,i with|140,0=>([2,3],[0],[2,3])|_,_=>([],[],[])
 L:=λf i b st=>match f,i,b with|140,0,0=>(matchSt z98.l0sh st).bind z98.l0pack|_,_,_=>none
def z98.dec:V->Option (Int×Int)
 |(.tup [(.int .i64 x0),(.int .i64 x1)])=>some (x0,x1)
 |_=>none
theorem z98.l0_link (R:Type) (k:Env×Store->Option R) (d:X×Env×Store->Option R) (a b c e g h j:Int) :
  z98.C.loopP 140 0 (Qg 0 (ifun Tryz.f140).body) 1 k d (Qb z98.l0sh [.i a,.i b,.i c,.i e,.i g,.i h,.i j]) =
  z98.l0P g h (λx'=>k (Qb z98.l0sh [.i a,.i b,.i x'.1,.i x'.2,.i g,.i h,.i j])) (λo=>d (z98.l0out0 a b c e g h j o)) (c,e):=by kernel_rfl
theorem z98.link (a0 a1 a2:Int):z98.C.evTop 140 (ifun Tryz.f140) [(.agg [(.int .i64 a0),(.int .i64 a1),(.int .i64 a2)])] z98.dec=z98.F a0 a1 a2:=by kernel_rfl
def z100.C:Ctx where
 T:=tab
 call:=λg args=>match g with|192=>z99.pack args|113=>z7.pack args|_=>none
theorem z100.link (a0:J1):z100.C.evTop 103 (ifun Tryz.f103) [(.str a0)] z9.dec=z100.F a0:=by kernel_rfl
def z101.l0b4sh:Env×Store:=((.str ([]:J1)) :: .undef::(.bool false)::(.int .i64 0)::un 29 [],[])
def z101.l0b4so1:Env×Store:=(.undef :: .undef::(.bool false)::un 30 [],[])
def z101.l0b4out0 (a:J1) (c:Bool) (d o:Int):X×Env×Store:=((.exit 0),Qb z101.l0b4sh [.s a,.b c,.i o])
def z101.l0b4out1 (a:J1) (c:Bool) (d:Int) (o:Bool):X×Env×Store:=(.ret,Qb z101.l0b4so1 [.b o])
def z101.l0b4pack:List Leaf->Option LPack
 |[.s a,.b c,.i d]=>some (.two _ _ (z101.l0b4 a d) (z101.l0b4out0 a c d) (z101.l0b4out1 a c d))
 |_=>none
def z101.C:Ctx where
 T:=tab
 keep:=λf i=>match f,i with|196,0=>([0,2,3],[],[])|_,_=>([],[],[])
 keepE:=λf i=>match f,i with|196,0=>([0,2,3],[],[])|_,_=>([],[],[])
 keepR:=λf i=>match f,i with|196,0=>([2],[],[2])|_,_=>([],[],[])
 L:=λf i b st=>match f,i,b with|196,0,0=>(matchSt z101.l0b4sh st).bind z101.l0b4pack|_,_,_=>none
theorem z101.l0b4_link (R:Type) (k:Env×Store->Option R) (d:X×Env×Store->Option R) (a:J1) (c:Bool) (e:Int) :
  z101.C.loopP 196 0 (Qg 0 (ifun Tryz.f196).body) 0 k d (Qb z101.l0b4sh [.s a,.b c,.i e]) =
  z101.l0b4P a (λx'=>k (Qb z101.l0b4sh [.s a,.b c,.i x'])) (λo=>match o with | .inl o=>d (z101.l0b4out0 a c e o) | .inr o=>d (z101.l0b4out1 a c e o)) e:=by kernel_rfl
theorem z101.link (a0:J1):z101.C.evTop 196 (ifun Tryz.f196) [(.str a0)] z10.dec=z101.F a0:=by kernel_rfl
def z105.l0b6sh:Env×Store:=((.ints false .i64 [])::(.ints false .i64 []) :: .undef :: .undef::(.sref 0 0)::(.sref 1 0)::(.int .i64 0)::(.int .i64 0)::un 39 [],[(.arr 0 true 3 (.ints false .i64 [])),(.arr 0 true 3 (.ints false .i64 []))])
def z105.l0b6out0 (a b:J0) (c d:Int) (e g:J0) (o:Int×Int×J0):X×Env×Store:=((.exit 0),Qb z105.l0b6sh [.li a,.li b,.i o.1,.i o.2.1,.li e,.li o.2.2])
def z105.l0b6pack:List Leaf->Option LPack
 |[.li a,.li b,.i c,.i d,.li e,.li g]=>some (.one _ (z105.l0b6 a b (c,d,g)) (z105.l0b6out0 a b c d e g))
 |_=>none
def z105.C:Ctx where
 T:=tab
 call:=λg args=>match g with|234=>z13.pack args|235=>z14.pack args|_=>none
 keep:=λf i=>match f,i with|170,0=>([0,1,4,5,6,7],[0,1],[])|_,_=>([],[],[])
 keepE:=λf i=>match f,i with|170,0=>([0,1,4,5,6,7],[0,1],[])|_,_=>([],[],[])
 keepR:=λf i=>match f,i with|170,0=>([4],[0,1],[4])|_,_=>([],[],[])
 L:=λf i b st=>match f,i,b with|170,0,0=>(matchSt z105.l0b6sh st).bind z105.l0b6pack|_,_,_=>none
theorem z105.l0b6_link (R:Type) (k:Env×Store->Option R) (d:X×Env×Store->Option R) (a b:J0) (c e:Int) (g h:J0) :
  z105.C.loopP 170 0 (Qg 0 (ifun Tryz.f170).body) 2 k d (Qb z105.l0b6sh [.li a,.li b,.i c,.i e,.li g,.li h]) =
  z105.l0b6P a b (λx'=>k (Qb z105.l0b6sh [.li a,.li b,.i x'.1,.i x'.2.1,.li g,.li x'.2.2])) (λo=>d (z105.l0b6out0 a b c e g h o)) (c,e,h):=by kernel_rfl
theorem z105.link (a0 a1:J0):z105.C.evTop 170 (ifun Tryz.f170) [(.ints false .i64 a0),(.ints false .i64 a1)] z15.dec=z105.F a0 a1:=by kernel_rfl
def z106.l0sh:Env×Store:=((.ints false .i64 [])::(.ints false .i64 []) :: .undef :: .undef::(.int .i64 0)::(.int .i64 0)::un 35 [],[])
def z106.l0so1:Env×Store:=(un 4 ((.int .i64 0)::un 36 []),[])
def z106.l0out0 (a b:J0) (c d o:Int):X×Env×Store:=((.exit 0),Qb z106.l0sh [.li a,.li b,.i c,.i o])
def z106.l0out1 (a b:J0) (c d o:Int):X×Env×Store:=(.ret,Qb z106.l0so1 [.i o])
def z106.l0pack:List Leaf->Option LPack
 |[.li a,.li b,.i c,.i d]=>some (.two _ _ (z106.l0 a b d) (z106.l0out0 a b c d) (z106.l0out1 a b c d))
 |_=>none
def z106.C:Ctx where
 T:=tab
 draws:=λf i=>match f,i with|171,8=>([(24,[(0,0)],0),(25,[(5,0)],0),(26,[(23,1),(24,2)],3),(27,[(25,3)],7),(28,[(1,0)],0),(29,[(5,0)],0),(30,[(27,5),(28,6)],48),(31,[(29,7)],112),(32,[(26,4),(30,8)],255)],4286578688)|171,10=>([(33,[(0,0)],0),(34,[(5,0)],0),(35,[(32,1),(33,2)],3),(36,[(34,3)],7),(37,[(1,0)],0),(38,[(5,0)],0),(39,[(36,5),(37,6)],48),(40,[(38,7)],112),(41,[(35,4),(39,8)],255)],2194728288256)|_,_=>([],0)
 keep:=λf i=>match f,i with|171,0=>([0,1,4,5],[],[])|_,_=>([],[],[])
 keepE:=λf i=>match f,i with|171,0=>([0,1,4,5],[],[])|_,_=>([],[],[])
 keepR:=λf i=>match f,i with|171,0=>([4],[],[4])|_,_=>([],[],[])
 L:=λf i b st=>match f,i,b with|171,0,0=>(matchSt z106.l0sh st).bind z106.l0pack|_,_,_=>none
theorem z106.l0_link (R:Type) (k:Env×Store->Option R) (d:X×Env×Store->Option R) (a b:J0) (c e:Int) :
  z106.C.loopP 171 0 (Qg 0 (ifun Tryz.f171).body) 0 k d (Qb z106.l0sh [.li a,.li b,.i c,.i e]) =
  z106.l0P a b (λx'=>k (Qb z106.l0sh [.li a,.li b,.i c,.i x'])) (λo=>match o with | .inl o=>d (z106.l0out0 a b c e o) | .inr o=>d (z106.l0out1 a b c e o)) e:=by kernel_rfl
theorem z106.link (a0 a1:J0):z106.C.evTop 171 (ifun Tryz.f171) [(.ints false .i64 a0),(.ints false .i64 a1)] z28.dec=z106.F a0 a1:=by kernel_rfl
def z113.l2sh:Env×Store:=((.ints false .i64 [])::(.ints false .i64 []) :: .undef :: .undef::(.sref 0 0)::(.sref 1 0)::(.sref 2 0)::(.ints false .i64 [])::(.int .i64 0) :: .undef::(.int .i64 0)::(.int .i64 0)::un 61 [],[(.arr 0 true 3 (.ints false .i64 [])),(.arr 0 true 3 (.ints false .i64 [])),(.arr 0 false 3 (.ints false .i64 [])),.dead])
def z113.l2out0 (a b c:J0) (d e g:Int) (h j k:J0) (o:Int×Int):X×Env×Store:=((.exit 2),Qb z113.l2sh [.li a,.li b,.li c,.i d,.i o.1,.i o.2,.li h,.li j,.li k])
def z113.l2pack:List Leaf->Option LPack
 |[.li a,.li b,.li c,.i d,.i e,.i g,.li h,.li j,.li k]=>some (.one _ (z113.l2 b c (e,g)) (z113.l2out0 a b c d e g h j k))
 |_=>none
def z113.l0ash:Env×Store:=((.ints false .i64 [])::(.ints false .i64 []) :: .undef :: .undef::(.sref 0 0)::(.sref 1 0)::(.sref 2 0)::(.ints false .i64 [])::(.int .i64 0)::un 64 [],[(.arr 0 true 3 (.ints false .i64 [])),(.arr 0 true 3 (.ints false .i64 [])),(.arr 0 false 3 (.ints false .i64 [])),.dead])
def z113.l0aout0 (a b c:J0) (d:Int) (e g h:J0) (o:J0×Int×J0):X×Env×Store:=((.exit 0),Qb z113.l0ash [.li a,.li b,.li o.1,.i o.2.1,.li e,.li g,.li o.2.2])
def z113.l0apack:List Leaf->Option LPack
 |[.li a,.li b,.li c,.i d,.li e,.li g,.li h]=>some (.one _ (z113.l0a a b (c,d,h)) (z113.l0aout0 a b c d e g h))
 |_=>none
def z113.C:Ctx where
 T:=tab
 call:=λg args=>match g with|235=>z14.pack args|152=>z8.pack args|208=>z15.pack args|171=>z106.pack args|172=>z107.pack args|_=>none
 keep:=λf i=>match f,i with|221,2=>([0,1,4,5,6,7,8,10,11],[0,1,2],[])|221,0=>([0,1,4,5,6,7,8],[0,1,2],[7])|_,_=>([],[],[])
 keepE:=λf i=>match f,i with|221,2=>([0,1,4,5,6,7,8,10,11],[0,1,2],[])|221,0=>([0,1,4,5,6,7,8],[0,1,2],[7])|_,_=>([],[],[])
 keepR:=λf i=>match f,i with|221,2=>([4,5],[0,1,2],[4,5])|221,0=>([4,5],[0,1,2],[4,5])|_,_=>([],[],[])
 L:=λf i b st=>match f,i,b with|221,2,0=>(matchSt z113.l2sh st).bind z113.l2pack|221,0,0=>(matchSt z113.l0ash st).bind z113.l0apack|_,_,_=>none
def z113.dec:V->Option (J0×J0)
 |(.tup [(.ints _ .i64 x0),(.ints _ .i64 x1)])=>some (x0,x1)
 |_=>none
theorem z113.l2_link (R:Type) (k:Env×Store->Option R) (d:X×Env×Store->Option R) (a b c:J0) (e g h:Int) (j m n:J0) :
  z113.C.loopP 221 2 (Qg 2 (ifun Tryz.f221).body) 4 k d (Qb z113.l2sh [.li a,.li b,.li c,.i e,.i g,.i h,.li j,.li m,.li n]) =
  z113.l2P b c (λx'=>k (Qb z113.l2sh [.li a,.li b,.li c,.i e,.i x'.1,.i x'.2,.li j,.li m,.li n])) (λo=>d (z113.l2out0 a b c e g h j m n o)) (g,h):=by kernel_rfl
theorem z113.l0a_link (R:Type) (k:Env×Store->Option R) (d:X×Env×Store->Option R) (a b c:J0) (e:Int) (g h j:J0) :
  z113.C.loopP 221 0 (Qg 0 (ifun Tryz.f221).body) 4 k d (Qb z113.l0ash [.li a,.li b,.li c,.i e,.li g,.li h,.li j]) =
  z113.l0aP a b (λx'=>k (Qb z113.l0ash [.li a,.li b,.li x'.1,.i x'.2.1,.li g,.li h,.li x'.2.2])) (λo=>d (z113.l0aout0 a b c e g h j o)) (c,e,j):=by kernel_rfl
theorem z113.link (a0 a1:J0):z113.C.evTop 221 (ifun Tryz.f221) [(.ints false .i64 a0),(.ints false .i64 a1)] z113.dec=z113.F a0 a1:=by kernel_rfl
def z114.l0sh:Env×Store:=((.ints false .i64 [])::(.ints false .i64 []) :: .undef :: .undef::(.sref 0 0)::un 14 [],[(.arr 0 true 3 (.ints false .i64 []))])
def z114.l0out0 (a b c:J0) (o:J0×J0):X×Env×Store:=((.exit 0),Qb z114.l0sh [.li o.1,.li o.2,.li c])
def z114.l0pack:List Leaf->Option LPack
 |[.li a,.li b,.li c]=>some (.one _ (z114.l0 (a,b)) (z114.l0out0 a b c))
 |_=>none
def z114.C:Ctx where
 T:=tab
 call:=λg args=>match g with|221=>z113.pack args|_=>none
 keep:=λf i=>match f,i with|256,0=>([0,1,4],[0],[])|_,_=>([],[],[])
 keepE:=λf i=>match f,i with|256,0=>([0,1,4],[0],[])|_,_=>([],[],[])
 keepR:=λf i=>match f,i with|256,0=>([4],[0],[4])|_,_=>([],[],[])
 L:=λf i b st=>match f,i,b with|256,0,0=>(matchSt z114.l0sh st).bind z114.l0pack|_,_,_=>none
theorem z114.l0_link (R:Type) (k:Env×Store->Option R) (d:X×Env×Store->Option R) (a b c:J0) :
  z114.C.loopP 256 0 (Qg 0 (ifun Tryz.f256).body) 1 k d (Qb z114.l0sh [.li a,.li b,.li c]) =
  z114.l0P (λx'=>k (Qb z114.l0sh [.li x'.1,.li x'.2,.li c])) (λo=>d (z114.l0out0 a b c o)) (a,b):=by kernel_rfl
theorem z114.link (a0 a1:J0):z114.C.evTop 256 (ifun Tryz.f256) [(.ints false .i64 a0),(.ints false .i64 a1)] z15.dec=z114.F a0 a1:=by kernel_rfl
def z120.C:Ctx where
 T:=tab
 call:=λg args=>match g with|113=>z7.pack args|131=>z16.pack args|_=>none
theorem z120.link (a0:J0) (a1:Bool) (a2 a3:J0) (a4:Bool) (a5:J0):z120.C.evTop 207 (ifun Tryz.f207) [(.agg [(.ints false .i64 a0),(.bool a1),(.ints false .i64 a2)]),(.agg [(.ints false .i64 a3),(.bool a4),(.ints false .i64 a5)])] z9.dec=z120.F a0 a1 a2 a3 a4 a5:=by kernel_rfl
def z122.C:Ctx where
 T:=tab
 call:=λg args=>match g with|207=>z120.pack args|113=>z7.pack args|131=>z16.pack args|205=>z116.pack args|_=>none
theorem z122.link (a0:J0) (a1:Bool) (a2 a3:J0) (a4:Bool) (a5:J0):z122.C.evTop 129 (ifun Tryz.f129) [(.agg [(.ints false .i64 a0),(.bool a1),(.ints false .i64 a2)]),(.agg [(.ints false .i64 a3),(.bool a4),(.ints false .i64 a5)])] z117.dec=z122.F a0 a1 a2 a3 a4 a5:=by kernel_rfl
def z123.C:Ctx where
 T:=tab
 call:=λg args=>match g with|125=>z117.pack args|126=>z118.pack args|127=>z119.pack args|128=>z121.pack args|129=>z122.pack args|_=>none
def z123.dec:V->Option (J0×Bool×J0×Int)
 |(.tup [(.agg [(.ints _ .i64 x0),(.bool x1),(.ints _ .i64 x2)]),(.int .i64 x3)])=>some (x0,x1,x2,x3)
 |_=>none
theorem z123.link (a0:J1):z123.C.evTop 39 (ifun Tryz.f39) [(.str a0)] z123.dec=z123.F a0:=by kernel_rfl
def z131.l2sh:Env×Store:=(.undef::(.ptr 0 0)::(.str ([]:J1))::(.sref 1 0)::(.ptr 2 0) :: .undef :: .undef::(.int .u64 0)::un 19 ((.ints false .u64 [])::(.int .i64 0)::(.int .i64 0)::un 27 []),[(.cells 37 [(.ints false .u64 [])]),(.arr 0 true 9 (.strs false [])),(.cells 37 [(.ints false .u64 [])]),.dead])
def z131.l2out0 (a:J1) (b:Int) (c:J0) (d e:Int) (g:J0) (h:List J1) (j:J0) (o:Int×Int):X×Env×Store:=((.exit 2),Qb z131.l2sh [.s a,.i o.1,.li c,.i d,.i o.2,.li g,.ls h,.li j])
def z131.l2pack:List Leaf->Option LPack
 |[.s a,.i b,.li c,.i d,.i e,.li g,.ls h,.li j]=>some (.one _ (z131.l2 c d (b,e)) (z131.l2out0 a b c d e g h j))
 |_=>none
def z131.l0sh:Env×Store:=(.undef::(.ptr 0 0)::(.str ([]:J1))::(.sref 1 0)::un 53 [],[(.cells 37 [(.ints false .u64 [])]),(.arr 0 true 9 (.strs false []))])
def z131.l0out0 (a:J1) (b:J0) (c:List J1) (o:J0×(List J1)):X×Env×Store:=((.exit 0),Qb z131.l0sh [.s a,.li o.1,.ls o.2])
def z131.l0pack:List Leaf->Option LPack
 |[.s a,.li b,.ls c]=>some (.one _ (z131.l0 (b,c)) (z131.l0out0 a b c))
 |_=>none
def z131.l4sh:Env×Store:=(.undef :: .undef::(.str ([]:J1))::(.sref 1 0)::un 7 ((.ptr 2 0)::(.int .i64 0)::un 44 []),[.dead,(.arr 0 true 9 (.strs false [])),(.cells 274 [(.ptr 2 0),(.sref 3 0)]),(.arr 0 true 5 (.ints false .u8 []))])
def z131.l4out0 (a:J1) (b:Int) (c:List J1) (d:J0) (o:Int×J0):X×Env×Store:=((.exit 4),Qb z131.l4sh [.s a,.i o.1,.ls c,.li o.2])
def z131.l4pack:List Leaf->Option LPack
 |[.s a,.i b,.ls c,.li d]=>some (.one _ (z131.l4 c (b,d)) (z131.l4out0 a b c d))
 |_=>none
def z131.C:Ctx where
 T:=tab
 draws:=λf i=>match f,i with|101,5=>([(20,[(1,0)],0),(21,[],0),(22,[(20,2)],2),(23,[(19,1),(21,3)],7),(19,[(22,4)],15),(24,[(18,5)],31),(25,[(18,5)],31),(26,[(18,5)],31),(5,[],0),(6,[],0),(0,[(4,9),(23,6)],831),(0,[(5,10),(24,7)],1919),(7,[(25,8)],4095)],66846832)|191,1=>([(4,[(0,0)],0),(5,[(3,1)],1),(6,[(4,2)],3),(7,[(5,3)],7),(8,[(6,4)],15),(9,[(0,0)],0),(10,[(8,6)],32),(11,[(9,7)],96),(12,[(10,8)],224),(13,[(11,9)],480),(14,[(7,5),(12,10)],1023),(3,[(13,11)],2047)],16380)|_,_=>([],0)
 call:=λg args=>match g with|104=>z19.pack args|158=>z38.pack args|162=>z68.pack args|188=>z60.pack args|189=>z130.pack args|_=>none
 inl:=λg=>match g with|191=>some (ifun Tryz.f191)|190=>some (ifun Tryz.f190)|_=>none
 rank:=λg=>match g with|190=>1|_=>0
 prim:=λg=>match g with|246=>some (copyP 274)|_=>none
 keep:=λf i=>match f,i with|101,2=>([1,2,3,4,7,27,28,29],[0,1,2],[])|101,0=>([1,2,3],[0,1],[])|101,4=>([2,3,11,12],[1,2,3],[])|_,_=>([],[],[])
 keepE:=λf i=>match f,i with|101,2=>([1,2,3,4,7,27,28,29],[0,1,2],[])|101,0=>([1,2,3],[0,1],[])|101,4=>([2,3,11,12],[1,2,3],[])|_,_=>([],[],[])
 keepR:=λf i=>match f,i with|101,2=>([2],[0,1,2],[2])|101,0=>([2],[0,1],[2])|101,4=>([2],[1,2,3],[2])|_,_=>([],[],[])
 unroll:=λf i=>match f,i with|101,4=>1|_,_=>0
 L:=λf i b st=>match f,i,b with|101,2,0=>(matchSt z131.l2sh st).bind z131.l2pack|101,0,0=>(matchSt z131.l0sh st).bind z131.l0pack|101,4,0=>(matchSt z131.l4sh st).bind z131.l4pack|_,_,_=>none
theorem z131.l2_link (R:Type) (k:Env×Store->Option R) (d:X×Env×Store->Option R) (a:J1) (b:Int) (c:J0) (e g:Int) (h:J0) (j:List J1) (m:J0) :
  z131.C.loopP 101 2 (Qg 2 (ifun Tryz.f101).body) 4 k d (Qb z131.l2sh [.s a,.i b,.li c,.i e,.i g,.li h,.ls j,.li m]) =
  z131.l2P c e (λx'=>k (Qb z131.l2sh [.s a,.i x'.1,.li c,.i e,.i x'.2,.li h,.ls j,.li m])) (λo=>d (z131.l2out0 a b c e g h j m o)) (b,g):=by kernel_rfl
theorem z131.l0_link (R:Type) (k:Env×Store->Option R) (d:X×Env×Store->Option R) (a:J1) (b:J0) (c:List J1) :
  z131.C.loopP 101 0 (Qg 0 (ifun Tryz.f101).body) 2 k d (Qb z131.l0sh [.s a,.li b,.ls c]) =
  z131.l0P (λx'=>k (Qb z131.l0sh [.s a,.li x'.1,.ls x'.2])) (λo=>d (z131.l0out0 a b c o)) (b,c):=by kernel_rfl
theorem z131.l4_link (R:Type) (k:Env×Store->Option R) (d:X×Env×Store->Option R) (a:J1) (b:Int) (c:List J1) (e:J0) :
  z131.C.loopP 101 4 (Qg 4 (ifun Tryz.f101).body) 4 k d (Qb z131.l4sh [.s a,.i b,.ls c,.li e]) =
  z131.l4P c (λx'=>k (Qb z131.l4sh [.s a,.i x'.1,.ls c,.li x'.2])) (λo=>d (z131.l4out0 a b c e o)) (b,e):=by kernel_rfl
theorem z131.link (a0:J0):z131.C.evTop 101 (ifun Tryz.f101) [(.agg [(.ints false .u64 a0)])] z17.dec=z131.F a0:=by kernel_rfl
def z137.C:Ctx where
 T:=tab
 draws:=λf i=>match f,i with|78,1=>([(6,[(2,0)],0),(7,[(5,1)],1),(8,[(3,0)],0),(9,[(7,3)],4),(10,[(6,2),(8,4)],15),(11,[(3,0)],0),(12,[(10,6)],32),(13,[(2,0)],0),(14,[(12,8)],159),(15,[(11,7),(13,9)],511),(16,[(9,5),(14,10)],1023),(17,[(2,0)],0),(18,[(16,12)],4095),(19,[(3,0)],0),(20,[(18,14)],16383),(21,[(17,13),(19,15)],32767),(22,[(15,11),(20,16)],65535),(0,[(4,0),(21,17)],131071)],4194272)|_,_=>([],0)
 call:=λg args=>match g with|157=>z74.pack args|156=>z54.pack args|24=>z31.pack args|130=>z73.pack args|164=>z40.pack args|163=>z70.pack args|_=>none
theorem z137.link (a0:J0) (a1:Bool) (a2 a3:J0) (a4:Bool) (a5:J0):z137.C.evTop 78 (ifun Tryz.f78) [(.agg [(.ints false .u64 a0),(.bool a1),(.ints false .u64 a2)]),(.agg [(.ints false .u64 a3),(.bool a4),(.ints false .u64 a5)])] z139.dec=z137.F a0 a1 a2 a3 a4 a5:=by kernel_rfl
def z151.C:Ctx where
 T:=tab
 call:=λg args=>match g with|221=>z113.pack args|170=>z105.pack args|208=>z15.pack args|171=>z106.pack args|113=>z7.pack args|_=>none
theorem z151.link (a0:J0) (a1:Bool) (a2:J0) (a3:Int):z151.C.evTop 155 (ifun Tryz.f155) [(.agg [(.ints false .i64 a0),(.bool a1),(.ints false .i64 a2)]),(.int .i64 a3)] z9.dec=z151.F a0 a1 a2 a3:=by kernel_rfl
def z155.C:Ctx where
 T:=tab
 call:=λg args=>match g with|38=>z76.pack args|69=>z48.pack args|176=>z71.pack args|89=>z138.pack args|_=>none
theorem z155.link (a0:J1) (a1:Int):z155.C.evTop 88 (ifun Tryz.f88) [(.str a0),(.int .i64 a1)] z75.dec=z155.F a0 a1:=by kernel_rfl
def z162.C:Ctx where
 T:=tab
 call:=λg args=>match g with|36=>z46.pack args|87=>z160.pack args|236=>z161.pack args|_=>none
theorem z162.link (a0 a1:J1) (a2 a3 a4 a5 a6 a7 a8 a9:Int):z162.C.evTop 173 (ifun Tryz.f173) [(.agg [(.str a0),(.str a1),(.int .i64 a2),(.int .i64 a3),(.int .i64 a4),(.int .i64 a5),(.int .i64 a6),(.int .i64 a7),(.int .i64 a8),(.int .i64 a9)])] z46.dec=z162.F a0 a1 a2 a3 a4 a5 a6 a7 a8 a9:=by kernel_rfl
def z166.C:Ctx where
 T:=tab
theorem z166.link:z166.C.evTop 169 (ifun Tryz.f169) [] z18.dec=z166.F:=by kernel_rfl
def z169.C:Ctx where
 T:=tab
 call:=λg args=>match g with|125=>z117.pack args|39=>z123.pack args|168=>z150.pack args|_=>none
theorem z169.link (a0:J1) (a1:Int):z169.C.evTop 240 (ifun Tryz.f240) [(.str a0),(.int .i64 a1)] z123.dec=z169.F a0 a1:=by kernel_rfl
end
end Go.Proofs.YtgjncgiekniniaaGreatDoor.A
end
