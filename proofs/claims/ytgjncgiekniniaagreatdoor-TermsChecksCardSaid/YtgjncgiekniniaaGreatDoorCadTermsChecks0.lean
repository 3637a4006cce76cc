/- TermsChecks: part 0 of what is its own. -/
import Derived.Test.YtgjncgiekniniaaGreatDoorCad3
import Derived.Test.YtgjncgiekniniaaGreatDoorRows
import Derived.WalkKit
import Derived.ProofKit
import Derived.OpenShut
import Derived.Carry
import Derived.ChangeSame
import Derived.Deep.Slices
import Derived.Test.YtgjncgiekniniaaGreatDoorCards
import Derived.Test.YtgjncgiekniniaaGreatDoorTie
import Derived.KernelRfl
import Derived.JoinedCond
set_option linter.unusedVariables false
set_option linter.unusedSimpArgs false
section
namespace Go.Proofs.YtgjncgiekniniaaGreatDoor.A
open Go
noncomputable section
def z5.l2P {R:Type} (rec done:((List UInt8)×Int×Int)->Option R):((List UInt8)×Int×Int)->Option R:=λx=>match x with
 |(a,b,c)=>(bif (decide (c<4)) then (if ([(wr .u8 (wr .i64 ((48:Int)+(Int.tmod b 10))))].map λn=>UInt8.ofNat n.toNat).length+a.length<=9223372036854775807 then (rec ((([(wr .u8 (wr .i64 ((48:Int)+(Int.tmod b 10))))].map λn=>UInt8.ofNat n.toNat)++a),(wr .i64 (Int.tdiv b 10)),(wr .i64 (c+1)))) else none) else (done (a,b,c)))
def z5.l2 (x:((List UInt8)×Int×Int)):Option (((List UInt8)×Int×Int)):=lfp (λrec x=>z5.l2P rec some x) x
def z5.l0P (a:List Int) {R:Type} (rec done:((List UInt8)×Int)->Option R):((List UInt8)×Int)->Option R:=λx=>match x with
 |(b,c)=>(bif (decide (c<(((a).length:Nat):Int))) then (if 0<=c/\c<(a.length:Int) then ((z5.l2 (b,(a.getD (c).toNat 0),(0:Int))).bind λd=>(rec (d.1,(wr .i64 (c+1))))) else none) else (done (b,c)))
def z5.l0 (a:List Int) (x:((List UInt8)×Int)):Option (((List UInt8)×Int)):=lfp (λrec x=>z5.l0P a rec some x) x
def z5.l4P (a:List UInt8) {R:Type} (rec:Int->Option R) (done:(Int)->Option R):Int->Option R:=λb=>(if 0<=b/\b<(a.length:Int) then (bif (decide (((a.getD (b).toNat 0).toNat:Int)=48)) then (rec (wr .i64 (b+1))) else (done b)) else none)
def z5.l4 (a:List UInt8) (x:Int):Option ((Int)):=lfp (λrec x=>z5.l4P a rec some x) x
def z5.F (a0:List Int):Option ((List UInt8)):=
 (bif (decide ((((a0).length:Nat):Int)=0)) then (some ([48]:List UInt8)) else ((z5.l0 a0 (([]:List UInt8),(0:Int))).bind λo1=>((z5.l4 o1.1 0).bind λo2=>(if 0<=o2/\o2<=((o1.1).length:Int) then (some (o1.1.drop (o2).toNat)) else none))))
def z5.enc (r:(List UInt8)):V:=(.str r)
def z5.pack:List V->Option Pack
 |[(.ints _ .i64 a0)]=>some ⟨(List UInt8),z5.F a0,z5.enc⟩
 |_=>none
def z6.F (a0:List Int) (a1:Bool):Option ((List UInt8)):=
 ((z5.F a0).bind λr1=>(bif a1 then (if ([45]:List UInt8).length+r1.length<=9223372036854775807 then (some (([45]:List UInt8)++r1)) else none) else (some r1)))
def z6.enc (r:(List UInt8)):V:=(.str r)
def z6.pack:List V->Option Pack
 |[(.agg [(.ints _ .i64 a0),(.bool a1)])]=>some ⟨(List UInt8),z6.F a0 a1,z6.enc⟩
 |_=>none
def z7.F (a0:List Int) (a1:Bool):Option ((List Int)×Bool):=
 (bif a1 then (some (a0,(decide ((((a0).length:Nat):Int)>0)))) else (some (a0,false)))
def z7.enc (r:(List Int)×Bool):V:=(.agg [(.ints false .i64 r.1),(.bool r.2)])
def z7.pack:List V->Option Pack
 |[(.ints _ .i64 a0),(.bool a1)]=>some ⟨(List Int)×Bool,z7.F a0 a1,z7.enc⟩
 |_=>none
def z8.l0P {R:Type} (rec done:(Int×(List Int))->Option R):(Int×(List Int))->Option R:=λx=>match x with
 |(a,b)=>(bif (decide (a>0)) then (if ((b).length+([(Int.tmod a 10000)]).length)*8<=140737488355328 then (rec ((wr .i64 (Int.tdiv a 10000)),(b++[(Int.tmod a 10000)]))) else none) else (done (a,b)))
def z8.l0 (x:(Int×(List Int))):Option ((Int×(List Int))):=lfp (λrec x=>z8.l0P rec some x) x
def z8.F (a0:Int):Option ((List Int)):=
 ((z8.l0 (a0,[])).bind λo1=>(some o1.2))
def z8.enc (r:(List Int)):V:=(.ints false .i64 r)
def z8.pack:List V->Option Pack
 |[(.int .i64 a0)]=>some ⟨(List Int),z8.F a0,z8.enc⟩
 |_=>none
def z9.F (a0:Int):Option ((List Int)×Bool):=
 (bif (decide (a0<0)) then ((z8.F (wr .i64 (0-a0))).bind λr1=>((z7.F r1 true).bind λr2=>(some (r2.1,r2.2)))) else ((z8.F a0).bind λr3=>((z7.F r3 false).bind λr4=>(some (r4.1,r4.2)))))
def z9.enc (r:(List Int)×Bool):V:=(.agg [(.ints false .i64 r.1),(.bool r.2)])
def z9.pack:List V->Option Pack
 |[(.int .i64 a0)]=>some ⟨(List Int)×Bool,z9.F a0,z9.enc⟩
 |_=>none
def z10.j1 (a0:Int):Option (Bool):=
 (bif (decide ((Int.tmod a0 400)=0)) then (some true) else (bif (decide ((Int.tmod a0 4)=0)) then (some (!decide ((Int.tmod a0 100)=0))) else (some false)))
def z10.F (a0:Int):Option (Bool):=
 (bif (decide (a0<1)) then (some false) else (bif (decide (a0>9999)) then (some false) else (z10.j1 a0)))
def z10.enc (r:Bool):V:=(.bool r)
def z10.pack:List V->Option Pack
 |[(.int .i64 a0)]=>some ⟨Bool,z10.F a0,z10.enc⟩
 |_=>none
def z11.j1 (a1 a0:Int):Option (Int):=
 (bif (decide (a1=2)) then ((z10.F a0).bind λr2=>(bif r2 then (some 29) else (some 28))) else (bif (decide (a1=4)) then (some 30) else (bif (decide (a1=6)) then (some 30) else (bif (decide (a1=9)) then (some 30) else (bif (decide (a1=11)) then (some 30) else (some 31))))))
def z11.F (a0 a1:Int):Option (Int):=
 (bif (decide (a0<1)) then (some 0) else (bif (decide (a0>9999)) then (some 0) else (bif (decide (a1<1)) then (some 0) else (bif (decide (a1>12)) then (some 0) else (z11.j1 a1 a0)))))
def z11.enc (r:Int):V:=(.int .i64 r)
def z11.pack:List V->Option Pack
 |[(.int .i64 a0),(.int .i64 a1)]=>some ⟨Int,z11.F a0 a1,z11.enc⟩
 |_=>none
def z12.j7 (a0 a3 j5 j7:Int):Option (Int×Int×Int):=
 (some ((wr .i64 ((wr .i64 ((Int.tmod a0 a3)+a3))+1)),(wr .i64 (j5+1)),(wr .i64 (j7+1))))
def z12.j5 (a0 a3 j5 a2:Int):Option (Int×Int×Int):=
 ((z11.F (wr .i64 ((wr .i64 ((Int.tmod a0 a3)+a3))+1)) (wr .i64 (j5+1))).bind λr6=>(if r6=0 then none else (bif (decide ((Int.tmod a2 r6)<0)) then (z12.j7 a0 a3 j5 (wr .i64 ((Int.tmod a2 r6)+r6))) else (z12.j7 a0 a3 j5 (Int.tmod a2 r6)))))
def z12.j8 (a0 a3 j8 a2:Int):Option (Int×Int×Int):=
 ((z11.F (wr .i64 ((Int.tmod a0 a3)+1)) (wr .i64 (j8+1))).bind λr9=>(if r9=0 then none else (bif (decide ((Int.tmod a2 r9)<0)) then (some ((wr .i64 ((Int.tmod a0 a3)+1)),(wr .i64 (j8+1)),(wr .i64 ((wr .i64 ((Int.tmod a2 r9)+r9))+1)))) else (some ((wr .i64 ((Int.tmod a0 a3)+1)),(wr .i64 (j8+1)),(wr .i64 ((Int.tmod a2 r9)+1)))))))
def z12.F (a0 a1 a2 a3:Int):Option (Int×Int×Int):=
 (if a3=0 then none else (bif (decide ((Int.tmod a0 a3)<0)) then (bif (decide ((Int.tmod a1 12)<0)) then (z12.j5 a0 a3 (wr .i64 ((Int.tmod a1 12)+12)) a2) else (z12.j5 a0 a3 (Int.tmod a1 12) a2)) else (bif (decide ((Int.tmod a1 12)<0)) then (z12.j8 a0 a3 (wr .i64 ((Int.tmod a1 12)+12)) a2) else (z12.j8 a0 a3 (Int.tmod a1 12) a2))))
def z12.enc (r:Int×Int×Int):V:=(.agg [(.int .i64 r.1),(.int .i64 r.2.1),(.int .i64 r.2.2)])
def z12.pack:List V->Option Pack
 |[(.agg [(.int .i64 a0),(.int .i64 a1),(.int .i64 a2)]),(.int .i64 a3)]=>some ⟨Int×Int×Int,z12.F a0 a1 a2 a3,z12.enc⟩
 |_=>none
def z13.F (a0:List Int) (a1:Int):Option (Int):=
 (bif (decide (a1>=(((a0).length:Nat):Int))) then (some 0) else (if 0<=a1/\a1<(a0.length:Int) then (some (a0.getD (a1).toNat 0)) else none))
def z13.enc (r:Int):V:=(.int .i64 r)
def z13.pack:List V->Option Pack
 |[(.ints _ .i64 a0),(.int .i64 a1)]=>some ⟨Int,z13.F a0 a1,z13.enc⟩
 |_=>none
def z14.enc (r:(List Int)):V:=(.ints false .i64 r)
def z14.pack:List V->Option Pack
 |[(.ints _ .i64 a0)]=>some ⟨(List Int),z14.F a0,z14.enc⟩
 |_=>none
def z15.l2aaP (a b:List Int) (c:Int) {R:Type} (rec done:(Int×Int×(List Int))->Option R):(Int×Int×(List Int))->Option R:=λx=>match x with
 |(d,e,g)=>(bif (decide (e<(((b).length:Nat):Int))) then ((z13.F b e).bind λh=>(if 0<=(wr .i64 (c+e))/\(wr .i64 (c+e))<(g.length:Int) then (if ((wr .i64 (c+e))).toNat<g.length then (if 0<=c/\c<(a.length:Int) then (if 0<=(wr .i64 (c+e))/\(wr .i64 (c+e))<(g.length:Int) then (if ((wr .i64 (c+e))).toNat<g.length then (rec ((wr .i64 (Int.tdiv (wr .i64 ((wr .i64 ((g.getD ((wr .i64 (c+e))).toNat 0)+(wr .i64 ((a.getD (c).toNat 0)*h))))+d)) 10000)),(wr .i64 (e+1)),(g.set ((wr .i64 (c+e))).toNat (Int.tmod (wr .i64 ((wr .i64 ((g.getD ((wr .i64 (c+e))).toNat 0)+(wr .i64 ((a.getD (c).toNat 0)*h))))+d)) 10000)))) else none) else none) else none) else none) else none)) else (bif (decide (d>0)) then ((z13.F b e).bind λj=>(if 0<=(wr .i64 (c+e))/\(wr .i64 (c+e))<(g.length:Int) then (if ((wr .i64 (c+e))).toNat<g.length then (if 0<=c/\c<(a.length:Int) then (if 0<=(wr .i64 (c+e))/\(wr .i64 (c+e))<(g.length:Int) then (if ((wr .i64 (c+e))).toNat<g.length then (rec ((wr .i64 (Int.tdiv (wr .i64 ((wr .i64 ((g.getD ((wr .i64 (c+e))).toNat 0)+(wr .i64 ((a.getD (c).toNat 0)*j))))+d)) 10000)),(wr .i64 (e+1)),(g.set ((wr .i64 (c+e))).toNat (Int.tmod (wr .i64 ((wr .i64 ((g.getD ((wr .i64 (c+e))).toNat 0)+(wr .i64 ((a.getD (c).toNat 0)*j))))+d)) 10000)))) else none) else none) else none) else none) else none)) else (done (d,e,g))))
def z15.l2aa (a b:List Int) (c:Int) (x:(Int×Int×(List Int))):Option ((Int×Int×(List Int))):=lfp (λrec x=>z15.l2aaP a b c rec some x) x
def z15.l0P (a b:List Int) {R:Type} (rec done:(Int×(List Int))->Option R):(Int×(List Int))->Option R:=λx=>match x with
 |(c,d)=>(bif (decide (c<(((a).length:Nat):Int))) then ((z15.l2aa a b c ((0:Int),(0:Int),d)).bind λe=>(rec ((wr .i64 (c+1)),e.2.2))) else (done (c,d)))
def z15.l0 (a b:List Int) (x:(Int×(List Int))):Option ((Int×(List Int))):=lfp (λrec x=>z15.l0P a b rec some x) x
def z15.F (a0 a1:List Int):Option ((List Int)):=
 (if 0<=(wr .i64 ((wr .i64 ((((a0).length:Nat):Int)+(((a1).length:Nat):Int)))+1))/\(wr .i64 ((wr .i64 ((((a0).length:Nat):Int)+(((a1).length:Nat):Int)))+1))*8<=140737488355328 then ((z15.l0 a0 a1 ((0:Int),(List.replicate ((wr .i64 ((wr .i64 ((((a0).length:Nat):Int)+(((a1).length:Nat):Int)))+1))).toNat (0:Int)))).bind λo1=>((z14.F o1.2).bind λr2=>(some r2))) else none)
def z15.enc (r:(List Int)):V:=(.ints false .i64 r)
def z15.pack:List V->Option Pack
 |[(.ints _ .i64 a0),(.ints _ .i64 a1)]=>some ⟨(List Int),z15.F a0 a1,z15.enc⟩
 |_=>none
def z16.F (a0:List Int) (a1:Bool) (a2:List Int) (a3:Bool):Option ((List Int)×Bool):=
 ((z15.F a0 a2).bind λr1=>((z7.F r1 (!decide (a1=a3))).bind λr2=>(some (r2.1,r2.2))))
def z16.enc (r:(List Int)×Bool):V:=(.agg [(.ints false .i64 r.1),(.bool r.2)])
def z16.pack:List V->Option Pack
 |[(.agg [(.ints _ .i64 a0),(.bool a1)]),(.agg [(.ints _ .i64 a2),(.bool a3)])]=>some ⟨(List Int)×Bool,z16.F a0 a1 a2 a3,z16.enc⟩
 |_=>none
def z17.l0P (a:Int) {R:Type} (rec done:((List UInt8))->Option R):((List UInt8))->Option R:=λb=>(bif (decide ((b.length:Int)<=a)) then (if ([48]:List UInt8).length+b.length<=9223372036854775807 then (rec (([48]:List UInt8)++b)) else none) else (done b))
def z17.l0 (a:Int) (x:((List UInt8))):Option (((List UInt8))):=lfp (λrec x=>z17.l0P a rec some x) x
def z17.j3 (a1:Bool) (j3:List UInt8):Option ((List UInt8)):=
 (bif a1 then (if ([45]:List UInt8).length+j3.length<=9223372036854775807 then (some (([45]:List UInt8)++j3)) else none) else (some j3))
def z17.F (a0:List Int) (a1:Bool) (a2:Int):Option ((List UInt8)):=
 ((z5.F a0).bind λr1=>((z17.l0 a2 r1).bind λo2=>(bif (decide (a2>0)) then (if 0<=(wr .i64 ((o2.length:Int)-a2))/\(wr .i64 ((o2.length:Int)-a2))<=((o2).length:Int) then (if (o2.take ((wr .i64 ((o2.length:Int)-a2))).toNat).length+([46]:List UInt8).length<=9223372036854775807 then (if 0<=(wr .i64 ((o2.length:Int)-a2))/\(wr .i64 ((o2.length:Int)-a2))<=((o2).length:Int) then (if ((o2.take ((wr .i64 ((o2.length:Int)-a2))).toNat)++([46]:List UInt8)).length+(o2.drop ((wr .i64 ((o2.length:Int)-a2))).toNat).length<=9223372036854775807 then (z17.j3 a1 (((o2.take ((wr .i64 ((o2.length:Int)-a2))).toNat)++([46]:List UInt8))++(o2.drop ((wr .i64 ((o2.length:Int)-a2))).toNat))) else none) else none) else none) else none) else (z17.j3 a1 o2))))
def z17.enc (r:(List UInt8)):V:=(.str r)
def z17.pack:List V->Option Pack
 |[(.agg [(.ints _ .i64 a0),(.bool a1),(.int .i64 a2)])]=>some ⟨(List UInt8),z17.F a0 a1 a2,z17.enc⟩
 |_=>none
def z18.F (a0 a1 a2 a3 a4 a5 a6 a7 a8 a9 a10 a11 a12:Int):Option ((List UInt8)×(List UInt8)×Int×Int×Int×Int×Int×Int×Int×Int):=
 (if 0<=(Int.tmod (wr .i64 a8) 7)/\(Int.tmod (wr .i64 a8) 7)<([(1:Int),(1:Int),(2:Int),(3:Int),(4:Int),(6:Int),(12:Int)].length:Int) then (if a12=0 then none else ((z12.F a9 a10 a11 9000).bind λr1=>((z9.F (wr .i64 ((wr .i64 (Int.fdiv a0 (2^(min 2 (64:Nat)))))+1))).bind λr2=>(bif (decide (a1>60000)) then ((z9.F 100000000000).bind λr3=>((z9.F (wr .i64 ((wr .i64 (Int.fdiv a0 (2^(min 4 (64:Nat)))))+1))).bind λr4=>((z16.F r4.1 r4.2 r3.1 r3.2).bind λr5=>((z6.F r5.1 r5.2).bind λr6=>((z9.F (Int.tmod (wr .i64 a2) 100000)).bind λr7=>((z17.F r7.1 r7.2 (wr .i64 ((Int.tmod (wr .i64 a3) 7)+2))).bind λr8=>(some (r6,r8,(Int.tmod (wr .i64 a4) 3),(Int.tmod (wr .i64 a5) 3),(Int.tmod (wr .i64 a6) 5),r1.1,r1.2.1,r1.2.2,([(1:Int),(1:Int),(2:Int),(3:Int),(4:Int),(6:Int),(12:Int)].getD ((Int.tmod (wr .i64 a8) 7)).toNat 0),(wr .i64 ((1:Int)+(Int.tmod (wr .i64 a7) a12))))))))))) else ((z6.F r2.1 r2.2).bind λr9=>((z9.F (Int.tmod (wr .i64 a2) 100000)).bind λr10=>((z17.F r10.1 r10.2 (wr .i64 ((Int.tmod (wr .i64 a3) 7)+2))).bind λr11=>(some (r9,r11,(Int.tmod (wr .i64 a4) 3),(Int.tmod (wr .i64 a5) 3),(Int.tmod (wr .i64 a6) 5),r1.1,r1.2.1,r1.2.2,([(1:Int),(1:Int),(2:Int),(3:Int),(4:Int),(6:Int),(12:Int)].getD ((Int.tmod (wr .i64 a8) 7)).toNat 0),(wr .i64 ((1:Int)+(Int.tmod (wr .i64 a7) a12)))))))))))) else none)
def z18.enc (r:(List UInt8)×(List UInt8)×Int×Int×Int×Int×Int×Int×Int×Int):V:=(.agg [(.str r.1),(.str r.2.1),(.int .i64 r.2.2.1),(.int .i64 r.2.2.2.1),(.int .i64 r.2.2.2.2.1),(.int .i64 r.2.2.2.2.2.1),(.int .i64 r.2.2.2.2.2.2.1),(.int .i64 r.2.2.2.2.2.2.2.1),(.int .i64 r.2.2.2.2.2.2.2.2.1),(.int .i64 r.2.2.2.2.2.2.2.2.2)])
def z18.pack:List V->Option Pack
 |[(.agg [(.int .u64 a0),(.int .u16 a1),(.int .u32 a2),(.int .u8 a3),(.int .u8 a4),(.int .u8 a5),(.int .u8 a6),(.int .u8 a7),(.int .u8 a8),(.int .i64 a9),(.int .i64 a10),(.int .i64 a11)]),(.int .i64 a12)]=>some ⟨(List UInt8)×(List UInt8)×Int×Int×Int×Int×Int×Int×Int×Int,z18.F a0 a1 a2 a3 a4 a5 a6 a7 a8 a9 a10 a11 a12,z18.enc⟩
 |_=>none
def z77.F:Option ((List (List UInt8))):=
 (some [([97,110,110,117,105,116,121]:List UInt8),([108,105,110,101,97,114]:List UInt8),([98,117,108,108,101,116]:List UInt8)])
def z77.enc (r:(List (List UInt8))):V:=(.strs false r)
def z77.pack:List V->Option Pack
 |[]=>some ⟨(List (List UInt8)),z77.F,z77.enc⟩
 |_=>none
def z78.j1 (a0:Int):Option ((List UInt8)):=
 (z77.F.bind λr2=>(if 0<=a0/\a0<(r2.length:Int) then (some (r2.getD (a0).toNat [])) else none))
def z78.F (a0:Int):Option ((List UInt8)):=
 (bif (decide (a0<0)) then (some ([]:List UInt8)) else (bif (decide (a0>=3)) then (some ([]:List UInt8)) else (z78.j1 a0)))
def z78.enc (r:(List UInt8)):V:=(.str r)
def z78.pack:List V->Option Pack
 |[(.int .i64 a0)]=>some ⟨(List UInt8),z78.F a0,z78.enc⟩
 |_=>none
def z85.F (a0 a1:List UInt8) (a2 a3 a4 a5 a6 a7 a8 a9:Int):Option (Bool):=
 ((z78.F a2).bind λr1=>(bif (decide (r1=([]:List UInt8))) then (some true) else ((z84.F a3).bind λr2=>(bif (decide (r2=([]:List UInt8))) then (some true) else ((z81.F a4).bind λr3=>(bif (decide (r3=([]:List UInt8))) then (some true) else (bif (decide (a8<1)) then (some true) else (bif (decide (a8=5)) then (some true) else (if a8=0 then none else (some (!decide ((Int.tmod 12 a8)=0))))))))))))
def z85.enc (r:Bool):V:=(.bool r)
def z85.pack:List V->Option Pack
 |[(.agg [(.str a0),(.str a1),(.int .i64 a2),(.int .i64 a3),(.int .i64 a4),(.int .i64 a5),(.int .i64 a6),(.int .i64 a7),(.int .i64 a8),(.int .i64 a9)])]=>some ⟨Bool,z85.F a0 a1 a2 a3 a4 a5 a6 a7 a8 a9,z85.enc⟩
 |_=>none
def z90.j3 (a0 a1 a3 a2:Int):Option (Int×Int×Int×Int):=
 ((z88.F (wr .i64 (Int.tdiv (wr .i64 ((wr .i64 ((wr .i64 ((wr .i64 ((12:Int)*a0))+a1))-1))+a3)) 12)) (wr .i64 ((Int.tmod (wr .i64 ((wr .i64 ((wr .i64 ((wr .i64 ((12:Int)*a0))+a1))-1))+a3)) 12)+1))).bind λr4=>(some ((wr .i64 (Int.tdiv (wr .i64 ((wr .i64 ((wr .i64 ((wr .i64 ((12:Int)*a0))+a1))-1))+a3)) 12)),(wr .i64 ((Int.tmod (wr .i64 ((wr .i64 ((wr .i64 ((wr .i64 ((12:Int)*a0))+a1))-1))+a3)) 12)+1)),(if r4<a2 then r4 else a2),(0:Int))))
def z90.j2 (a0 a1 a3 a2:Int):Option (Int×Int×Int×Int):=
 (bif (decide ((wr .i64 ((wr .i64 ((wr .i64 ((wr .i64 ((12:Int)*a0))+a1))-1))+a3))<12)) then (some ((0:Int),(0:Int),(0:Int),(11:Int))) else (bif (decide ((wr .i64 (Int.tdiv (wr .i64 ((wr .i64 ((wr .i64 ((wr .i64 ((12:Int)*a0))+a1))-1))+a3)) 12))>9999)) then (some ((0:Int),(0:Int),(0:Int),(11:Int))) else (z90.j3 a0 a1 a3 a2)))
def z90.F (a0 a1 a2 a3:Int):Option (Int×Int×Int×Int):=
 ((z89.F a0 a1 a2).bind λr1=>(bif (!decide (r1=0)) then (some ((0:Int),(0:Int),(0:Int),r1)) else (bif (decide (a3<(-119988:Int))) then (some ((0:Int),(0:Int),(0:Int),(11:Int))) else (bif (decide (a3>119988)) then (some ((0:Int),(0:Int),(0:Int),(11:Int))) else (z90.j2 a0 a1 a3 a2)))))
def z90.enc (r:Int×Int×Int×Int):V:=(.tup [(.agg [(.int .i64 r.1),(.int .i64 r.2.1),(.int .i64 r.2.2.1)]),(.int .i64 r.2.2.2)])
def z90.pack:List V->Option Pack
 |[(.agg [(.int .i64 a0),(.int .i64 a1),(.int .i64 a2)]),(.int .i64 a3)]=>some ⟨Int×Int×Int×Int,z90.F a0 a1 a2 a3,z90.enc⟩
 |_=>none
def z91.F (a0 a1:List UInt8) (a2 a3 a4 a5 a6 a7 a8 a9:Int):Option (Int):=
 ((z46.F a0).bind λr1=>(bif (!decide (r1.2.2=0)) then (some r1.2.2) else ((z20.F r1.1 r1.2.1).bind λr2=>(bif (decide (r2=0)) then (some 19) else ((z76.F a1).bind λr3=>(bif (!decide (r3.2.2.2=0)) then (some r3.2.2.2) else ((z85.F a0 a1 a2 a3 a4 a5 a6 a7 a8 a9).bind λr4=>(bif r4 then (some 2) else (bif (decide (a9<1)) then (some 6) else (bif (decide (a9>1200)) then (some 6) else ((z90.F a5 a6 a7 (wr .i64 (a8*a9))).bind λr8=>(some r8.2.2.2))))))))))))
def z91.enc (r:Int):V:=(.int .i64 r)
def z91.pack:List V->Option Pack
 |[(.agg [(.str a0),(.str a1),(.int .i64 a2),(.int .i64 a3),(.int .i64 a4),(.int .i64 a5),(.int .i64 a6),(.int .i64 a7),(.int .i64 a8),(.int .i64 a9)])]=>some ⟨Int,z91.F a0 a1 a2 a3 a4 a5 a6 a7 a8 a9,z91.enc⟩
 |_=>none
def z101.l2P (a:List UInt8) (b:Int) {R:Type} (rec done:(Int×Int)->Option R):(Int×Int)->Option R:=λx=>match x with
 |(c,d)=>(bif (decide (d<b)) then (if 0<=d/\d<(a.length:Int) then (rec ((wr .i64 ((wr .i64 ((wr .i64 ((10:Int)*c))+(wr .i64 ((a.getD (d).toNat 0).toNat:Int))))-48)),(wr .i64 (d+1)))) else none) else (done (c,d)))
def z101.l2 (a:List UInt8) (b:Int) (x:(Int×Int)):Option ((Int×Int)):=lfp (λrec x=>z101.l2P a b rec some x) x
def z101.l0P (a:List UInt8) {R:Type} (rec done:(Int×(List Int))->Option R):(Int×(List Int))->Option R:=λx=>match x with
 |(b,c)=>(bif (decide (b>0)) then ((z101.l2 a b ((0:Int),(if (wr .i64 (b-4))>0 then (wr .i64 (b-4)) else 0))).bind λd=>(if ((c).length+([d.1]).length)*8<=140737488355328 then (rec ((wr .i64 (b-4)),(c++[d.1]))) else none)) else (done (b,c)))
def z101.l0 (a:List UInt8) (x:(Int×(List Int))):Option ((Int×(List Int))):=lfp (λrec x=>z101.l0P a rec some x) x
def z101.F (a0:List UInt8):Option ((List Int)):=
 ((z101.l0 a0 ((a0.length:Int),[])).bind λo1=>((z14.F o1.2).bind λr2=>(some r2)))
def z101.enc (r:(List Int)):V:=(.ints false .i64 r)
def z101.pack:List V->Option Pack
 |[(.str a0)]=>some ⟨(List Int),z101.F a0,z101.enc⟩
 |_=>none
def z102.F (a0:List UInt8):Option ((List Int)×Bool):=
 (if (0:Int)<=(0:Int)/\(0:Int)<(a0.length:Int) then (bif (decide (((a0.getD 0 0).toNat:Int)=45)) then (if (0:Int)<=(1:Int)/\(1:Int)<=((a0).length:Int) then ((z101.F (a0.drop 1)).bind λr1=>((z7.F r1 true).bind λr2=>(some (r2.1,r2.2)))) else none) else ((z101.F a0).bind λr3=>((z7.F r3 false).bind λr4=>(some (r4.1,r4.2))))) else none)
def z102.enc (r:(List Int)×Bool):V:=(.agg [(.ints false .i64 r.1),(.bool r.2)])
def z102.pack:List V->Option Pack
 |[(.str a0)]=>some ⟨(List Int)×Bool,z102.F a0,z102.enc⟩
 |_=>none
def z103.l0b4P (a:List UInt8) {R:Type} (rec:Int->Option R) (done:((Int)⊕(Bool))->Option R):Int->Option R:=λb=>(bif (decide (b<(a.length:Int))) then (if 0<=b/\b<(a.length:Int) then (bif (decide (((a.getD (b).toNat 0).toNat:Int)<48)) then (done (.inr false)) else (if 0<=b/\b<(a.length:Int) then (bif (decide (((a.getD (b).toNat 0).toNat:Int)>57)) then (done (.inr false)) else (rec (wr .i64 (b+1)))) else none)) else none) else (done (.inl b)))
def z103.l0b4 (a:List UInt8) (x:Int):Option (((Int)⊕(Bool))):=lfp (λrec x=>z103.l0b4P a rec some x) x
def z103.F (a0:List UInt8):Option (Bool):=
 (bif (decide ((a0.length:Int)=0)) then (some false) else (bif (decide ((a0.length:Int)>1)) then (if (0:Int)<=(0:Int)/\(0:Int)<(a0.length:Int) then (bif (decide (((a0.getD 0 0).toNat:Int)=48)) then (some false) else ((z103.l0b4 a0 0).bind λo8=>match o8 with | .inl p9=>(some true) | .inr q10=>(some q10))) else none) else ((z103.l0b4 a0 0).bind λo11=>match o11 with | .inl p12=>(some true) | .inr q13=>(some q13))))
def z103.enc (r:Bool):V:=(.bool r)
def z103.pack:List V->Option Pack
 |[(.str a0)]=>some ⟨Bool,z103.F a0,z103.enc⟩
 |_=>none
def z104.j3 (j3:List UInt8) (r1:(List Int)×Bool) (a0:List UInt8):Option ((List Int)×Bool×Int):=
 (bif (decide ((j3.length:Int)>4096)) then (some (r1.1,r1.2,(7:Int))) else ((z103.F j3).bind λr4=>(bif (!r4) then (some (r1.1,r1.2,(5:Int))) else (bif (decide (j3=([48]:List UInt8))) then (bif (decide ((a0.length:Int)>1)) then (some (r1.1,r1.2,(5:Int))) else ((z102.F a0).bind λr8=>(some (r8.1,r8.2,(0:Int))))) else ((z102.F a0).bind λr9=>(some (r9.1,r9.2,(0:Int))))))))
def z104.F (a0:List UInt8):Option ((List Int)×Bool×Int):=
 ((z9.F 0).bind λr1=>(bif (decide ((a0.length:Int)>0)) then (if (0:Int)<=(0:Int)/\(0:Int)<(a0.length:Int) then (bif (decide (((a0.getD 0 0).toNat:Int)=45)) then (if (0:Int)<=(1:Int)/\(1:Int)<=((a0).length:Int) then (z104.j3 (a0.drop 1) r1 a0) else none) else (z104.j3 a0 r1 a0)) else none) else (z104.j3 a0 r1 a0)))
def z104.enc (r:(List Int)×Bool×Int):V:=(.tup [(.agg [(.ints false .i64 r.1),(.bool r.2.1)]),(.int .i64 r.2.2)])
def z104.pack:List V->Option Pack
 |[(.str a0)]=>some ⟨(List Int)×Bool×Int,z104.F a0,z104.enc⟩
 |_=>none
def z105.l0P (a:Int) {R:Type} (rec done:((List UInt8)×Int)->Option R):((List UInt8)×Int)->Option R:=λx=>match x with
 |(b,c)=>(bif (decide (c<a)) then (if b.length+([48]:List UInt8).length<=9223372036854775807 then (rec ((b++([48]:List UInt8)),(wr .i64 (c+1)))) else none) else (done (b,c)))
def z105.l0 (a:Int) (x:((List UInt8)×Int)):Option (((List UInt8)×Int)):=lfp (λrec x=>z105.l0P a rec some x) x
def z105.F (a0:Int):Option ((List Int)):=
 ((z105.l0 a0 (([49]:List UInt8),(0:Int))).bind λo1=>((z101.F o1.1).bind λr2=>(some r2)))
def z105.enc (r:(List Int)):V:=(.ints false .i64 r)
def z105.pack:List V->Option Pack
 |[(.int .i64 a0)]=>some ⟨(List Int),z105.F a0,z105.enc⟩
 |_=>none
def z106.F (a0:List Int) (a1:Bool):Option ((List Int)×Bool):=
 ((z7.F a0 (!a1)).bind λr1=>(some (r1.1,r1.2)))
def z106.enc (r:(List Int)×Bool):V:=(.agg [(.ints false .i64 r.1),(.bool r.2)])
def z106.pack:List V->Option Pack
 |[(.agg [(.ints _ .i64 a0),(.bool a1)])]=>some ⟨(List Int)×Bool,z106.F a0 a1,z106.enc⟩
 |_=>none
def z107.l0b6P (a b:List Int) {R:Type} (rec done:(Int×Int×(List Int))->Option R):(Int×Int×(List Int))->Option R:=λx=>match x with
 |(c,d,e)=>(bif (decide (d<(((a).length:Nat):Int))) then ((z13.F a d).bind λg=>((z13.F b d).bind λh=>(if ((e).length+([(Int.tmod (wr .i64 ((wr .i64 (g+h))+c)) 10000)]).length)*8<=140737488355328 then (rec ((wr .i64 (Int.tdiv (wr .i64 ((wr .i64 (g+h))+c)) 10000)),(wr .i64 (d+1)),(e++[(Int.tmod (wr .i64 ((wr .i64 (g+h))+c)) 10000)]))) else none))) else (bif (decide (d<(((b).length:Nat):Int))) then ((z13.F a d).bind λj=>((z13.F b d).bind λk=>(if ((e).length+([(Int.tmod (wr .i64 ((wr .i64 (j+k))+c)) 10000)]).length)*8<=140737488355328 then (rec ((wr .i64 (Int.tdiv (wr .i64 ((wr .i64 (j+k))+c)) 10000)),(wr .i64 (d+1)),(e++[(Int.tmod (wr .i64 ((wr .i64 (j+k))+c)) 10000)]))) else none))) else (bif (decide (c>0)) then ((z13.F a d).bind λm=>((z13.F b d).bind λn=>(if ((e).length+([(Int.tmod (wr .i64 ((wr .i64 (m+n))+c)) 10000)]).length)*8<=140737488355328 then (rec ((wr .i64 (Int.tdiv (wr .i64 ((wr .i64 (m+n))+c)) 10000)),(wr .i64 (d+1)),(e++[(Int.tmod (wr .i64 ((wr .i64 (m+n))+c)) 10000)]))) else none))) else (done (c,d,e)))))
def z107.l0b6 (a b:List Int) (x:(Int×Int×(List Int))):Option ((Int×Int×(List Int))):=lfp (λrec x=>z107.l0b6P a b rec some x) x
def z107.F (a0 a1:List Int):Option ((List Int)):=
 ((z107.l0b6 a0 a1 ((0:Int),(0:Int),[])).bind λo1=>((z14.F o1.2.2).bind λr2=>(some r2)))
def z107.enc (r:(List Int)):V:=(.ints false .i64 r)
def z107.pack:List V->Option Pack
 |[(.ints _ .i64 a0),(.ints _ .i64 a1)]=>some ⟨(List Int),z107.F a0 a1,z107.enc⟩
 |_=>none
def z108.l0P (a b:List Int) {R:Type} (rec:Int->Option R) (done:((Int)⊕(Int))->Option R):Int->Option R:=λc=>(bif (decide (c>=0)) then (if 0<=c/\c<(a.length:Int) then (if 0<=c/\c<(b.length:Int) then (bif (decide ((a.getD (c).toNat 0)<(b.getD (c).toNat 0))) then (done (.inr (-1:Int))) else (if 0<=c/\c<(a.length:Int) then (if 0<=c/\c<(b.length:Int) then (bif (decide ((a.getD (c).toNat 0)>(b.getD (c).toNat 0))) then (done (.inr 1)) else (rec (wr .i64 (c-1)))) else none) else none)) else none) else none) else (done (.inl c)))
def z108.l0 (a b:List Int) (x:Int):Option (((Int)⊕(Int))):=lfp (λrec x=>z108.l0P a b rec some x) x
def z108.F (a0 a1:List Int):Option (Int):=
 (bif (!decide ((((a0).length:Nat):Int)=(((a1).length:Nat):Int))) then (bif (decide ((((a0).length:Nat):Int)<(((a1).length:Nat):Int))) then (some (-1:Int)) else (some 1)) else ((z108.l0 a0 a1 (wr .i64 ((((a0).length:Nat):Int)-1))).bind λo1=>match o1 with | .inl p2=>(some 0) | .inr q3=>(some q3)))
def z108.enc (r:Int):V:=(.int .i64 r)
def z108.pack:List V->Option Pack
 |[(.ints _ .i64 a0),(.ints _ .i64 a1)]=>some ⟨Int,z108.F a0 a1,z108.enc⟩
 |_=>none
def z109.l0P (a b:List Int) {R:Type} (rec done:(Int×Int×(List Int))->Option R):(Int×Int×(List Int))->Option R:=λx=>match x with
 |(c,d,e)=>(bif (decide (d<(((a).length:Nat):Int))) then ((z13.F b d).bind λg=>(if 0<=d/\d<(a.length:Int) then (bif (decide ((wr .i64 ((wr .i64 ((a.getD (d).toNat 0)-g))-c))<0)) then (if ((e).length+([(wr .i64 ((wr .i64 ((wr .i64 ((a.getD (d).toNat 0)-g))-c))+10000))]).length)*8<=140737488355328 then (rec ((1:Int),(wr .i64 (d+1)),(e++[(wr .i64 ((wr .i64 ((wr .i64 ((a.getD (d).toNat 0)-g))-c))+10000))]))) else none) else (if ((e).length+([(wr .i64 ((wr .i64 ((a.getD (d).toNat 0)-g))-c))]).length)*8<=140737488355328 then (rec ((0:Int),(wr .i64 (d+1)),(e++[(wr .i64 ((wr .i64 ((a.getD (d).toNat 0)-g))-c))]))) else none)) else none)) else (done (c,d,e)))
def z109.l0 (a b:List Int) (x:(Int×Int×(List Int))):Option ((Int×Int×(List Int))):=lfp (λrec x=>z109.l0P a b rec some x) x
def z109.F (a0 a1:List Int):Option ((List Int)):=
 ((z109.l0 a0 a1 ((0:Int),(0:Int),[])).bind λo1=>((z14.F o1.2.2).bind λr2=>(some r2)))
def z109.enc (r:(List Int)):V:=(.ints false .i64 r)
def z109.pack:List V->Option Pack
 |[(.ints _ .i64 a0),(.ints _ .i64 a1)]=>some ⟨(List Int),z109.F a0 a1,z109.enc⟩
 |_=>none
def z110.F (a0:List Int) (a1:Bool) (a2:List Int) (a3:Bool):Option ((List Int)×Bool):=
 (bif (decide (a1=a3)) then ((z107.F a0 a2).bind λr1=>((z7.F r1 a1).bind λr2=>(some (r2.1,r2.2)))) else ((z108.F a0 a2).bind λr3=>(bif (decide (r3>=0)) then ((z109.F a0 a2).bind λr4=>((z7.F r4 a1).bind λr5=>(some (r5.1,r5.2)))) else ((z109.F a2 a0).bind λr6=>((z7.F r6 a3).bind λr7=>(some (r7.1,r7.2)))))))
def z110.enc (r:(List Int)×Bool):V:=(.agg [(.ints false .i64 r.1),(.bool r.2)])
def z110.pack:List V->Option Pack
 |[(.agg [(.ints _ .i64 a0),(.bool a1)]),(.agg [(.ints _ .i64 a2),(.bool a3)])]=>some ⟨(List Int)×Bool,z110.F a0 a1 a2 a3,z110.enc⟩
 |_=>none
def z111.F (a0:List Int) (a1:Bool) (a2:List Int) (a3:Bool):Option ((List Int)×Bool):=
 ((z106.F a2 a3).bind λr1=>((z110.F a0 a1 r1.1 r1.2).bind λr2=>(some (r2.1,r2.2))))
def z111.enc (r:(List Int)×Bool):V:=(.agg [(.ints false .i64 r.1),(.bool r.2)])
def z111.pack:List V->Option Pack
 |[(.agg [(.ints _ .i64 a0),(.bool a1)]),(.agg [(.ints _ .i64 a2),(.bool a3)])]=>some ⟨(List Int)×Bool,z111.F a0 a1 a2 a3,z111.enc⟩
 |_=>none
def z112.F (a0:List Int) (a1:Bool):Option (Int):=
 (bif (decide ((((a0).length:Nat):Int)=0)) then (some 0) else (bif a1 then (some (-1:Int)) else (some 1)))
def z112.enc (r:Int):V:=(.int .i64 r)
def z112.pack:List V->Option Pack
 |[(.agg [(.ints _ .i64 a0),(.bool a1)])]=>some ⟨Int,z112.F a0 a1,z112.enc⟩
 |_=>none
def z113.F (a0:List Int) (a1:Bool) (a2:List Int) (a3:Bool):Option (Int):=
 ((z111.F a0 a1 a2 a3).bind λr1=>((z112.F r1.1 r1.2).bind λr2=>(some r2)))
def z113.enc (r:Int):V:=(.int .i64 r)
def z113.pack:List V->Option Pack
 |[(.agg [(.ints _ .i64 a0),(.bool a1)]),(.agg [(.ints _ .i64 a2),(.bool a3)])]=>some ⟨Int,z113.F a0 a1 a2 a3,z113.enc⟩
 |_=>none
def z114.F (a0:List UInt8):Option ((List Int)×Bool×Int):=
 ((z9.F 0).bind λr1=>((z104.F a0).bind λr2=>(bif (!decide (r2.2.2=0)) then (some (r1.1,r1.2,r2.2.2)) else ((z105.F 30).bind λr3=>((z7.F r3 false).bind λr4=>((z113.F r2.1 r2.2.1 r4.1 r4.2).bind λr5=>(bif r2.2.1 then (some (r1.1,r1.2,(19:Int))) else (bif (decide (r5>0)) then (some (r1.1,r1.2,(19:Int))) else (some (r2.1,r2.2.1,(0:Int)))))))))))
def z114.enc (r:(List Int)×Bool×Int):V:=(.tup [(.agg [(.ints false .i64 r.1),(.bool r.2.1)]),(.int .i64 r.2.2)])
def z114.pack:List V->Option Pack
 |[(.str a0)]=>some ⟨(List Int)×Bool×Int,z114.F a0,z114.enc⟩
 |_=>none
def z115.l2P (a b:List Int) {R:Type} (rec done:(Int×Int)->Option R):(Int×Int)->Option R:=λx=>match x with
 |(c,d)=>(bif (decide (c<d)) then ((z8.F (wr .i64 (Int.tdiv (wr .i64 ((wr .i64 (c+d))+1)) 2))).bind λe=>((z15.F a e).bind λg=>((z108.F g b).bind λh=>(bif (decide (h<=0)) then (rec ((wr .i64 (Int.tdiv (wr .i64 ((wr .i64 (c+d))+1)) 2)),d)) else (rec (c,(wr .i64 ((wr .i64 (Int.tdiv (wr .i64 ((wr .i64 (c+d))+1)) 2))-1)))))))) else (done (c,d)))
def z115.l2 (a b:List Int) (x:(Int×Int)):Option ((Int×Int)):=lfp (λrec x=>z115.l2P a b rec some x) x
def z115.l0aP (a b:List Int) {R:Type} (rec done:((List Int)×Int×(List Int))->Option R):((List Int)×Int×(List Int))->Option R:=λx=>match x with
 |(c,d,e)=>(bif (decide (d>=0)) then (if 0<=d/\d<(a.length:Int) then (if (([(a.getD (d).toNat 0)]).length+(c).length)*8<=140737488355328 then ((z14.F ([(a.getD (d).toNat 0)]++c)).bind λg=>((z115.l2 b g ((0:Int),(9999:Int))).bind λh=>(if 0<=d/\d<(e.length:Int) then (if (d).toNat<e.length then ((z8.F h.1).bind λj=>((z15.F b j).bind λk=>((z109.F g k).bind λm=>(rec (m,(wr .i64 (d-1)),(e.set (d).toNat h.1)))))) else none) else none))) else none) else none) else (done (c,d,e)))
def z115.l0a (a b:List Int) (x:((List Int)×Int×(List Int))):Option (((List Int)×Int×(List Int))):=lfp (λrec x=>z115.l0aP a b rec some x) x
def z115.F (a0 a1:List Int):Option ((List Int)×(List Int)):=
 (if 0<=(((a0).length:Nat):Int)/\(((a0).length:Nat):Int)*8<=140737488355328 then ((z115.l0a a0 a1 ([],(wr .i64 ((((a0).length:Nat):Int)-1)),(List.replicate ((((a0).length:Nat):Int)).toNat (0:Int)))).bind λo1=>((z14.F o1.2.2).bind λr2=>(some (r2,o1.1)))) else none)
def z115.enc (r:(List Int)×(List Int)):V:=(.tup [(.ints false .i64 r.1),(.ints false .i64 r.2)])
def z115.pack:List V->Option Pack
 |[(.ints _ .i64 a0),(.ints _ .i64 a1)]=>some ⟨(List Int)×(List Int),z115.F a0 a1,z115.enc⟩
 |_=>none
def z116.l0P {R:Type} (rec done:((List Int)×(List Int))->Option R):((List Int)×(List Int))->Option R:=λx=>match x with
 |(a,b)=>(bif (decide ((((b).length:Nat):Int)>0)) then ((z115.F a b).bind λc=>(rec (b,c.2))) else (done (a,b)))
def z116.l0 (x:((List Int)×(List Int))):Option (((List Int)×(List Int))):=lfp (λrec x=>z116.l0P rec some x) x
def z116.F (a0 a1:List Int):Option ((List Int)):=
 ((z116.l0 (a0,a1)).bind λo1=>(some o1.1))
def z116.enc (r:(List Int)):V:=(.ints false .i64 r)
def z116.pack:List V->Option Pack
 |[(.ints _ .i64 a0),(.ints _ .i64 a1)]=>some ⟨(List Int),z116.F a0 a1,z116.enc⟩
 |_=>none
def z117.F (a0:List Int) (a1:Bool) (a2:List Int):Option ((List Int)×Bool×(List Int)):=
 ((z116.F a0 a2).bind λr1=>((z115.F a0 r1).bind λr2=>((z115.F a2 r1).bind λr3=>((z7.F r2.1 a1).bind λr4=>(some (r4.1,r4.2,r3.1))))))
def z117.enc (r:(List Int)×Bool×(List Int)):V:=(.agg [(.ints false .i64 r.1),(.bool r.2.1),(.ints false .i64 r.2.2)])
def z117.pack:List V->Option Pack
 |[(.agg [(.ints _ .i64 a0),(.bool a1)]),(.ints _ .i64 a2)]=>some ⟨(List Int)×Bool×(List Int),z117.F a0 a1 a2,z117.enc⟩
 |_=>none
def z118.F (a0:List Int) (a1:Bool) (a2:List Int) (a3:Bool):Option ((List Int)×Bool×(List Int)):=
 (bif a3 then ((z106.F a0 a1).bind λr1=>((z117.F r1.1 r1.2 a2).bind λr5=>(some (r5.1,r5.2.1,r5.2.2)))) else ((z117.F a0 a1 a2).bind λr6=>(some (r6.1,r6.2.1,r6.2.2))))
def z118.enc (r:(List Int)×Bool×(List Int)):V:=(.agg [(.ints false .i64 r.1),(.bool r.2.1),(.ints false .i64 r.2.2)])
def z118.pack:List V->Option Pack
 |[(.agg [(.ints _ .i64 a0),(.bool a1)]),(.agg [(.ints _ .i64 a2),(.bool a3)])]=>some ⟨(List Int)×Bool×(List Int),z118.F a0 a1 a2 a3,z118.enc⟩
 |_=>none
def z119.F (a0 a1:Int):Option ((List Int)×Bool×(List Int)):=
 ((z9.F a0).bind λr1=>((z9.F a1).bind λr2=>((z118.F r1.1 r1.2 r2.1 r2.2).bind λr3=>(some (r3.1,r3.2.1,r3.2.2)))))
def z119.enc (r:(List Int)×Bool×(List Int)):V:=(.agg [(.ints false .i64 r.1),(.bool r.2.1),(.ints false .i64 r.2.2)])
def z119.pack:List V->Option Pack
 |[(.int .i64 a0),(.int .i64 a1)]=>some ⟨(List Int)×Bool×(List Int),z119.F a0 a1,z119.enc⟩
 |_=>none
def z120.j11016a {R:Type} (rec:(Int×(List UInt8)×Int×Int×Bool)->Option R) (done:((Int×(List UInt8)×Int×Int×Bool)⊕(Int))->Option R) (a:Bool) (b:Int) (c d:List UInt8) (e g:Int):Option R:=
 (bif a then (if 0<=b/\b<(c.length:Int) then (if 0<=b/\b<=(wr .i64 (b+1))/\(wr .i64 (b+1))<=((c).length:Int) then (if d.length+((c.drop (b).toNat).take (((wr .i64 (b+1))).toNat-(b).toNat)).length<=9223372036854775807 then (rec ((wr .i64 (b+1)),(d++((c.drop (b).toNat).take (((wr .i64 (b+1))).toNat-(b).toNat))),e,g,(decide (((c.getD (b).toNat 0).toNat:Int)=48)))) else none) else none) else none) else (if 0<=b/\b<=(wr .i64 (b+1))/\(wr .i64 (b+1))<=((c).length:Int) then (if d.length+((c.drop (b).toNat).take (((wr .i64 (b+1))).toNat-(b).toNat)).length<=9223372036854775807 then (rec ((wr .i64 (b+1)),(d++((c.drop (b).toNat).take (((wr .i64 (b+1))).toNat-(b).toNat))),e,g,false)) else none) else none))
def z120.j11018a {R:Type} (rec:(Int×(List UInt8)×Int×Int×Bool)->Option R) (done:((Int×(List UInt8)×Int×Int×Bool)⊕(Int))->Option R) (a:Bool) (b:Int) (c d:List UInt8) (e g:Int):Option R:=
 (bif a then (if 0<=b/\b<(c.length:Int) then (if 0<=b/\b<=(wr .i64 (b+1))/\(wr .i64 (b+1))<=((c).length:Int) then (if d.length+((c.drop (b).toNat).take (((wr .i64 (b+1))).toNat-(b).toNat)).length<=9223372036854775807 then (rec ((wr .i64 (b+1)),(d++((c.drop (b).toNat).take (((wr .i64 (b+1))).toNat-(b).toNat))),e,g,(decide (((c.getD (b).toNat 0).toNat:Int)=48)))) else none) else none) else none) else (if 0<=b/\b<=(wr .i64 (b+1))/\(wr .i64 (b+1))<=((c).length:Int) then (if d.length+((c.drop (b).toNat).take (((wr .i64 (b+1))).toNat-(b).toNat)).length<=9223372036854775807 then (rec ((wr .i64 (b+1)),(d++((c.drop (b).toNat).take (((wr .i64 (b+1))).toNat-(b).toNat))),e,g,false)) else none) else none))
def z120.l0b10P (a:List UInt8) {R:Type} (rec:(Int×(List UInt8)×Int×Int×Bool)->Option R) (done:((Int×(List UInt8)×Int×Int×Bool)⊕(Int))->Option R):(Int×(List UInt8)×Int×Int×Bool)->Option R:=λx=>match x with
 |(b,c,d,e,g)=>(bif (decide (b<(a.length:Int))) then (if 0<=b/\b<(a.length:Int) then (bif (decide (((a.getD (b).toNat 0).toNat:Int)=46)) then (bif (decide (e<0)) then (rec ((wr .i64 (b+1)),c,d,(0:Int),g)) else (if 0<=b/\b<(a.length:Int) then (bif (decide (((a.getD (b).toNat 0).toNat:Int)<48)) then (done (.inr 5)) else (if 0<=b/\b<(a.length:Int) then (bif (decide (((a.getD (b).toNat 0).toNat:Int)>57)) then (done (.inr 5)) else (bif (decide (e<0)) then (z120.j11016a rec done g b a c (wr .i64 (d+1)) e) else (z120.j11016a rec done g b a c d (wr .i64 (e+1))))) else none)) else none)) else (if 0<=b/\b<(a.length:Int) then (bif (decide (((a.getD (b).toNat 0).toNat:Int)<48)) then (done (.inr 5)) else (if 0<=b/\b<(a.length:Int) then (bif (decide (((a.getD (b).toNat 0).toNat:Int)>57)) then (done (.inr 5)) else (bif (decide (e<0)) then (z120.j11018a rec done g b a c (wr .i64 (d+1)) e) else (z120.j11018a rec done g b a c d (wr .i64 (e+1))))) else none)) else none)) else none) else (done (.inl (b,c,d,e,g))))
def z120.l0b10 (a:List UInt8) (x:(Int×(List UInt8)×Int×Int×Bool)):Option (((Int×(List UInt8)×Int×Int×Bool)⊕(Int))):=lfp (λrec x=>z120.l0b10P a rec some x) x
def z120.j7 (p5:Int×(List UInt8)×Int×Int×Bool) (j2:Bool):Option ((List Int)×Bool×Int×Int):=
 (bif (decide (p5.2.2.2.1>64)) then (some ([],false,(0:Int),(10:Int))) else ((z101.F p5.2.1).bind λr8=>((z7.F r8 j2).bind λr9=>(some (r9.1,r9.2,(if 0>p5.2.2.2.1 then 0 else p5.2.2.2.1),(0:Int))))))
def z120.j3 (a0:List UInt8) (j3:Int) (j2:Bool):Option ((List Int)×Bool×Int×Int):=
 ((z120.l0b10 a0 (j3,([]:List UInt8),(0:Int),(-1:Int),true)).bind λo4=>match o4 with | .inl p5=>(bif (decide (p5.2.2.1=0)) then (some ([],false,(0:Int),(5:Int))) else (bif (decide (p5.2.2.2.1=0)) then (some ([],false,(0:Int),(5:Int))) else (bif (decide (p5.2.2.1>1)) then (if (0:Int)<=(0:Int)/\(0:Int)<(p5.2.1.length:Int) then (bif (decide (((p5.2.1.getD 0 0).toNat:Int)=48)) then (some ([],false,(0:Int),(5:Int))) else (bif j2 then (bif p5.2.2.2.2 then (some ([],false,(0:Int),(5:Int))) else (z120.j7 p5 j2)) else (z120.j7 p5 j2))) else none) else (bif j2 then (bif p5.2.2.2.2 then (some ([],false,(0:Int),(5:Int))) else (z120.j7 p5 j2)) else (z120.j7 p5 j2))))) | .inr q6=>(some ([],false,(0:Int),q6)))
def z120.F (a0:List UInt8):Option ((List Int)×Bool×Int×Int):=
 (bif (decide ((a0.length:Int)>0)) then (if (0:Int)<=(0:Int)/\(0:Int)<(a0.length:Int) then (bif (decide (((a0.getD 0 0).toNat:Int)=45)) then (z120.j3 a0 1 true) else (z120.j3 a0 0 false)) else none) else (z120.j3 a0 0 false))
def z120.enc (r:(List Int)×Bool×Int×Int):V:=(.tup [(.agg [(.ints false .i64 r.1),(.bool r.2.1),(.int .i64 r.2.2.1)]),(.int .i64 r.2.2.2)])
def z120.pack:List V->Option Pack
 |[(.str a0)]=>some ⟨(List Int)×Bool×Int×Int,z120.F a0,z120.enc⟩
 |_=>none
def z121.F (a0:List Int) (a1:Bool) (a2:Int):Option ((List Int)×Bool×(List Int)):=
 ((z105.F a2).bind λr1=>((z117.F a0 a1 r1).bind λr2=>(some (r2.1,r2.2.1,r2.2.2))))
def z121.enc (r:(List Int)×Bool×(List Int)):V:=(.agg [(.ints false .i64 r.1),(.bool r.2.1),(.ints false .i64 r.2.2)])
def z121.pack:List V->Option Pack
 |[(.agg [(.ints _ .i64 a0),(.bool a1),(.int .i64 a2)])]=>some ⟨(List Int)×Bool×(List Int),z121.F a0 a1 a2,z121.enc⟩
 |_=>none
def z122.F (a0:List Int) (a1:Bool) (a2 a3:List Int) (a4:Bool) (a5:List Int):Option ((List Int)×Bool):=
 ((z7.F a5 false).bind λr1=>((z16.F a0 a1 r1.1 r1.2).bind λr2=>(some (r2.1,r2.2))))
def z122.enc (r:(List Int)×Bool):V:=(.agg [(.ints false .i64 r.1),(.bool r.2)])
def z122.pack:List V->Option Pack
 |[(.agg [(.ints _ .i64 a0),(.bool a1),(.ints _ .i64 a2)]),(.agg [(.ints _ .i64 a3),(.bool a4),(.ints _ .i64 a5)])]=>some ⟨(List Int)×Bool,z122.F a0 a1 a2 a3 a4 a5,z122.enc⟩
 |_=>none
def z123.F (a0:List Int) (a1:Bool) (a2 a3:List Int) (a4:Bool) (a5:List Int):Option (Int):=
 ((z122.F a0 a1 a2 a3 a4 a5).bind λr1=>((z122.F a3 a4 a5 a0 a1 a2).bind λr2=>((z113.F r1.1 r1.2 r2.1 r2.2).bind λr3=>(some r3))))
def z123.enc (r:Int):V:=(.int .i64 r)
def z123.pack:List V->Option Pack
 |[(.agg [(.ints _ .i64 a0),(.bool a1),(.ints _ .i64 a2)]),(.agg [(.ints _ .i64 a3),(.bool a4),(.ints _ .i64 a5)])]=>some ⟨Int,z123.F a0 a1 a2 a3 a4 a5,z123.enc⟩
 |_=>none
def z124.F (a0:List Int) (a1:Bool) (a2 a3:List Int) (a4:Bool) (a5:List Int):Option ((List Int)×Bool×(List Int)):=
 ((z122.F a0 a1 a2 a3 a4 a5).bind λr1=>((z7.F a2 false).bind λr2=>((z16.F a3 a4 r2.1 r2.2).bind λr3=>((z118.F r1.1 r1.2 r3.1 r3.2).bind λr4=>(some (r4.1,r4.2.1,r4.2.2))))))
def z124.enc (r:(List Int)×Bool×(List Int)):V:=(.agg [(.ints false .i64 r.1),(.bool r.2.1),(.ints false .i64 r.2.2)])
def z124.pack:List V->Option Pack
 |[(.agg [(.ints _ .i64 a0),(.bool a1),(.ints _ .i64 a2)]),(.agg [(.ints _ .i64 a3),(.bool a4),(.ints _ .i64 a5)])]=>some ⟨(List Int)×Bool×(List Int),z124.F a0 a1 a2 a3 a4 a5,z124.enc⟩
 |_=>none
def z125.j6 (r3:(List Int)×Bool×(List Int)):Option ((List Int)×Bool×(List Int)×Int):=
 ((z119.F 100 1).bind λr7=>((z124.F r3.1 r3.2.1 r3.2.2 r7.1 r7.2.1 r7.2.2).bind λr8=>(some (r8.1,r8.2.1,r8.2.2,(0:Int)))))
def z125.F (a0:List UInt8):Option ((List Int)×Bool×(List Int)×Int):=
 ((z119.F 0 1).bind λr1=>(bif (decide ((a0.length:Int)>4096)) then (some (r1.1,r1.2.1,r1.2.2,(7:Int))) else ((z120.F a0).bind λr2=>(bif (!decide (r2.2.2.2=0)) then (some (r1.1,r1.2.1,r1.2.2,r2.2.2.2)) else ((z121.F r2.1 r2.2.1 r2.2.2.1).bind λr3=>((z119.F 1000 1).bind λr4=>((z123.F r3.1 r3.2.1 r3.2.2 r4.1 r4.2.1 r4.2.2).bind λr5=>(bif r2.2.1 then (some (r1.1,r1.2.1,r1.2.2,(18:Int))) else (bif (decide (r5>0)) then (some (r1.1,r1.2.1,r1.2.2,(18:Int))) else (bif (decide (r2.2.2.1>12)) then (some (r1.1,r1.2.1,r1.2.2,(18:Int))) else (z125.j6 r3)))))))))))
def z125.enc (r:(List Int)×Bool×(List Int)×Int):V:=(.tup [(.agg [(.ints false .i64 r.1),(.bool r.2.1),(.ints false .i64 r.2.2.1)]),(.int .i64 r.2.2.2)])
def z125.pack:List V->Option Pack
 |[(.str a0)]=>some ⟨(List Int)×Bool×(List Int)×Int,z125.F a0,z125.enc⟩
 |_=>none
def z126.F (a0 a1 a2:Int):Option (Bool):=
 ((z11.F a0 a1).bind λr1=>(bif (decide (a2>=1)) then (some (decide (a2<=r1))) else (some false)))
def z126.enc (r:Bool):V:=(.bool r)
def z126.pack:List V->Option Pack
 |[(.agg [(.int .i64 a0),(.int .i64 a1),(.int .i64 a2)])]=>some ⟨Bool,z126.F a0 a1 a2,z126.enc⟩
 |_=>none
def z127.l0P {R:Type} (rec done:(Int×Int)->Option R):(Int×Int)->Option R:=λx=>match x with
 |(a,b)=>(bif (decide (b>12)) then (rec ((wr .i64 (a+1)),(wr .i64 (b-12)))) else (done (a,b)))
def z127.l0 (x:(Int×Int)):Option ((Int×Int)):=lfp (λrec x=>z127.l0P rec some x) x
def z127.l2P {R:Type} (rec done:(Int×Int)->Option R):(Int×Int)->Option R:=λx=>match x with
 |(a,b)=>(bif (decide (b<1)) then (rec ((wr .i64 (a-1)),(wr .i64 (b+12)))) else (done (a,b)))
def z127.l2 (x:(Int×Int)):Option ((Int×Int)):=lfp (λrec x=>z127.l2P rec some x) x
def z127.j1 (a0 a1 a3 a2:Int):Option (Int×Int×Int×Bool):=
 ((z127.l0 (a0,(wr .i64 (a1+a3)))).bind λo2=>((z127.l2 (o2.1,o2.2)).bind λo3=>(bif (decide (o3.1<1)) then (some ((0:Int),(0:Int),(0:Int),false)) else (bif (decide (o3.1>9999)) then (some ((0:Int),(0:Int),(0:Int),false)) else ((z11.F o3.1 o3.2).bind λr7=>(some (o3.1,o3.2,(if r7<a2 then r7 else a2),true)))))))
def z127.F (a0 a1 a2 a3:Int):Option (Int×Int×Int×Bool):=
 (bif (decide (a3>200000)) then (some ((0:Int),(0:Int),(0:Int),false)) else (bif (decide (a3<(-200000:Int))) then (some ((0:Int),(0:Int),(0:Int),false)) else (z127.j1 a0 a1 a3 a2)))
def z127.enc (r:Int×Int×Int×Bool):V:=(.tup [(.agg [(.int .i64 r.1),(.int .i64 r.2.1),(.int .i64 r.2.2.1)]),(.bool r.2.2.2)])
def z127.pack:List V->Option Pack
 |[(.agg [(.int .i64 a0),(.int .i64 a1),(.int .i64 a2)]),(.int .i64 a3)]=>some ⟨Int×Int×Int×Bool,z127.F a0 a1 a2 a3,z127.enc⟩
 |_=>none
def z128.j5 (a5 a6 a7 a8 a9:Int):Option (Int):=
 ((z126.F a5 a6 a7).bind λr6=>(bif (!r6) then (some 11) else ((z127.F a5 a6 a7 (wr .i64 (a8*a9))).bind λr7=>(bif (!r7.2.2.2) then (some 11) else (some 0)))))
def z128.j4 (a9 a5 a6 a7 a8:Int):Option (Int):=
 (bif (decide (a9<1)) then (some 6) else (bif (decide (a9>1200)) then (some 6) else (z128.j5 a5 a6 a7 a8 a9)))
def z128.j3 (a2 a3 a4:Int) (j3:Bool) (a9 a5 a6 a7 a8:Int):Option (Int):=
 (bif (decide (a2<0)) then (some 2) else (bif (decide (a2>2)) then (some 2) else (bif (decide (a3<0)) then (some 2) else (bif (decide (a3>2)) then (some 2) else (bif (decide (a4<0)) then (some 2) else (bif (decide (a4>4)) then (some 2) else (bif (!j3) then (some 2) else (z128.j4 a9 a5 a6 a7 a8))))))))
def z128.F (a0 a1:List UInt8) (a2 a3 a4 a5 a6 a7 a8 a9:Int):Option (Int):=
 ((z114.F a0).bind λr1=>(bif (!decide (r1.2.2=0)) then (some r1.2.2) else (bif (decide ((((r1.1).length:Nat):Int)=0)) then (some 19) else ((z125.F a1).bind λr2=>(bif (!decide (r2.2.2.2=0)) then (some r2.2.2.2) else (bif (decide (a8=1)) then (z128.j3 a2 a3 a4 true a9 a5 a6 a7 a8) else (bif (decide (a8=2)) then (z128.j3 a2 a3 a4 true a9 a5 a6 a7 a8) else (bif (decide (a8=3)) then (z128.j3 a2 a3 a4 true a9 a5 a6 a7 a8) else (bif (decide (a8=4)) then (z128.j3 a2 a3 a4 true a9 a5 a6 a7 a8) else (bif (decide (a8=6)) then (z128.j3 a2 a3 a4 true a9 a5 a6 a7 a8) else (z128.j3 a2 a3 a4 (decide (a8=12)) a9 a5 a6 a7 a8)))))))))))
def z128.enc (r:Int):V:=(.int .i64 r)
def z128.pack:List V->Option Pack
 |[(.agg [(.str a0),(.str a1),(.int .i64 a2),(.int .i64 a3),(.int .i64 a4),(.int .i64 a5),(.int .i64 a6),(.int .i64 a7),(.int .i64 a8),(.int .i64 a9)])]=>some ⟨Int,z128.F a0 a1 a2 a3 a4 a5 a6 a7 a8 a9,z128.enc⟩
 |_=>none
def z136.F (a0:List Int) (a1:Bool) (a2:List Int):Option ((List UInt8)):=
 ((z19.F a2).bind λr1=>(bif r1 then ((z135.F a0 a1).bind λr2=>(some r2)) else ((z135.F a0 a1).bind λr3=>(if r3.length+([47]:List UInt8).length<=9223372036854775807 then ((z73.F a0 a1 a2).bind λr4=>((z134.F r4).bind λr5=>(if (r3++([47]:List UInt8)).length+r5.length<=9223372036854775807 then (some ((r3++([47]:List UInt8))++r5)) else none))) else none))))
def z136.enc (r:(List UInt8)):V:=(.str r)
def z136.pack:List V->Option Pack
 |[(.agg [(.ints _ .u64 a0),(.bool a1),(.ints _ .u64 a2)])]=>some ⟨(List UInt8),z136.F a0 a1 a2,z136.enc⟩
 |_=>none
def z137.l0P (a:List (List UInt8)) (b:List UInt8) (c:Int) {R:Type} (rec:Int->Option R) (done:((Int)⊕(Int))->Option R):Int->Option R:=λd=>(bif (decide (d<c)) then (if 0<=d/\d<(a.length:Int) then (bif (decide (b=(a.getD (d).toNat []))) then (done (.inr d)) else (rec (wr .i64 (d+1)))) else none) else (done (.inl d)))
def z137.l0 (a:List (List UInt8)) (b:List UInt8) (c x:Int):Option (((Int)⊕(Int))):=lfp (λrec x=>z137.l0P a b c rec some x) x
def z137.F (a0:List (List UInt8)) (a1:List UInt8):Option (Int):=
 ((z137.l0 a0 a1 (((a0).length:Nat):Int) 0).bind λo1=>match o1 with | .inl p2=>(some (-1:Int)) | .inr q3=>(some q3))
def z137.enc (r:Int):V:=(.int .i64 r)
def z137.pack:List V->Option Pack
 |[(.strs _ a0),(.str a1)]=>some ⟨Int,z137.F a0 a1,z137.enc⟩
 |_=>none
def z138.F (a0:List UInt8):Option (Int×Bool):=
 (z77.F.bind λr1=>((z137.F r1 a0).bind λr2=>(some ((if 0>r2 then 0 else r2),(decide (r2>=0))))))
def z138.enc (r:Int×Bool):V:=(.tup [(.int .i64 r.1),(.bool r.2)])
def z138.pack:List V->Option Pack
 |[(.str a0)]=>some ⟨Int×Bool,z138.F a0,z138.enc⟩
 |_=>none
def z139.F:Option (Bool):=
 ((z76.F ([52,46,50,53]:List UInt8)).bind λr1=>((z76.F ([49,48,48,48,46,49]:List UInt8)).bind λr2=>((z46.F ([45,49]:List UInt8)).bind λr3=>((z138.F ([108,105,110,101,97,114]:List UInt8)).bind λr4=>(bif (decide (r1.2.2.2=0)) then ((z136.F r1.1 r1.2.1 r1.2.2.1).bind λr5=>(bif (decide (r5=([49,55,47,52,48,48]:List UInt8))) then (bif (decide (r2.2.2.2=18)) then (bif (decide (r3.2.2=19)) then (bif (decide (r4.1=1)) then (bif r4.2 then ((z91.F ([49,48,48]:List UInt8) ([53]:List UInt8) 0 0 0 2024 1 1 1 12).bind λr6=>(bif (decide (r6=0)) then ((z91.F ([]:List UInt8) ([]:List UInt8) 0 0 0 0 0 0 0 0).bind λr7=>(some (decide (r7=5)))) else (some false))) else (some false)) else (some false)) else (some false)) else (some false)) else (some false))) else (some false))))))
def z139.enc (r:Bool):V:=(.bool r)
def z139.pack:List V->Option Pack
 |[]=>some ⟨Bool,z139.F,z139.enc⟩
 |_=>none
def z141.j10 (r1:(List UInt8)×(List UInt8)×Int×Int×Int×Int×Int×Int×Int×Int) (a0 a1:List UInt8) (a2 a3 a4 a5 a6 a7 a8 a9:Int) (j2 j3:List UInt8) (j4 j5 j6 j7 j8 j9 j10:Int):Option (Bool):=
 (z139.F.bind λr11=>(bif r11 then ((z91.F r1.1 r1.2.1 r1.2.2.1 r1.2.2.2.1 r1.2.2.2.2.1 r1.2.2.2.2.2.1 r1.2.2.2.2.2.2.1 r1.2.2.2.2.2.2.2.1 r1.2.2.2.2.2.2.2.2.1 r1.2.2.2.2.2.2.2.2.2).bind λr12=>(bif (decide (r12=0)) then ((z91.F (a0.take ((if 100<(a0.length:Int) then 100 else (a0.length:Int))).toNat) (a1.take ((if 100<(a1.length:Int) then 100 else (a1.length:Int))).toNat) a2 a3 a4 a5 a6 a7 a8 a9).bind λr13=>((z128.F (a0.take ((if 100<(a0.length:Int) then 100 else (a0.length:Int))).toNat) (a1.take ((if 100<(a1.length:Int) then 100 else (a1.length:Int))).toNat) a2 a3 a4 a5 a6 a7 a8 a9).bind λr14=>(bif (decide (r13=r14)) then ((z91.F j2 j3 j4 j5 j6 j7 r1.2.2.2.2.2.2.1 j8 j9 j10).bind λr15=>((z128.F j2 j3 j4 j5 j6 j7 r1.2.2.2.2.2.2.1 j8 j9 j10).bind λr16=>(some (decide (r15=r16))))) else (some false)))) else (some false))) else (some false)))
def z141.F (a0 a1:List UInt8) (a2 a3 a4 a5 a6 a7 a8 a9 a10 a11 a12 a13 a14 a15 a16 a17 a18 a19 a20 a21 a22 a23:Int):Option (Bool):=
 (if 0<=(if 100<(a0.length:Int) then 100 else (a0.length:Int))/\(if 100<(a0.length:Int) then 100 else (a0.length:Int))<=((a0).length:Int) then (if 0<=(if 100<(a1.length:Int) then 100 else (a1.length:Int))/\(if 100<(a1.length:Int) then 100 else (a1.length:Int))<=((a1).length:Int) then ((z18.F a10 a11 a12 a13 a14 a15 a16 a17 a18 a19 a20 a21 40).bind λr1=>(bif (decide ((Int.tmod a22 9)=0)) then (z141.j10 r1 a0 a1 a2 a3 a4 a5 a6 a7 a8 a9 (a0.take ((if 100<(a0.length:Int) then 100 else (a0.length:Int))).toNat) r1.2.1 r1.2.2.1 r1.2.2.2.1 r1.2.2.2.2.1 r1.2.2.2.2.2.1 r1.2.2.2.2.2.2.2.1 r1.2.2.2.2.2.2.2.2.1 r1.2.2.2.2.2.2.2.2.2) else (bif (decide ((Int.tmod a22 9)=1)) then (z141.j10 r1 a0 a1 a2 a3 a4 a5 a6 a7 a8 a9 r1.1 (a1.take ((if 100<(a1.length:Int) then 100 else (a1.length:Int))).toNat) r1.2.2.1 r1.2.2.2.1 r1.2.2.2.2.1 r1.2.2.2.2.2.1 r1.2.2.2.2.2.2.2.1 r1.2.2.2.2.2.2.2.2.1 r1.2.2.2.2.2.2.2.2.2) else (bif (decide ((Int.tmod a22 9)=2)) then (z141.j10 r1 a0 a1 a2 a3 a4 a5 a6 a7 a8 a9 r1.1 r1.2.1 a23 r1.2.2.2.1 r1.2.2.2.2.1 r1.2.2.2.2.2.1 r1.2.2.2.2.2.2.2.1 r1.2.2.2.2.2.2.2.2.1 r1.2.2.2.2.2.2.2.2.2) else (bif (decide ((Int.tmod a22 9)=3)) then (z141.j10 r1 a0 a1 a2 a3 a4 a5 a6 a7 a8 a9 r1.1 r1.2.1 r1.2.2.1 a23 r1.2.2.2.2.1 r1.2.2.2.2.2.1 r1.2.2.2.2.2.2.2.1 r1.2.2.2.2.2.2.2.2.1 r1.2.2.2.2.2.2.2.2.2) else (bif (decide ((Int.tmod a22 9)=4)) then (z141.j10 r1 a0 a1 a2 a3 a4 a5 a6 a7 a8 a9 r1.1 r1.2.1 r1.2.2.1 r1.2.2.2.1 a23 r1.2.2.2.2.2.1 r1.2.2.2.2.2.2.2.1 r1.2.2.2.2.2.2.2.2.1 r1.2.2.2.2.2.2.2.2.2) else (bif (decide ((Int.tmod a22 9)=5)) then (z141.j10 r1 a0 a1 a2 a3 a4 a5 a6 a7 a8 a9 r1.1 r1.2.1 r1.2.2.1 r1.2.2.2.1 r1.2.2.2.2.1 r1.2.2.2.2.2.1 r1.2.2.2.2.2.2.2.1 a23 r1.2.2.2.2.2.2.2.2.2) else (bif (decide ((Int.tmod a22 9)=6)) then (z141.j10 r1 a0 a1 a2 a3 a4 a5 a6 a7 a8 a9 r1.1 r1.2.1 r1.2.2.1 r1.2.2.2.1 r1.2.2.2.2.1 r1.2.2.2.2.2.1 r1.2.2.2.2.2.2.2.1 r1.2.2.2.2.2.2.2.2.1 a23) else (bif (decide ((Int.tmod a22 9)=7)) then (z141.j10 r1 a0 a1 a2 a3 a4 a5 a6 a7 a8 a9 r1.1 r1.2.1 r1.2.2.1 r1.2.2.2.1 r1.2.2.2.2.1 r1.2.2.2.2.2.1 a23 r1.2.2.2.2.2.2.2.2.1 r1.2.2.2.2.2.2.2.2.2) else (z141.j10 r1 a0 a1 a2 a3 a4 a5 a6 a7 a8 a9 r1.1 r1.2.1 r1.2.2.1 r1.2.2.2.1 r1.2.2.2.2.1 a23 r1.2.2.2.2.2.2.2.1 r1.2.2.2.2.2.2.2.2.1 r1.2.2.2.2.2.2.2.2.2)))))))))) else none) else none)
def z141.enc (r:Bool):V:=(.bool r)
def z141.pack:List V->Option Pack
 |[(.agg [(.str a0),(.str a1),(.int .i64 a2),(.int .i64 a3),(.int .i64 a4),(.int .i64 a5),(.int .i64 a6),(.int .i64 a7),(.int .i64 a8),(.int .i64 a9),(.int .u64 a10),(.int .u16 a11),(.int .u32 a12),(.int .u8 a13),(.int .u8 a14),(.int .u8 a15),(.int .u8 a16),(.int .u8 a17),(.int .u8 a18),(.int .i64 a19),(.int .i64 a20),(.int .i64 a21),(.int .u8 a22),(.int .i64 a23)])]=>some ⟨Bool,z141.F a0 a1 a2 a3 a4 a5 a6 a7 a8 a9 a10 a11 a12 a13 a14 a15 a16 a17 a18 a19 a20 a21 a22 a23,z141.enc⟩
 |_=>none
end
end Go.Proofs.YtgjncgiekniniaaGreatDoor.A
end
section
set_option maxRecDepth 100000
namespace Go.Proofs.YtgjncgiekniniaaGreatDoor.A
open Go
noncomputable section
def z10.C:Ctx where
 T:=tab
def z10.dec:V->Option (Bool)
 |(.bool x0)=>some x0
 |_=>none
theorem z10.link (a0:Int):z10.C.evTop 219 (ifun Tryz.f219) [(.int .i64 a0)] z10.dec=z10.F a0:=by kernel_rfl
def z15.l2aash:Env×Store:=((.ints false .i64 [])::(.ints false .i64 []) :: .undef :: .undef::(.sref 0 0)::(.sref 1 0)::(.int .i64 0)::(.int .i64 0)::(.int .i64 0)::un 54 [],[(.arr 0 true 3 (.ints false .i64 [])),(.arr 0 false 3 (.ints false .i64 []))])
def z15.l2aaout0 (a b:List Int) (c d e:Int) (g h:List Int) (o:Int×Int×(List Int)):X×Env×Store:=((.exit 2),Qb z15.l2aash [.li a,.li b,.i c,.i o.1,.i o.2.1,.li g,.li o.2.2])
def z15.l2aapack:List Leaf->Option LPack
 |[.li a,.li b,.i c,.i d,.i e,.li g,.li h]=>some (.one _ (z15.l2aa a b c (d,e,h)) (z15.l2aaout0 a b c d e g h))
 |_=>none
def z15.l0sh:Env×Store:=((.ints false .i64 [])::(.ints false .i64 []) :: .undef :: .undef::(.sref 0 0)::(.sref 1 0)::(.int .i64 0)::un 56 [],[(.arr 0 true 3 (.ints false .i64 [])),(.arr 0 false 3 (.ints false .i64 []))])
def z15.l0out0 (a b:List Int) (c:Int) (d e:List Int) (o:Int×(List Int)):X×Env×Store:=((.exit 0),Qb z15.l0sh [.li a,.li b,.i o.1,.li d,.li o.2])
def z15.l0pack:List Leaf->Option LPack
 |[.li a,.li b,.i c,.li d,.li e]=>some (.one _ (z15.l0 a b (c,e)) (z15.l0out0 a b c d e))
 |_=>none
def z15.C:Ctx where
 T:=tab
 draws:=λf i=>match f,i with|208,10=>([(38,[(5,0)],0),(39,[(6,0)],0),(40,[(8,0)],0),(41,[(38,2),(39,3)],6),(42,[(37,1),(40,4)],15),(43,[(41,5)],31),(44,[(0,0)],0),(45,[(6,0)],0),(46,[(43,7),(44,8)],192),(47,[(45,9)],448),(48,[(9,0)],0),(49,[(46,10),(47,11)],1984),(50,[(42,6),(48,12)],4095),(51,[(7,0)],0),(52,[(49,13),(50,14)],16383),(11,[(51,15)],32767)],4503462188418048)|_,_=>([],0)
 call:=λg args=>match g with|234=>z13.pack args|235=>z14.pack args|_=>none
 keep:=λf i=>match f,i with|208,2=>([0,1,4,5,6,7,8],[0,1],[])|208,0=>([0,1,4,5,6,29,30],[0,1],[])|_,_=>([],[],[])
 keepE:=λf i=>match f,i with|208,2=>([0,1,4,5,6,7,8],[0,1],[])|208,0=>([0,1,4,5,6,29,30],[0,1],[])|_,_=>([],[],[])
 keepR:=λf i=>match f,i with|208,2=>([4],[0,1],[4])|208,0=>([4],[0,1],[4])|_,_=>([],[],[])
 L:=λf i b st=>match f,i,b with|208,2,0=>(matchSt z15.l2aash st).bind z15.l2aapack|208,0,0=>(matchSt z15.l0sh st).bind z15.l0pack|_,_,_=>none
def z15.dec:V->Option ((List Int))
 |(.ints _ .i64 x0)=>some x0
 |_=>none
theorem z15.l2aa_link (R:Type) (k:Env×Store->Option R) (d:X×Env×Store->Option R) (a b:List Int) (c e g:Int) (h j:List Int) :
  z15.C.loopP 208 2 (Qf 2 (ifun Tryz.f208).body) 2 k d (Qb z15.l2aash [.li a,.li b,.i c,.i e,.i g,.li h,.li j]) =
  z15.l2aaP a b c (λx'=>k (Qb z15.l2aash [.li a,.li b,.i c,.i x'.1,.i x'.2.1,.li h,.li x'.2.2])) (λo=>d (z15.l2aaout0 a b c e g h j o)) (e,g,j):=by kernel_rfl
theorem z15.l0_link (R:Type) (k:Env×Store->Option R) (d:X×Env×Store->Option R) (a b:List Int) (c:Int) (e g:List Int) :
  z15.C.loopP 208 0 (Qf 0 (ifun Tryz.f208).body) 2 k d (Qb z15.l0sh [.li a,.li b,.i c,.li e,.li g]) =
  z15.l0P a b (λx'=>k (Qb z15.l0sh [.li a,.li b,.i x'.1,.li e,.li x'.2])) (λo=>d (z15.l0out0 a b c e g o)) (c,g):=by kernel_rfl
theorem z15.link (a0 a1:List Int):z15.C.evTop 208 (ifun Tryz.f208) [(.ints false .i64 a0),(.ints false .i64 a1)] z15.dec=z15.F a0 a1:=by kernel_rfl
def z17.l0sh:Env×Store:=(.undef::(.ptr 0 0)::(.str ([]:List UInt8))::(.str ([]:List UInt8))::un 36 [],[(.cells 213 [(.ints false .i64 []),(.bool false),(.int .i64 0)])])
def z17.l0out0 (a c:List UInt8) (d:List Int) (e:Bool) (g:Int) (o:(List UInt8)):X×Env×Store:=((.exit 0),Qb z17.l0sh [.s a,.s o,.li d,.b e,.i g])
def z17.l0pack:List Leaf->Option LPack
 |[.s a,.s c,.li d,.b e,.i g]=>some (.one _ (z17.l0 g c) (z17.l0out0 a c d e g))
 |_=>none
def z17.C:Ctx where
 T:=tab
 draws:=λf i=>match f,i with|132,5=>([(19,[(3,17)],0),(20,[(3,17)],0),(21,[(19,2)],2),(22,[(1,0)],0),(23,[(21,4)],8),(24,[(20,3),(22,5)],30),(25,[(18,1),(23,6)],63),(26,[(24,7)],127),(27,[(3,17)],0),(28,[(3,17)],0),(29,[(27,10)],512),(30,[(1,0)],0),(31,[(29,12)],2048),(32,[(28,11),(30,13)],7680),(33,[(26,9),(31,14)],16128),(34,[(25,8),(32,15)],32767),(4,[(33,16)],65535)],17179607048)|_,_=>([],0)
 call:=λg args=>match g with|102=>z5.pack args|_=>none
 keep:=λf i=>match f,i with|132,0=>([1,2,3],[0],[])|_,_=>([],[],[])
 keepE:=λf i=>match f,i with|132,0=>([1,2,3],[0],[])|_,_=>([],[],[])
 keepR:=λf i=>match f,i with|132,0=>([2],[0],[2])|_,_=>([],[],[])
 L:=λf i b st=>match f,i,b with|132,0,0=>(matchSt z17.l0sh st).bind z17.l0pack|_,_,_=>none
def z17.dec:V->Option ((List UInt8))
 |(.str x0)=>some x0
 |_=>none
theorem z17.l0_link (R:Type) (k:Env×Store->Option R) (d:X×Env×Store->Option R) (a c:List UInt8) (e:List Int) (g:Bool) (h:Int) :
  z17.C.loopP 132 0 (Qf 0 (ifun Tryz.f132).body) 1 k d (Qb z17.l0sh [.s a,.s c,.li e,.b g,.i h]) =
  z17.l0P h (λx'=>k (Qb z17.l0sh [.s a,.s x',.li e,.b g,.i h])) (λo=>d (z17.l0out0 a c e g h o)) c:=by kernel_rfl
theorem z17.link (a0:List Int) (a1:Bool) (a2:Int):z17.C.evTop 132 (ifun Tryz.f132) [(.agg [(.ints false .i64 a0),(.bool a1),(.int .i64 a2)])] z17.dec=z17.F a0 a1 a2:=by kernel_rfl
def z18.C:Ctx where
 T:=tab
 call:=λg args=>match g with|95=>z12.pack args|60=>z9.pack args|131=>z16.pack args|26=>z6.pack args|132=>z17.pack args|_=>none
def z18.dec:V->Option ((List UInt8)×(List UInt8)×Int×Int×Int×Int×Int×Int×Int×Int)
 |(.agg [(.str x0),(.str x1),(.int .i64 x2),(.int .i64 x3),(.int .i64 x4),(.int .i64 x5),(.int .i64 x6),(.int .i64 x7),(.int .i64 x8),(.int .i64 x9)])=>some (x0,x1,x2,x3,x4,x5,x6,x7,x8,x9)
 |_=>none
theorem z18.link (a0 a1 a2 a3 a4 a5 a6 a7 a8 a9 a10 a11 a12:Int):z18.C.evTop 43 (ifun Tryz.f43) [(.agg [(.int .u64 a0),(.int .u16 a1),(.int .u32 a2),(.int .u8 a3),(.int .u8 a4),(.int .u8 a5),(.int .u8 a6),(.int .u8 a7),(.int .u8 a8),(.int .i64 a9),(.int .i64 a10),(.int .i64 a11)]),(.int .i64 a12)] z18.dec=z18.F a0 a1 a2 a3 a4 a5 a6 a7 a8 a9 a10 a11 a12:=by kernel_rfl
def z77.C:Ctx where
 T:=tab
def z77.dec:V->Option ((List (List UInt8)))
 |(.strs _ x0)=>some x0
 |_=>none
theorem z77.link:z77.C.evTop 137 (ifun Tryz.f137) [] z77.dec=z77.F:=by kernel_rfl
def z85.C:Ctx where
 T:=tab
 call:=λg args=>match g with|47=>z78.pack args|209=>z84.pack args|149=>z81.pack args|_=>none
def z85.dec:V->Option (Bool)
 |(.bool x0)=>some x0
 |_=>none
theorem z85.link (a0 a1:List UInt8) (a2 a3 a4 a5 a6 a7 a8 a9:Int):z85.C.evTop 133 (ifun Tryz.f133) [(.agg [(.str a0),(.str a1),(.int .i64 a2),(.int .i64 a3),(.int .i64 a4),(.int .i64 a5),(.int .i64 a6),(.int .i64 a7),(.int .i64 a8),(.int .i64 a9)])] z85.dec=z85.F a0 a1 a2 a3 a4 a5 a6 a7 a8 a9:=by kernel_rfl
def z90.C:Ctx where
 T:=tab
 draws:=λf i=>match f,i with|134,10=>([(48,[(8,0)],0),(49,[(47,1)],1),(50,[(8,0)],0),(51,[(49,3)],4),(52,[(8,0)],0),(53,[(51,5)],16),(54,[(50,4),(52,6)],60),(55,[(48,2),(53,7)],127),(56,[(8,0)],255),(0,[(55,9),(54,8)],511)],71916856549572608)|_,_=>([],0)
 call:=λg args=>match g with|142=>z89.pack args|210=>z88.pack args|_=>none
def z90.dec:V->Option (Int×Int×Int×Int)
 |(.tup [(.agg [(.int .i64 x0),(.int .i64 x1),(.int .i64 x2)]),(.int .i64 x3)])=>some (x0,x1,x2,x3)
 |_=>none
theorem z90.link (a0 a1 a2 a3:Int):z90.C.evTop 134 (ifun Tryz.f134) [(.agg [(.int .i64 a0),(.int .i64 a1),(.int .i64 a2)]),(.int .i64 a3)] z90.dec=z90.F a0 a1 a2 a3:=by kernel_rfl
def z101.l2sh:Env×Store:=((.str ([]:List UInt8)) :: .undef::(.sref 0 0)::(.sref 1 0)::(.int .i64 0)::(.int .i64 0)::(.int .i64 0)::un 28 [],[(.arr 0 true 3 (.ints false .i64 [])),(.arr 0 true 3 (.ints false .i64 []))])
def z101.l2out0 (a:List UInt8) (b c d:Int) (e g:List Int) (o:Int×Int):X×Env×Store:=((.exit 2),Qb z101.l2sh [.s a,.i b,.i o.1,.i o.2,.li e,.li g])
def z101.l2pack:List Leaf->Option LPack
 |[.s a,.i b,.i c,.i d,.li e,.li g]=>some (.one _ (z101.l2 a b (c,d)) (z101.l2out0 a b c d e g))
 |_=>none
def z101.l0sh:Env×Store:=((.str ([]:List UInt8)) :: .undef::(.sref 0 0)::(.sref 1 0)::(.int .i64 0)::un 30 [],[(.arr 0 true 3 (.ints false .i64 [])),(.arr 0 true 3 (.ints false .i64 []))])
def z101.l0out0 (a:List UInt8) (b:Int) (c d:List Int) (o:Int×(List Int)):X×Env×Store:=((.exit 0),Qb z101.l0sh [.s a,.i o.1,.li c,.li o.2])
def z101.l0pack:List Leaf->Option LPack
 |[.s a,.i b,.li c,.li d]=>some (.one _ (z101.l0 a (b,d)) (z101.l0out0 a b c d))
 |_=>none
def z101.C:Ctx where
 T:=tab
 call:=λg args=>match g with|235=>z14.pack args|_=>none
 keep:=λf i=>match f,i with|192,2=>([0,2,3,4,5,6],[0,1],[])|192,0=>([0,2,3,4],[0,1],[])|_,_=>([],[],[])
 keepE:=λf i=>match f,i with|192,2=>([0,2,3,4,5,6],[0,1],[])|192,0=>([0,2,3,4],[0,1],[])|_,_=>([],[],[])
 keepR:=λf i=>match f,i with|192,2=>([2],[0,1],[2])|192,0=>([2],[0,1],[2])|_,_=>([],[],[])
 L:=λf i b st=>match f,i,b with|192,2,0=>(matchSt z101.l2sh st).bind z101.l2pack|192,0,0=>(matchSt z101.l0sh st).bind z101.l0pack|_,_,_=>none
def z101.dec:V->Option ((List Int))
 |(.ints _ .i64 x0)=>some x0
 |_=>none
theorem z101.l2_link (R:Type) (k:Env×Store->Option R) (d:X×Env×Store->Option R) (a:List UInt8) (b c e:Int) (g h:List Int) :
  z101.C.loopP 192 2 (Qf 2 (ifun Tryz.f192).body) 2 k d (Qb z101.l2sh [.s a,.i b,.i c,.i e,.li g,.li h]) =
  z101.l2P a b (λx'=>k (Qb z101.l2sh [.s a,.i b,.i x'.1,.i x'.2,.li g,.li h])) (λo=>d (z101.l2out0 a b c e g h o)) (c,e):=by kernel_rfl
theorem z101.l0_link (R:Type) (k:Env×Store->Option R) (d:X×Env×Store->Option R) (a:List UInt8) (b:Int) (c e:List Int) :
  z101.C.loopP 192 0 (Qf 0 (ifun Tryz.f192).body) 2 k d (Qb z101.l0sh [.s a,.i b,.li c,.li e]) =
  z101.l0P a (λx'=>k (Qb z101.l0sh [.s a,.i x'.1,.li c,.li x'.2])) (λo=>d (z101.l0out0 a b c e o)) (b,e):=by kernel_rfl
theorem z101.link (a0:List UInt8):z101.C.evTop 192 (ifun Tryz.f192) [(.str a0)] z101.dec=z101.F a0:=by kernel_rfl
def z104.C:Ctx where
 T:=tab
 call:=λg args=>match g with|60=>z9.pack args|196=>z103.pack args|103=>z102.pack args|_=>none
def z104.dec:V->Option ((List Int)×Bool×Int)
 |(.tup [(.agg [(.ints _ .i64 x0),(.bool x1)]),(.int .i64 x2)])=>some (x0,x1,x2)
 |_=>none
theorem z104.link (a0:List UInt8):z104.C.evTop 115 (ifun Tryz.f115) [(.str a0)] z104.dec=z104.F a0:=by kernel_rfl
def z114.C:Ctx where
 T:=tab
 call:=λg args=>match g with|60=>z9.pack args|115=>z104.pack args|116=>z105.pack args|113=>z7.pack args|117=>z113.pack args|_=>none
def z114.dec:V->Option ((List Int)×Bool×Int)
 |(.tup [(.agg [(.ints _ .i64 x0),(.bool x1)]),(.int .i64 x2)])=>some (x0,x1,x2)
 |_=>none
theorem z114.link (a0:List UInt8):z114.C.evTop 37 (ifun Tryz.f37) [(.str a0)] z114.dec=z114.F a0:=by kernel_rfl
def z119.C:Ctx where
 T:=tab
 call:=λg args=>match g with|60=>z9.pack args|205=>z118.pack args|_=>none
def z119.dec:V->Option ((List Int)×Bool×(List Int))
 |(.agg [(.ints _ .i64 x0),(.bool x1),(.ints _ .i64 x2)])=>some (x0,x1,x2)
 |_=>none
theorem z119.link (a0 a1:Int):z119.C.evTop 125 (ifun Tryz.f125) [(.int .i64 a0),(.int .i64 a1)] z119.dec=z119.F a0 a1:=by kernel_rfl
def z121.C:Ctx where
 T:=tab
 call:=λg args=>match g with|116=>z105.pack args|206=>z117.pack args|_=>none
def z121.dec:V->Option ((List Int)×Bool×(List Int))
 |(.agg [(.ints _ .i64 x0),(.bool x1),(.ints _ .i64 x2)])=>some (x0,x1,x2)
 |_=>none
theorem z121.link (a0:List Int) (a1:Bool) (a2:Int):z121.C.evTop 127 (ifun Tryz.f127) [(.agg [(.ints false .i64 a0),(.bool a1),(.int .i64 a2)])] z121.dec=z121.F a0 a1 a2:=by kernel_rfl
def z123.C:Ctx where
 T:=tab
 call:=λg args=>match g with|207=>z122.pack args|117=>z113.pack args|_=>none
def z123.dec:V->Option (Int)
 |(.int .i64 x0)=>some x0
 |_=>none
theorem z123.link (a0:List Int) (a1:Bool) (a2 a3:List Int) (a4:Bool) (a5:List Int):z123.C.evTop 128 (ifun Tryz.f128) [(.agg [(.ints false .i64 a0),(.bool a1),(.ints false .i64 a2)]),(.agg [(.ints false .i64 a3),(.bool a4),(.ints false .i64 a5)])] z123.dec=z123.F a0 a1 a2 a3 a4 a5:=by kernel_rfl
def z139.C:Ctx where
 T:=tab
 call:=λg args=>match g with|38=>z76.pack args|36=>z46.pack args|46=>z138.pack args|41=>z136.pack args|44=>z91.pack args|_=>none
def z139.dec:V->Option (Bool)
 |(.bool x0)=>some x0
 |_=>none
theorem z139.link:z139.C.evTop 40 (ifun Tryz.f40) [] z139.dec=z139.F:=by kernel_rfl
end
noncomputable section
def z6.C:Ctx where
 T:=tab
 call:=λg args=>match g with|102=>z5.pack args|_=>none
def z6.dec:V->Option ((List UInt8))
 |(.str x0)=>some x0
 |_=>none
theorem z6.link (a0:List Int) (a1:Bool):z6.C.evTop 26 (ifun Tryz.f26) [(.agg [(.ints false .i64 a0),(.bool a1)])] z6.dec=z6.F a0 a1:=by kernel_rfl
def z9.C:Ctx where
 T:=tab
 call:=λg args=>match g with|152=>z8.pack args|113=>z7.pack args|_=>none
def z9.dec:V->Option ((List Int)×Bool)
 |(.agg [(.ints _ .i64 x0),(.bool x1)])=>some (x0,x1)
 |_=>none
theorem z9.link (a0:Int):z9.C.evTop 60 (ifun Tryz.f60) [(.int .i64 a0)] z9.dec=z9.F a0:=by kernel_rfl
def z14.l0b6sh:Env×Store:=((.ints false .i64 []) :: .undef::(.sref 0 0)::(.int .i64 0)::un 17 [],[(.arr 0 true 3 (.ints false .i64 []))])
def z14.l0b6out0 (a:List Int) (b:Int) (c:List Int) (o:Int):X×Env×Store:=((.exit 0),Qb z14.l0b6sh [.li a,.i o,.li c])
def z14.l0b6pack:List Leaf->Option LPack
 |[.li a,.i b,.li c]=>some (.one _ (z14.l0b6 a b) (z14.l0b6out0 a b c))
 |_=>none
def z14.C:Ctx where
 T:=tab
 keep:=λf i=>match f,i with|235,0=>([0,2,3],[0],[])|_,_=>([],[],[])
 keepE:=λf i=>match f,i with|235,0=>([0,2,3],[0],[])|_,_=>([],[],[])
 keepR:=λf i=>match f,i with|235,0=>([2],[0],[2])|_,_=>([],[],[])
 L:=λf i b st=>match f,i,b with|235,0,0=>(matchSt z14.l0b6sh st).bind z14.l0b6pack|_,_,_=>none
def z14.dec:V->Option ((List Int))
 |(.ints _ .i64 x0)=>some x0
 |_=>none
theorem z14.l0b6_link (R:Type) (k:Env×Store->Option R) (d:X×Env×Store->Option R) (a:List Int) (b:Int) (c:List Int) :
  z14.C.loopP 235 0 (Qf 0 (ifun Tryz.f235).body) 1 k d (Qb z14.l0b6sh [.li a,.i b,.li c]) =
  z14.l0b6P a (λx'=>k (Qb z14.l0b6sh [.li a,.i x',.li c])) (λo=>d (z14.l0b6out0 a b c o)) b:=by kernel_rfl
theorem z14.link (a0:List Int):z14.C.evTop 235 (ifun Tryz.f235) [(.ints false .i64 a0)] z14.dec=z14.F a0:=by kernel_rfl
def z16.C:Ctx where
 T:=tab
 call:=λg args=>match g with|208=>z15.pack args|113=>z7.pack args|_=>none
def z16.dec:V->Option ((List Int)×Bool)
 |(.agg [(.ints _ .i64 x0),(.bool x1)])=>some (x0,x1)
 |_=>none
theorem z16.link (a0:List Int) (a1:Bool) (a2:List Int) (a3:Bool):z16.C.evTop 131 (ifun Tryz.f131) [(.agg [(.ints false .i64 a0),(.bool a1)]),(.agg [(.ints false .i64 a2),(.bool a3)])] z16.dec=z16.F a0 a1 a2 a3:=by kernel_rfl
def z78.C:Ctx where
 T:=tab
 call:=λg args=>match g with|137=>z77.pack args|_=>none
def z78.dec:V->Option ((List UInt8))
 |(.str x0)=>some x0
 |_=>none
theorem z78.link (a0:Int):z78.C.evTop 47 (ifun Tryz.f47) [(.int .i64 a0)] z78.dec=z78.F a0:=by kernel_rfl
def z102.C:Ctx where
 T:=tab
 call:=λg args=>match g with|192=>z101.pack args|113=>z7.pack args|_=>none
def z102.dec:V->Option ((List Int)×Bool)
 |(.agg [(.ints _ .i64 x0),(.bool x1)])=>some (x0,x1)
 |_=>none
theorem z102.link (a0:List UInt8):z102.C.evTop 103 (ifun Tryz.f103) [(.str a0)] z102.dec=z102.F a0:=by kernel_rfl
def z103.l0b4sh:Env×Store:=((.str ([]:List UInt8)) :: .undef::(.bool false)::(.int .i64 0)::un 29 [],[])
def z103.l0b4so1:Env×Store:=(.undef :: .undef::(.bool false)::un 30 [],[])
def z103.l0b4out0 (a:List UInt8) (c:Bool) (d o:Int):X×Env×Store:=((.exit 0),Qb z103.l0b4sh [.s a,.b c,.i o])
def z103.l0b4out1 (a:List UInt8) (c:Bool) (d:Int) (o:Bool):X×Env×Store:=(.ret,Qb z103.l0b4so1 [.b o])
def z103.l0b4pack:List Leaf->Option LPack
 |[.s a,.b c,.i d]=>some (.two _ _ (z103.l0b4 a d) (z103.l0b4out0 a c d) (z103.l0b4out1 a c d))
 |_=>none
def z103.C:Ctx where
 T:=tab
 keep:=λf i=>match f,i with|196,0=>([0,2,3],[],[])|_,_=>([],[],[])
 keepE:=λf i=>match f,i with|196,0=>([0,2,3],[],[])|_,_=>([],[],[])
 keepR:=λf i=>match f,i with|196,0=>([2],[],[2])|_,_=>([],[],[])
 L:=λf i b st=>match f,i,b with|196,0,0=>(matchSt z103.l0b4sh st).bind z103.l0b4pack|_,_,_=>none
def z103.dec:V->Option (Bool)
 |(.bool x0)=>some x0
 |_=>none
theorem z103.l0b4_link (R:Type) (k:Env×Store->Option R) (d:X×Env×Store->Option R) (a:List UInt8) (c:Bool) (e:Int) :
  z103.C.loopP 196 0 (Qf 0 (ifun Tryz.f196).body) 0 k d (Qb z103.l0b4sh [.s a,.b c,.i e]) =
  z103.l0b4P a (λx'=>k (Qb z103.l0b4sh [.s a,.b c,.i x'])) (λo=>match o with | .inl o=>d (z103.l0b4out0 a c e o) | .inr o=>d (z103.l0b4out1 a c e o)) e:=by kernel_rfl
theorem z103.link (a0:List UInt8):z103.C.evTop 196 (ifun Tryz.f196) [(.str a0)] z103.dec=z103.F a0:=by kernel_rfl
def z107.l0b6sh:Env×Store:=((.ints false .i64 [])::(.ints false .i64 []) :: .undef :: .undef::(.sref 0 0)::(.sref 1 0)::(.int .i64 0)::(.int .i64 0)::un 39 [],[(.arr 0 true 3 (.ints false .i64 [])),(.arr 0 true 3 (.ints false .i64 []))])
def z107.l0b6out0 (a b:List Int) (c d:Int) (e g:List Int) (o:Int×Int×(List Int)):X×Env×Store:=((.exit 0),Qb z107.l0b6sh [.li a,.li b,.i o.1,.i o.2.1,.li e,.li o.2.2])
def z107.l0b6pack:List Leaf->Option LPack
 |[.li a,.li b,.i c,.i d,.li e,.li g]=>some (.one _ (z107.l0b6 a b (c,d,g)) (z107.l0b6out0 a b c d e g))
 |_=>none
def z107.C:Ctx where
 T:=tab
 call:=λg args=>match g with|234=>z13.pack args|235=>z14.pack args|_=>none
 keep:=λf i=>match f,i with|170,0=>([0,1,4,5,6,7],[0,1],[])|_,_=>([],[],[])
 keepE:=λf i=>match f,i with|170,0=>([0,1,4,5,6,7],[0,1],[])|_,_=>([],[],[])
 keepR:=λf i=>match f,i with|170,0=>([4],[0,1],[4])|_,_=>([],[],[])
 L:=λf i b st=>match f,i,b with|170,0,0=>(matchSt z107.l0b6sh st).bind z107.l0b6pack|_,_,_=>none
def z107.dec:V->Option ((List Int))
 |(.ints _ .i64 x0)=>some x0
 |_=>none
theorem z107.l0b6_link (R:Type) (k:Env×Store->Option R) (d:X×Env×Store->Option R) (a b:List Int) (c e:Int) (g h:List Int) :
  z107.C.loopP 170 0 (Qf 0 (ifun Tryz.f170).body) 2 k d (Qb z107.l0b6sh [.li a,.li b,.i c,.i e,.li g,.li h]) =
  z107.l0b6P a b (λx'=>k (Qb z107.l0b6sh [.li a,.li b,.i x'.1,.i x'.2.1,.li g,.li x'.2.2])) (λo=>d (z107.l0b6out0 a b c e g h o)) (c,e,h):=by kernel_rfl
theorem z107.link (a0 a1:List Int):z107.C.evTop 170 (ifun Tryz.f170) [(.ints false .i64 a0),(.ints false .i64 a1)] z107.dec=z107.F a0 a1:=by kernel_rfl
def z108.l0sh:Env×Store:=((.ints false .i64 [])::(.ints false .i64 []) :: .undef :: .undef::(.int .i64 0)::(.int .i64 0)::un 35 [],[])
def z108.l0so1:Env×Store:=(un 4 ((.int .i64 0)::un 36 []),[])
def z108.l0out0 (a b:List Int) (c d o:Int):X×Env×Store:=((.exit 0),Qb z108.l0sh [.li a,.li b,.i c,.i o])
def z108.l0out1 (a b:List Int) (c d o:Int):X×Env×Store:=(.ret,Qb z108.l0so1 [.i o])
def z108.l0pack:List Leaf->Option LPack
 |[.li a,.li b,.i c,.i d]=>some (.two _ _ (z108.l0 a b d) (z108.l0out0 a b c d) (z108.l0out1 a b c d))
 |_=>none
def z108.C:Ctx where
 T:=tab
 draws:=λf i=>match f,i with|171,8=>([(24,[(0,0)],0),(25,[(5,0)],0),(26,[(23,1),(24,2)],3),(27,[(25,3)],7),(28,[(1,0)],0),(29,[(5,0)],0),(30,[(27,5),(28,6)],48),(31,[(29,7)],112),(32,[(26,4),(30,8)],255)],4286578688)|171,10=>([(33,[(0,0)],0),(34,[(5,0)],0),(35,[(32,1),(33,2)],3),(36,[(34,3)],7),(37,[(1,0)],0),(38,[(5,0)],0),(39,[(36,5),(37,6)],48),(40,[(38,7)],112),(41,[(35,4),(39,8)],255)],2194728288256)|_,_=>([],0)
 keep:=λf i=>match f,i with|171,0=>([0,1,4,5],[],[])|_,_=>([],[],[])
 keepE:=λf i=>match f,i with|171,0=>([0,1,4,5],[],[])|_,_=>([],[],[])
 keepR:=λf i=>match f,i with|171,0=>([4],[],[4])|_,_=>([],[],[])
 L:=λf i b st=>match f,i,b with|171,0,0=>(matchSt z108.l0sh st).bind z108.l0pack|_,_,_=>none
def z108.dec:V->Option (Int)
 |(.int .i64 x0)=>some x0
 |_=>none
theorem z108.l0_link (R:Type) (k:Env×Store->Option R) (d:X×Env×Store->Option R) (a b:List Int) (c e:Int) :
  z108.C.loopP 171 0 (Qf 0 (ifun Tryz.f171).body) 0 k d (Qb z108.l0sh [.li a,.li b,.i c,.i e]) =
  z108.l0P a b (λx'=>k (Qb z108.l0sh [.li a,.li b,.i c,.i x'])) (λo=>match o with | .inl o=>d (z108.l0out0 a b c e o) | .inr o=>d (z108.l0out1 a b c e o)) e:=by kernel_rfl
theorem z108.link (a0 a1:List Int):z108.C.evTop 171 (ifun Tryz.f171) [(.ints false .i64 a0),(.ints false .i64 a1)] z108.dec=z108.F a0 a1:=by kernel_rfl
def z115.l2sh:Env×Store:=((.ints false .i64 [])::(.ints false .i64 []) :: .undef :: .undef::(.sref 0 0)::(.sref 1 0)::(.sref 2 0)::(.ints false .i64 [])::(.int .i64 0) :: .undef::(.int .i64 0)::(.int .i64 0)::un 61 [],[(.arr 0 true 3 (.ints false .i64 [])),(.arr 0 true 3 (.ints false .i64 [])),(.arr 0 false 3 (.ints false .i64 [])),.dead])
def z115.l2out0 (a b c:List Int) (d e g:Int) (h j k:List Int) (o:Int×Int):X×Env×Store:=((.exit 2),Qb z115.l2sh [.li a,.li b,.li c,.i d,.i o.1,.i o.2,.li h,.li j,.li k])
def z115.l2pack:List Leaf->Option LPack
 |[.li a,.li b,.li c,.i d,.i e,.i g,.li h,.li j,.li k]=>some (.one _ (z115.l2 b c (e,g)) (z115.l2out0 a b c d e g h j k))
 |_=>none
def z115.l0ash:Env×Store:=((.ints false .i64 [])::(.ints false .i64 []) :: .undef :: .undef::(.sref 0 0)::(.sref 1 0)::(.sref 2 0)::(.ints false .i64 [])::(.int .i64 0)::un 64 [],[(.arr 0 true 3 (.ints false .i64 [])),(.arr 0 true 3 (.ints false .i64 [])),(.arr 0 false 3 (.ints false .i64 [])),.dead])
def z115.l0aout0 (a b c:List Int) (d:Int) (e g h:List Int) (o:(List Int)×Int×(List Int)):X×Env×Store:=((.exit 0),Qb z115.l0ash [.li a,.li b,.li o.1,.i o.2.1,.li e,.li g,.li o.2.2])
def z115.l0apack:List Leaf->Option LPack
 |[.li a,.li b,.li c,.i d,.li e,.li g,.li h]=>some (.one _ (z115.l0a a b (c,d,h)) (z115.l0aout0 a b c d e g h))
 |_=>none
def z115.C:Ctx where
 T:=tab
 call:=λg args=>match g with|235=>z14.pack args|152=>z8.pack args|208=>z15.pack args|171=>z108.pack args|172=>z109.pack args|_=>none
 keep:=λf i=>match f,i with|221,2=>([0,1,4,5,6,7,8,10,11],[0,1,2],[])|221,0=>([0,1,4,5,6,7,8],[0,1,2],[7])|_,_=>([],[],[])
 keepE:=λf i=>match f,i with|221,2=>([0,1,4,5,6,7,8,10,11],[0,1,2],[])|221,0=>([0,1,4,5,6,7,8],[0,1,2],[7])|_,_=>([],[],[])
 keepR:=λf i=>match f,i with|221,2=>([4,5],[0,1,2],[4,5])|221,0=>([4,5],[0,1,2],[4,5])|_,_=>([],[],[])
 L:=λf i b st=>match f,i,b with|221,2,0=>(matchSt z115.l2sh st).bind z115.l2pack|221,0,0=>(matchSt z115.l0ash st).bind z115.l0apack|_,_,_=>none
def z115.dec:V->Option ((List Int)×(List Int))
 |(.tup [(.ints _ .i64 x0),(.ints _ .i64 x1)])=>some (x0,x1)
 |_=>none
theorem z115.l2_link (R:Type) (k:Env×Store->Option R) (d:X×Env×Store->Option R) (a b c:List Int) (e g h:Int) (j m n:List Int) :
  z115.C.loopP 221 2 (Qf 2 (ifun Tryz.f221).body) 4 k d (Qb z115.l2sh [.li a,.li b,.li c,.i e,.i g,.i h,.li j,.li m,.li n]) =
  z115.l2P b c (λx'=>k (Qb z115.l2sh [.li a,.li b,.li c,.i e,.i x'.1,.i x'.2,.li j,.li m,.li n])) (λo=>d (z115.l2out0 a b c e g h j m n o)) (g,h):=by kernel_rfl
theorem z115.l0a_link (R:Type) (k:Env×Store->Option R) (d:X×Env×Store->Option R) (a b c:List Int) (e:Int) (g h j:List Int) :
  z115.C.loopP 221 0 (Qf 0 (ifun Tryz.f221).body) 4 k d (Qb z115.l0ash [.li a,.li b,.li c,.i e,.li g,.li h,.li j]) =
  z115.l0aP a b (λx'=>k (Qb z115.l0ash [.li a,.li b,.li x'.1,.i x'.2.1,.li g,.li h,.li x'.2.2])) (λo=>d (z115.l0aout0 a b c e g h j o)) (c,e,j):=by kernel_rfl
theorem z115.link (a0 a1:List Int):z115.C.evTop 221 (ifun Tryz.f221) [(.ints false .i64 a0),(.ints false .i64 a1)] z115.dec=z115.F a0 a1:=by kernel_rfl
def z116.l0sh:Env×Store:=((.ints false .i64 [])::(.ints false .i64 []) :: .undef :: .undef::(.sref 0 0)::un 14 [],[(.arr 0 true 3 (.ints false .i64 []))])
def z116.l0out0 (a b c:List Int) (o:(List Int)×(List Int)):X×Env×Store:=((.exit 0),Qb z116.l0sh [.li o.1,.li o.2,.li c])
def z116.l0pack:List Leaf->Option LPack
 |[.li a,.li b,.li c]=>some (.one _ (z116.l0 (a,b)) (z116.l0out0 a b c))
 |_=>none
def z116.C:Ctx where
 T:=tab
 call:=λg args=>match g with|221=>z115.pack args|_=>none
 keep:=λf i=>match f,i with|256,0=>([0,1,4],[0],[])|_,_=>([],[],[])
 keepE:=λf i=>match f,i with|256,0=>([0,1,4],[0],[])|_,_=>([],[],[])
 keepR:=λf i=>match f,i with|256,0=>([4],[0],[4])|_,_=>([],[],[])
 L:=λf i b st=>match f,i,b with|256,0,0=>(matchSt z116.l0sh st).bind z116.l0pack|_,_,_=>none
def z116.dec:V->Option ((List Int))
 |(.ints _ .i64 x0)=>some x0
 |_=>none
theorem z116.l0_link (R:Type) (k:Env×Store->Option R) (d:X×Env×Store->Option R) (a b c:List Int) :
  z116.C.loopP 256 0 (Qf 0 (ifun Tryz.f256).body) 1 k d (Qb z116.l0sh [.li a,.li b,.li c]) =
  z116.l0P (λx'=>k (Qb z116.l0sh [.li x'.1,.li x'.2,.li c])) (λo=>d (z116.l0out0 a b c o)) (a,b):=by kernel_rfl
theorem z116.link (a0 a1:List Int):z116.C.evTop 256 (ifun Tryz.f256) [(.ints false .i64 a0),(.ints false .i64 a1)] z116.dec=z116.F a0 a1:=by kernel_rfl
def z122.C:Ctx where
 T:=tab
 call:=λg args=>match g with|113=>z7.pack args|131=>z16.pack args|_=>none
def z122.dec:V->Option ((List Int)×Bool)
 |(.agg [(.ints _ .i64 x0),(.bool x1)])=>some (x0,x1)
 |_=>none
theorem z122.link (a0:List Int) (a1:Bool) (a2 a3:List Int) (a4:Bool) (a5:List Int):z122.C.evTop 207 (ifun Tryz.f207) [(.agg [(.ints false .i64 a0),(.bool a1),(.ints false .i64 a2)]),(.agg [(.ints false .i64 a3),(.bool a4),(.ints false .i64 a5)])] z122.dec=z122.F a0 a1 a2 a3 a4 a5:=by kernel_rfl
def z124.C:Ctx where
 T:=tab
 call:=λg args=>match g with|207=>z122.pack args|113=>z7.pack args|131=>z16.pack args|205=>z118.pack args|_=>none
def z124.dec:V->Option ((List Int)×Bool×(List Int))
 |(.agg [(.ints _ .i64 x0),(.bool x1),(.ints _ .i64 x2)])=>some (x0,x1,x2)
 |_=>none
theorem z124.link (a0:List Int) (a1:Bool) (a2 a3:List Int) (a4:Bool) (a5:List Int):z124.C.evTop 129 (ifun Tryz.f129) [(.agg [(.ints false .i64 a0),(.bool a1),(.ints false .i64 a2)]),(.agg [(.ints false .i64 a3),(.bool a4),(.ints false .i64 a5)])] z124.dec=z124.F a0 a1 a2 a3 a4 a5:=by kernel_rfl
def z125.C:Ctx where
 T:=tab
 call:=λg args=>match g with|125=>z119.pack args|126=>z120.pack args|127=>z121.pack args|128=>z123.pack args|129=>z124.pack args|_=>none
def z125.dec:V->Option ((List Int)×Bool×(List Int)×Int)
 |(.tup [(.agg [(.ints _ .i64 x0),(.bool x1),(.ints _ .i64 x2)]),(.int .i64 x3)])=>some (x0,x1,x2,x3)
 |_=>none
theorem z125.link (a0:List UInt8):z125.C.evTop 39 (ifun Tryz.f39) [(.str a0)] z125.dec=z125.F a0:=by kernel_rfl
def z136.C:Ctx where
 T:=tab
 draws:=λf i=>match f,i with|41,3=>([(10,[(1,0)],0),(11,[(9,1)],1),(12,[(10,2)],3),(13,[(11,3)],7),(14,[(1,0)],0),(15,[(13,5)],23),(16,[(14,6)],55),(17,[(12,4),(15,7)],127),(3,[(16,8)],255)],130564)|_,_=>([],0)
 call:=λg args=>match g with|104=>z19.pack args|25=>z135.pack args|130=>z73.pack args|101=>z134.pack args|_=>none
def z136.dec:V->Option ((List UInt8))
 |(.str x0)=>some x0
 |_=>none
theorem z136.link (a0:List Int) (a1:Bool) (a2:List Int):z136.C.evTop 41 (ifun Tryz.f41) [(.agg [(.ints false .u64 a0),(.bool a1),(.ints false .u64 a2)])] z136.dec=z136.F a0 a1 a2:=by kernel_rfl
end
noncomputable section
def z5.l2sh:Env×Store:=((.ints false .i64 []) :: .undef::(.str ([]:List UInt8))::(.str ([]:List UInt8))::(.int .i64 0)::(.int .i64 0)::(.int .i64 0)::un 37 [],[])
def z5.l2out0 (a:List Int) (b c:List UInt8) (d e g:Int) (o:(List UInt8)×Int×Int):X×Env×Store:=((.exit 2),Qb z5.l2sh [.li a,.s b,.s o.1,.i d,.i o.2.1,.i o.2.2])
def z5.l2pack:List Leaf->Option LPack
 |[.li a,.s b,.s c,.i d,.i e,.i g]=>some (.one _ (z5.l2 (c,e,g)) (z5.l2out0 a b c d e g))
 |_=>none
def z5.l0sh:Env×Store:=((.ints false .i64 []) :: .undef::(.str ([]:List UInt8))::(.str ([]:List UInt8))::(.int .i64 0)::un 39 [],[])
def z5.l0out0 (a:List Int) (b c:List UInt8) (d:Int) (o:(List UInt8)×Int):X×Env×Store:=((.exit 0),Qb z5.l0sh [.li a,.s b,.s o.1,.i o.2])
def z5.l0pack:List Leaf->Option LPack
 |[.li a,.s b,.s c,.i d]=>some (.one _ (z5.l0 a (c,d)) (z5.l0out0 a b c d))
 |_=>none
def z5.l4sh:Env×Store:=(.undef :: .undef::(.str ([]:List UInt8))::(.str ([]:List UInt8))::un 3 ((.int .i64 0)::un 36 []),[])
def z5.l4out0 (a b:List UInt8) (c o:Int):X×Env×Store:=((.exit 4),Qb z5.l4sh [.s a,.s b,.i o])
def z5.l4pack:List Leaf->Option LPack
 |[.s a,.s b,.i c]=>some (.one _ (z5.l4 b c) (z5.l4out0 a b c))
 |_=>none
def z5.C:Ctx where
 T:=tab
 keep:=λf i=>match f,i with|102,2=>([0,2,3,4,5,6],[],[])|102,0=>([0,2,3,4],[],[])|102,4=>([2,3,7],[],[])|_,_=>([],[],[])
 keepE:=λf i=>match f,i with|102,2=>([0,2,3,4,5,6],[],[])|102,0=>([0,2,3,4],[],[])|102,4=>([2,3,7],[],[])|_,_=>([],[],[])
 keepR:=λf i=>match f,i with|102,2=>([2],[],[2])|102,0=>([2],[],[2])|102,4=>([2],[],[2])|_,_=>([],[],[])
 L:=λf i b st=>match f,i,b with|102,2,0=>(matchSt z5.l2sh st).bind z5.l2pack|102,0,0=>(matchSt z5.l0sh st).bind z5.l0pack|102,4,0=>(matchSt z5.l4sh st).bind z5.l4pack|_,_,_=>none
def z5.dec:V->Option ((List UInt8))
 |(.str x0)=>some x0
 |_=>none
theorem z5.l2_link (R:Type) (k:Env×Store->Option R) (d:X×Env×Store->Option R) (a:List Int) (b c:List UInt8) (e g h:Int) :
  z5.C.loopP 102 2 (Qf 2 (ifun Tryz.f102).body) 0 k d (Qb z5.l2sh [.li a,.s b,.s c,.i e,.i g,.i h]) =
  z5.l2P (λx'=>k (Qb z5.l2sh [.li a,.s b,.s x'.1,.i e,.i x'.2.1,.i x'.2.2])) (λo=>d (z5.l2out0 a b c e g h o)) (c,g,h):=by kernel_rfl
theorem z5.l0_link (R:Type) (k:Env×Store->Option R) (d:X×Env×Store->Option R) (a:List Int) (b c:List UInt8) (e:Int) :
  z5.C.loopP 102 0 (Qf 0 (ifun Tryz.f102).body) 0 k d (Qb z5.l0sh [.li a,.s b,.s c,.i e]) =
  z5.l0P a (λx'=>k (Qb z5.l0sh [.li a,.s b,.s x'.1,.i x'.2])) (λo=>d (z5.l0out0 a b c e o)) (c,e):=by kernel_rfl
theorem z5.l4_link (R:Type) (k:Env×Store->Option R) (d:X×Env×Store->Option R) (a b:List UInt8) (c:Int) :
  z5.C.loopP 102 4 (Qf 4 (ifun Tryz.f102).body) 0 k d (Qb z5.l4sh [.s a,.s b,.i c]) =
  z5.l4P b (λx'=>k (Qb z5.l4sh [.s a,.s b,.i x'])) (λo=>d (z5.l4out0 a b c o)) c:=by kernel_rfl
theorem z5.link (a0:List Int):z5.C.evTop 102 (ifun Tryz.f102) [(.ints false .i64 a0)] z5.dec=z5.F a0:=by kernel_rfl
def z8.l0sh:Env×Store:=((.int .i64 0) :: .undef::(.sref 0 0)::(.sref 1 0)::un 10 [],[(.arr 0 true 3 (.ints false .i64 [])),(.arr 0 true 3 (.ints false .i64 []))])
def z8.l0out0 (a:Int) (b c:List Int) (o:Int×(List Int)):X×Env×Store:=((.exit 0),Qb z8.l0sh [.i o.1,.li b,.li o.2])
def z8.l0pack:List Leaf->Option LPack
 |[.i a,.li b,.li c]=>some (.one _ (z8.l0 (a,c)) (z8.l0out0 a b c))
 |_=>none
def z8.C:Ctx where
 T:=tab
 keep:=λf i=>match f,i with|152,0=>([0,2,3],[0,1],[])|_,_=>([],[],[])
 keepE:=λf i=>match f,i with|152,0=>([0,2,3],[0,1],[])|_,_=>([],[],[])
 keepR:=λf i=>match f,i with|152,0=>([2],[0,1],[2])|_,_=>([],[],[])
 L:=λf i b st=>match f,i,b with|152,0,0=>(matchSt z8.l0sh st).bind z8.l0pack|_,_,_=>none
def z8.dec:V->Option ((List Int))
 |(.ints _ .i64 x0)=>some x0
 |_=>none
theorem z8.l0_link (R:Type) (k:Env×Store->Option R) (d:X×Env×Store->Option R) (a:Int) (b c:List Int) :
  z8.C.loopP 152 0 (Qf 0 (ifun Tryz.f152).body) 2 k d (Qb z8.l0sh [.i a,.li b,.li c]) =
  z8.l0P (λx'=>k (Qb z8.l0sh [.i x'.1,.li b,.li x'.2])) (λo=>d (z8.l0out0 a b c o)) (a,c):=by kernel_rfl
theorem z8.link (a0:Int):z8.C.evTop 152 (ifun Tryz.f152) [(.int .i64 a0)] z8.dec=z8.F a0:=by kernel_rfl
def z11.C:Ctx where
 T:=tab
 call:=λg args=>match g with|219=>z10.pack args|_=>none
def z11.dec:V->Option (Int)
 |(.int .i64 x0)=>some x0
 |_=>none
theorem z11.link (a0 a1:Int):z11.C.evTop 153 (ifun Tryz.f153) [(.int .i64 a0),(.int .i64 a1)] z11.dec=z11.F a0 a1:=by kernel_rfl
def z106.C:Ctx where
 T:=tab
 call:=λg args=>match g with|113=>z7.pack args|_=>none
def z106.dec:V->Option ((List Int)×Bool)
 |(.agg [(.ints _ .i64 x0),(.bool x1)])=>some (x0,x1)
 |_=>none
theorem z106.link (a0:List Int) (a1:Bool):z106.C.evTop 35 (ifun Tryz.f35) [(.agg [(.ints false .i64 a0),(.bool a1)])] z106.dec=z106.F a0 a1:=by kernel_rfl
def z109.l0sh:Env×Store:=((.ints false .i64 [])::(.ints false .i64 []) :: .undef :: .undef::(.sref 0 0)::(.sref 1 0)::(.int .i64 0)::(.int .i64 0)::un 29 [],[(.arr 0 true 3 (.ints false .i64 [])),(.arr 0 true 3 (.ints false .i64 []))])
def z109.l0out0 (a b:List Int) (c d:Int) (e g:List Int) (o:Int×Int×(List Int)):X×Env×Store:=((.exit 0),Qb z109.l0sh [.li a,.li b,.i o.1,.i o.2.1,.li e,.li o.2.2])
def z109.l0pack:List Leaf->Option LPack
 |[.li a,.li b,.i c,.i d,.li e,.li g]=>some (.one _ (z109.l0 a b (c,d,g)) (z109.l0out0 a b c d e g))
 |_=>none
def z109.C:Ctx where
 T:=tab
 call:=λg args=>match g with|234=>z13.pack args|235=>z14.pack args|_=>none
 keep:=λf i=>match f,i with|172,0=>([0,1,4,5,6,7],[0,1],[])|_,_=>([],[],[])
 keepE:=λf i=>match f,i with|172,0=>([0,1,4,5,6,7],[0,1],[])|_,_=>([],[],[])
 keepR:=λf i=>match f,i with|172,0=>([4],[0,1],[4])|_,_=>([],[],[])
 L:=λf i b st=>match f,i,b with|172,0,0=>(matchSt z109.l0sh st).bind z109.l0pack|_,_,_=>none
def z109.dec:V->Option ((List Int))
 |(.ints _ .i64 x0)=>some x0
 |_=>none
theorem z109.l0_link (R:Type) (k:Env×Store->Option R) (d:X×Env×Store->Option R) (a b:List Int) (c e:Int) (g h:List Int) :
  z109.C.loopP 172 0 (Qf 0 (ifun Tryz.f172).body) 2 k d (Qb z109.l0sh [.li a,.li b,.i c,.i e,.li g,.li h]) =
  z109.l0P a b (λx'=>k (Qb z109.l0sh [.li a,.li b,.i x'.1,.i x'.2.1,.li g,.li x'.2.2])) (λo=>d (z109.l0out0 a b c e g h o)) (c,e,h):=by kernel_rfl
theorem z109.link (a0 a1:List Int):z109.C.evTop 172 (ifun Tryz.f172) [(.ints false .i64 a0),(.ints false .i64 a1)] z109.dec=z109.F a0 a1:=by kernel_rfl
def z112.C:Ctx where
 T:=tab
def z112.dec:V->Option (Int)
 |(.int .i64 x0)=>some x0
 |_=>none
theorem z112.link (a0:List Int) (a1:Bool):z112.C.evTop 197 (ifun Tryz.f197) [(.agg [(.ints false .i64 a0),(.bool a1)])] z112.dec=z112.F a0 a1:=by kernel_rfl
def z113.C:Ctx where
 T:=tab
 call:=λg args=>match g with|63=>z111.pack args|197=>z112.pack args|_=>none
def z113.dec:V->Option (Int)
 |(.int .i64 x0)=>some x0
 |_=>none
theorem z113.link (a0:List Int) (a1:Bool) (a2:List Int) (a3:Bool):z113.C.evTop 117 (ifun Tryz.f117) [(.agg [(.ints false .i64 a0),(.bool a1)]),(.agg [(.ints false .i64 a2),(.bool a3)])] z113.dec=z113.F a0 a1 a2 a3:=by kernel_rfl
def z128.C:Ctx where
 T:=tab
 call:=λg args=>match g with|37=>z114.pack args|39=>z125.pack args|80=>z126.pack args|135=>z127.pack args|_=>none
def z128.dec:V->Option (Int)
 |(.int .i64 x0)=>some x0
 |_=>none
theorem z128.link (a0 a1:List UInt8) (a2 a3 a4 a5 a6 a7 a8 a9:Int):z128.C.evTop 45 (ifun Tryz.f45) [(.agg [(.str a0),(.str a1),(.int .i64 a2),(.int .i64 a3),(.int .i64 a4),(.int .i64 a5),(.int .i64 a6),(.int .i64 a7),(.int .i64 a8),(.int .i64 a9)])] z128.dec=z128.F a0 a1 a2 a3 a4 a5 a6 a7 a8 a9:=by kernel_rfl
def z141.C:Ctx where
 T:=tab
 draws:=λf i=>match f,i with|6,1=>([(10,[(1,0)],0),(11,[(9,1)],1),(12,[(1,0)],0),(13,[(11,3)],4),(14,[(1,0)],0),(15,[(13,5)],16),(16,[(1,0)],0),(17,[(15,7)],64),(4,[],0),(5,[],0),(0,[(3,9),(10,2)],771),(0,[(4,10),(12,4)],1807),(6,[(14,6)],3903),(7,[(16,8)],8191)],130680)|6,2=>([(18,[(3,0)],0),(19,[(17,1)],1),(20,[(3,0)],0),(21,[(19,3)],4),(22,[(20,4)],12),(23,[(21,5)],28),(24,[(18,2),(22,6)],63),(25,[(3,0)],0),(26,[(24,8)],128),(27,[(3,0)],0),(28,[(26,10)],512),(29,[(27,11)],1536),(30,[(28,12)],3584),(31,[(25,9),(29,13)],8064),(32,[(3,0)],2047),(0,[(31,15),(23,7)],18431),(33,[(3,0)],65535),(0,[(32,17),(30,14)],131071)],8589803520)|6,23=>([(77,[],0),(78,[(76,1)],1),(79,[(7,0),(77,2)],3),(80,[(78,3),(77,2)],7),(81,[(79,4),(77,2)],15),(82,[(77,2),(80,5)],31),(83,[(81,6)],63),(84,[(3,0),(82,7)],127),(85,[(83,8),(82,7)],255),(86,[(3,0),(82,7)],127),(87,[(85,10),(82,7)],1023),(88,[(84,9),(86,11),(82,7)],2047),(89,[(82,7),(87,12)],4095),(90,[(88,13)],8191),(91,[(8,0),(89,14)],16383),(92,[(90,15),(89,14)],32767),(93,[(8,0),(89,14)],16383),(94,[(92,17),(89,14)],131071),(95,[(91,16),(93,18),(89,14)],262143),(96,[(89,14),(94,19)],524287),(3,[(95,20)],1048575)],79228086956400611679220531204)|_,_=>([],0)
 call:=λg args=>match g with|43=>z18.pack args|40=>z139.pack args|44=>z91.pack args|45=>z128.pack args|_=>none
def z141.dec:V->Option (Bool)
 |(.bool x0)=>some x0
 |_=>none
theorem z141.link (a0 a1:List UInt8) (a2 a3 a4 a5 a6 a7 a8 a9 a10 a11 a12 a13 a14 a15 a16 a17 a18 a19 a20 a21 a22 a23:Int):z141.C.evTop 6 (ifun Tryz.f6) [(.agg [(.str a0),(.str a1),(.int .i64 a2),(.int .i64 a3),(.int .i64 a4),(.int .i64 a5),(.int .i64 a6),(.int .i64 a7),(.int .i64 a8),(.int .i64 a9),(.int .u64 a10),(.int .u16 a11),(.int .u32 a12),(.int .u8 a13),(.int .u8 a14),(.int .u8 a15),(.int .u8 a16),(.int .u8 a17),(.int .u8 a18),(.int .i64 a19),(.int .i64 a20),(.int .i64 a21),(.int .u8 a22),(.int .i64 a23)])] z141.dec=z141.F a0 a1 a2 a3 a4 a5 a6 a7 a8 a9 a10 a11 a12 a13 a14 a15 a16 a17 a18 a19 a20 a21 a22 a23:=by kernel_rfl
end
noncomputable section
def z7.C:Ctx where
 T:=tab
def z7.dec:V->Option ((List Int)×Bool)
 |(.agg [(.ints _ .i64 x0),(.bool x1)])=>some (x0,x1)
 |_=>none
theorem z7.link (a0:List Int) (a1:Bool):z7.C.evTop 113 (ifun Tryz.f113) [(.ints false .i64 a0),(.bool a1)] z7.dec=z7.F a0 a1:=by kernel_rfl
def z12.C:Ctx where
 T:=tab
 call:=λg args=>match g with|153=>z11.pack args|_=>none
def z12.dec:V->Option (Int×Int×Int)
 |(.agg [(.int .i64 x0),(.int .i64 x1),(.int .i64 x2)])=>some (x0,x1,x2)
 |_=>none
theorem z12.link (a0 a1 a2 a3:Int):z12.C.evTop 95 (ifun Tryz.f95) [(.agg [(.int .i64 a0),(.int .i64 a1),(.int .i64 a2)]),(.int .i64 a3)] z12.dec=z12.F a0 a1 a2 a3:=by kernel_rfl
def z13.C:Ctx where
 T:=tab
def z13.dec:V->Option (Int)
 |(.int .i64 x0)=>some x0
 |_=>none
theorem z13.link (a0:List Int) (a1:Int):z13.C.evTop 234 (ifun Tryz.f234) [(.ints false .i64 a0),(.int .i64 a1)] z13.dec=z13.F a0 a1:=by kernel_rfl
def z91.C:Ctx where
 T:=tab
 call:=λg args=>match g with|36=>z46.pack args|28=>z20.pack args|38=>z76.pack args|133=>z85.pack args|134=>z90.pack args|_=>none
def z91.dec:V->Option (Int)
 |(.int .i64 x0)=>some x0
 |_=>none
theorem z91.link (a0 a1:List UInt8) (a2 a3 a4 a5 a6 a7 a8 a9:Int):z91.C.evTop 44 (ifun Tryz.f44) [(.agg [(.str a0),(.str a1),(.int .i64 a2),(.int .i64 a3),(.int .i64 a4),(.int .i64 a5),(.int .i64 a6),(.int .i64 a7),(.int .i64 a8),(.int .i64 a9)])] z91.dec=z91.F a0 a1 a2 a3 a4 a5 a6 a7 a8 a9:=by kernel_rfl
def z105.l0sh:Env×Store:=((.int .i64 0) :: .undef::(.sref 0 0)::(.str ([]:List UInt8))::(.int .i64 0)::un 9 [],[(.arr 0 true 3 (.ints false .i64 []))])
def z105.l0out0 (a:Int) (b:List UInt8) (c:Int) (d:List Int) (o:(List UInt8)×Int):X×Env×Store:=((.exit 0),Qb z105.l0sh [.i a,.s o.1,.i o.2,.li d])
def z105.l0pack:List Leaf->Option LPack
 |[.i a,.s b,.i c,.li d]=>some (.one _ (z105.l0 a (b,c)) (z105.l0out0 a b c d))
 |_=>none
def z105.C:Ctx where
 T:=tab
 call:=λg args=>match g with|192=>z101.pack args|_=>none
 keep:=λf i=>match f,i with|116,0=>([0,2,3,4],[0],[])|_,_=>([],[],[])
 keepE:=λf i=>match f,i with|116,0=>([0,2,3,4],[0],[])|_,_=>([],[],[])
 keepR:=λf i=>match f,i with|116,0=>([2],[0],[2])|_,_=>([],[],[])
 L:=λf i b st=>match f,i,b with|116,0,0=>(matchSt z105.l0sh st).bind z105.l0pack|_,_,_=>none
def z105.dec:V->Option ((List Int))
 |(.ints _ .i64 x0)=>some x0
 |_=>none
theorem z105.l0_link (R:Type) (k:Env×Store->Option R) (d:X×Env×Store->Option R) (a:Int) (b:List UInt8) (c:Int) (e:List Int) :
  z105.C.loopP 116 0 (Qf 0 (ifun Tryz.f116).body) 1 k d (Qb z105.l0sh [.i a,.s b,.i c,.li e]) =
  z105.l0P a (λx'=>k (Qb z105.l0sh [.i a,.s x'.1,.i x'.2,.li e])) (λo=>d (z105.l0out0 a b c e o)) (b,c):=by kernel_rfl
theorem z105.link (a0:Int):z105.C.evTop 116 (ifun Tryz.f116) [(.int .i64 a0)] z105.dec=z105.F a0:=by kernel_rfl
def z110.C:Ctx where
 T:=tab
 call:=λg args=>match g with|170=>z107.pack args|113=>z7.pack args|171=>z108.pack args|172=>z109.pack args|_=>none
def z110.dec:V->Option ((List Int)×Bool)
 |(.agg [(.ints _ .i64 x0),(.bool x1)])=>some (x0,x1)
 |_=>none
theorem z110.link (a0:List Int) (a1:Bool) (a2:List Int) (a3:Bool):z110.C.evTop 85 (ifun Tryz.f85) [(.agg [(.ints false .i64 a0),(.bool a1)]),(.agg [(.ints false .i64 a2),(.bool a3)])] z110.dec=z110.F a0 a1 a2 a3:=by kernel_rfl
def z111.C:Ctx where
 T:=tab
 call:=λg args=>match g with|35=>z106.pack args|85=>z110.pack args|_=>none
def z111.dec:V->Option ((List Int)×Bool)
 |(.agg [(.ints _ .i64 x0),(.bool x1)])=>some (x0,x1)
 |_=>none
theorem z111.link (a0:List Int) (a1:Bool) (a2:List Int) (a3:Bool):z111.C.evTop 63 (ifun Tryz.f63) [(.agg [(.ints false .i64 a0),(.bool a1)]),(.agg [(.ints false .i64 a2),(.bool a3)])] z111.dec=z111.F a0 a1 a2 a3:=by kernel_rfl
def z117.C:Ctx where
 T:=tab
 call:=λg args=>match g with|256=>z116.pack args|221=>z115.pack args|113=>z7.pack args|_=>none
def z117.dec:V->Option ((List Int)×Bool×(List Int))
 |(.agg [(.ints _ .i64 x0),(.bool x1),(.ints _ .i64 x2)])=>some (x0,x1,x2)
 |_=>none
theorem z117.link (a0:List Int) (a1:Bool) (a2:List Int):z117.C.evTop 206 (ifun Tryz.f206) [(.agg [(.ints false .i64 a0),(.bool a1)]),(.ints false .i64 a2)] z117.dec=z117.F a0 a1 a2:=by kernel_rfl
def z118.C:Ctx where
 T:=tab
 call:=λg args=>match g with|35=>z106.pack args|206=>z117.pack args|_=>none
def z118.dec:V->Option ((List Int)×Bool×(List Int))
 |(.agg [(.ints _ .i64 x0),(.bool x1),(.ints _ .i64 x2)])=>some (x0,x1,x2)
 |_=>none
theorem z118.link (a0:List Int) (a1:Bool) (a2:List Int) (a3:Bool):z118.C.evTop 205 (ifun Tryz.f205) [(.agg [(.ints false .i64 a0),(.bool a1)]),(.agg [(.ints false .i64 a2),(.bool a3)])] z118.dec=z118.F a0 a1 a2 a3:=by kernel_rfl
def z120.l0b10sh:Env×Store:=((.str ([]:List UInt8)) :: .undef::(.ptr 0 0)::(.int .i64 0)::(.ptr 1 0)::(.bool false)::(.int .i64 0)::(.str ([]:List UInt8))::(.int .i64 0)::(.int .i64 0)::(.bool false)::un 90 [],[(.cells 213 [(.ints false .i64 []),(.bool false),(.int .i64 0)]),(.cells 213 [(.ints false .i64 []),(.bool false),(.int .i64 0)])])
def z120.l0b10so1:Env×Store:=(.undef :: .undef::(.ptr 0 0)::(.int .i64 0)::un 97 [],[(.cells 213 [(.ints false .i64 []),(.bool false),(.int .i64 0)]),(.cells 213 [(.ints false .i64 []),(.bool false),(.int .i64 0)])])
def z120.l0b10out0 (a:List UInt8) (c:Int) (d:Bool) (e:Int) (g:List UInt8) (h j:Int) (k:Bool) (m:List Int) (n:Bool) (p:Int) (q:List Int) (r:Bool) (t:Int) (o:Int×(List UInt8)×Int×Int×Bool):X×Env×Store:=((.exit 0),Qb z120.l0b10sh [.s a,.i c,.b d,.i o.1,.s o.2.1,.i o.2.2.1,.i o.2.2.2.1,.b o.2.2.2.2,.li m,.b n,.i p,.li q,.b r,.i t])
def z120.l0b10out1 (a:List UInt8) (c:Int) (d:Bool) (e:Int) (g:List UInt8) (h j:Int) (k:Bool) (m:List Int) (n:Bool) (p:Int) (q:List Int) (r:Bool) (s o:Int):X×Env×Store:=(.ret,Qb z120.l0b10so1 [.i o,.li q,.b r,.i s,.li q,.b r,.i s])
def z120.l0b10pack:List Leaf->Option LPack
 |[.s a,.i c,.b d,.i e,.s g,.i h,.i j,.b k,.li m,.b n,.i o,.li p,.b q,.i r]=>some (.two _ _ (z120.l0b10 a (e,g,h,j,k)) (z120.l0b10out0 a c d e g h j k m n o p q r) (z120.l0b10out1 a c d e g h j k m n o p q r))
 |_=>none
def z120.C:Ctx where
 T:=tab
 call:=λg args=>match g with|192=>z101.pack args|113=>z7.pack args|_=>none
 keep:=λf i=>match f,i with|126,0=>([0,2,3,4,5,6,7,8,9,10,70,71,74,75,76,77,78,79,80,83,84,85,86],[0,1],[])|_,_=>([],[],[])
 keepE:=λf i=>match f,i with|126,0=>([0,2,3,4,5,6,7,8,9,10,70,71,74,75,76,77,78,79,80,83,84,85,86],[0,1],[])|_,_=>([],[],[])
 keepR:=λf i=>match f,i with|126,0=>([2,3],[0,1],[2,3])|_,_=>([],[],[])
 L:=λf i b st=>match f,i,b with|126,0,0=>(matchSt z120.l0b10sh st).bind z120.l0b10pack|_,_,_=>none
def z120.dec:V->Option ((List Int)×Bool×Int×Int)
 |(.tup [(.agg [(.ints _ .i64 x0),(.bool x1),(.int .i64 x2)]),(.int .i64 x3)])=>some (x0,x1,x2,x3)
 |_=>none
theorem z120.l0b10_link (R:Type) (k:Env×Store->Option R) (d:X×Env×Store->Option R) (a:List UInt8) (c:Int) (e:Bool) (g:Int) (h:List UInt8) (j m:Int) (n:Bool) (p:List Int) (q:Bool) (r:Int) (t:List Int) (u:Bool) (v:Int) :
  z120.C.loopP 126 0 (Qf 0 (ifun Tryz.f126).body) 2 k d (Qb z120.l0b10sh [.s a,.i c,.b e,.i g,.s h,.i j,.i m,.b n,.li p,.b q,.i r,.li t,.b u,.i v]) =
  z120.l0b10P a (λx'=>k (Qb z120.l0b10sh [.s a,.i c,.b e,.i x'.1,.s x'.2.1,.i x'.2.2.1,.i x'.2.2.2.1,.b x'.2.2.2.2,.li p,.b q,.i r,.li t,.b u,.i v])) (λo=>match o with | .inl o=>d (z120.l0b10out0 a c e g h j m n p q r t u v o) | .inr o=>d (z120.l0b10out1 a c e g h j m n p q r t u v o)) (g,h,j,m,n):=by kernel_rfl
theorem z120.link (a0:List UInt8):z120.C.evTop 126 (ifun Tryz.f126) [(.str a0)] z120.dec=z120.F a0:=by kernel_rfl
def z126.C:Ctx where
 T:=tab
 call:=λg args=>match g with|153=>z11.pack args|_=>none
def z126.dec:V->Option (Bool)
 |(.bool x0)=>some x0
 |_=>none
theorem z126.link (a0 a1 a2:Int):z126.C.evTop 80 (ifun Tryz.f80) [(.agg [(.int .i64 a0),(.int .i64 a1),(.int .i64 a2)])] z126.dec=z126.F a0 a1 a2:=by kernel_rfl
def z127.l0sh:Env×Store:=(.undef :: .undef::(.ptr 0 0) :: .undef::(.ptr 1 0)::(.bool false)::(.int .i64 0)::(.int .i64 0)::un 43 [],[(.cells 41 [(.int .i64 0),(.int .i64 0),(.int .i64 0)]),(.cells 41 [(.int .i64 0),(.int .i64 0),(.int .i64 0)])])
def z127.l0out0 (a:Bool) (c d e g h j k m:Int) (o:Int×Int):X×Env×Store:=((.exit 0),Qb z127.l0sh [.b a,.i o.1,.i o.2,.i e,.i g,.i h,.i j,.i k,.i m])
def z127.l0pack:List Leaf->Option LPack
 |[.b a,.i c,.i d,.i e,.i g,.i h,.i j,.i k,.i m]=>some (.one _ (z127.l0 (c,d)) (z127.l0out0 a c d e g h j k m))
 |_=>none
def z127.l2sh:Env×Store:=(.undef :: .undef::(.ptr 0 0) :: .undef::(.ptr 1 0)::(.bool false)::(.int .i64 0)::(.int .i64 0)::un 43 [],[(.cells 41 [(.int .i64 0),(.int .i64 0),(.int .i64 0)]),(.cells 41 [(.int .i64 0),(.int .i64 0),(.int .i64 0)])])
def z127.l2out0 (a:Bool) (c d e g h j k m:Int) (o:Int×Int):X×Env×Store:=((.exit 2),Qb z127.l2sh [.b a,.i o.1,.i o.2,.i e,.i g,.i h,.i j,.i k,.i m])
def z127.l2pack:List Leaf->Option LPack
 |[.b a,.i c,.i d,.i e,.i g,.i h,.i j,.i k,.i m]=>some (.one _ (z127.l2 (c,d)) (z127.l2out0 a c d e g h j k m))
 |_=>none
def z127.C:Ctx where
 T:=tab
 call:=λg args=>match g with|153=>z11.pack args|_=>none
 keep:=λf i=>match f,i with|135,0=>([2,4,5,6,7,37,38],[0,1],[])|135,2=>([2,4,5,6,7,37,38],[0,1],[])|_,_=>([],[],[])
 keepE:=λf i=>match f,i with|135,0=>([2,4,5,6,7,37,38],[0,1],[])|135,2=>([2,4,5,6,7,37,38],[0,1],[])|_,_=>([],[],[])
 keepR:=λf i=>match f,i with|135,0=>([4,5],[0,1],[4,5])|135,2=>([4,5],[0,1],[4,5])|_,_=>([],[],[])
 L:=λf i b st=>match f,i,b with|135,0,0=>(matchSt z127.l0sh st).bind z127.l0pack|135,2,0=>(matchSt z127.l2sh st).bind z127.l2pack|_,_,_=>none
def z127.dec:V->Option (Int×Int×Int×Bool)
 |(.tup [(.agg [(.int .i64 x0),(.int .i64 x1),(.int .i64 x2)]),(.bool x3)])=>some (x0,x1,x2,x3)
 |_=>none
theorem z127.l0_link (R:Type) (k:Env×Store->Option R) (d:X×Env×Store->Option R) (a:Bool) (c e g h j m n p:Int) :
  z127.C.loopP 135 0 (Qf 0 (ifun Tryz.f135).body) 2 k d (Qb z127.l0sh [.b a,.i c,.i e,.i g,.i h,.i j,.i m,.i n,.i p]) =
  z127.l0P (λx'=>k (Qb z127.l0sh [.b a,.i x'.1,.i x'.2,.i g,.i h,.i j,.i m,.i n,.i p])) (λo=>d (z127.l0out0 a c e g h j m n p o)) (c,e):=by kernel_rfl
theorem z127.l2_link (R:Type) (k:Env×Store->Option R) (d:X×Env×Store->Option R) (a:Bool) (c e g h j m n p:Int) :
  z127.C.loopP 135 2 (Qf 2 (ifun Tryz.f135).body) 2 k d (Qb z127.l2sh [.b a,.i c,.i e,.i g,.i h,.i j,.i m,.i n,.i p]) =
  z127.l2P (λx'=>k (Qb z127.l2sh [.b a,.i x'.1,.i x'.2,.i g,.i h,.i j,.i m,.i n,.i p])) (λo=>d (z127.l2out0 a c e g h j m n p o)) (c,e):=by kernel_rfl
theorem z127.link (a0 a1 a2 a3:Int):z127.C.evTop 135 (ifun Tryz.f135) [(.agg [(.int .i64 a0),(.int .i64 a1),(.int .i64 a2)]),(.int .i64 a3)] z127.dec=z127.F a0 a1 a2 a3:=by kernel_rfl
def z137.l0sh:Env×Store:=((.strs false [])::(.str ([]:List UInt8)) :: .undef :: .undef::(.int .i64 0) :: .undef :: .undef::(.int .i64 0)::(.int .i64 0)::un 10 [],[])
def z137.l0so1:Env×Store:=(un 4 ((.int .i64 0)::un 14 []),[])
def z137.l0out0 (a:List (List UInt8)) (b:List UInt8) (c d e o:Int):X×Env×Store:=((.exit 0),Qb z137.l0sh [.ls a,.s b,.i c,.i d,.i o])
def z137.l0out1 (a:List (List UInt8)) (b:List UInt8) (c d e o:Int):X×Env×Store:=(.ret,Qb z137.l0so1 [.i o])
def z137.l0pack:List Leaf->Option LPack
 |[.ls a,.s b,.i c,.i d,.i e]=>some (.two _ _ (z137.l0 a b d e) (z137.l0out0 a b c d e) (z137.l0out1 a b c d e))
 |_=>none
def z137.C:Ctx where
 T:=tab
 keep:=λf i=>match f,i with|136,0=>([0,1,4,7,8],[],[])|_,_=>([],[],[])
 keepE:=λf i=>match f,i with|136,0=>([0,1,4,7,8],[],[])|_,_=>([],[],[])
 keepR:=λf i=>match f,i with|136,0=>([4],[],[4])|_,_=>([],[],[])
 L:=λf i b st=>match f,i,b with|136,0,0=>(matchSt z137.l0sh st).bind z137.l0pack|_,_,_=>none
def z137.dec:V->Option (Int)
 |(.int .i64 x0)=>some x0
 |_=>none
theorem z137.l0_link (R:Type) (k:Env×Store->Option R) (d:X×Env×Store->Option R) (a:List (List UInt8)) (b:List UInt8) (c e g:Int) :
  z137.C.loopP 136 0 (Qf 0 (ifun Tryz.f136).body) 0 k d (Qb z137.l0sh [.ls a,.s b,.i c,.i e,.i g]) =
  z137.l0P a b e (λx'=>k (Qb z137.l0sh [.ls a,.s b,.i c,.i e,.i x'])) (λo=>match o with | .inl o=>d (z137.l0out0 a b c e g o) | .inr o=>d (z137.l0out1 a b c e g o)) g:=by kernel_rfl
theorem z137.link (a0:List (List UInt8)) (a1:List UInt8):z137.C.evTop 136 (ifun Tryz.f136) [(.strs false a0),(.str a1)] z137.dec=z137.F a0 a1:=by kernel_rfl
def z138.C:Ctx where
 T:=tab
 call:=λg args=>match g with|137=>z77.pack args|136=>z137.pack args|_=>none
def z138.dec:V->Option (Int×Bool)
 |(.tup [(.int .i64 x0),(.bool x1)])=>some (x0,x1)
 |_=>none
theorem z138.link (a0:List UInt8):z138.C.evTop 46 (ifun Tryz.f46) [(.str a0)] z138.dec=z138.F a0:=by kernel_rfl
end
noncomputable section
theorem z5.l2_sound (hI:InlOK Tryz.prog z5.C λR=>z5.C.inlK 6):Qh z5.C 6 102 2 0 (Qf 2 (ifun Tryz.f102).body) z5.l2sh z5.l2pack:=by
 refine Qi λls p h=>?_
 unfold z5.l2pack at h;split at h<;>cases h
 rename_i a b c e g j
 exact Qm hI (sh:=z5.l2sh) (so:=z5.l2sh) (F:=λR rec done x=>z5.l2P rec done x) (enc:=λ(x':((List UInt8)×Int×Int))=>Qb z5.l2sh [.li a,.s b,.s x'.1,.i e,.i x'.2.1,.i x'.2.2]) [2,4,5] [2,4,5] (c,g,j) (by kernel_rfl) (by kernel_rfl) (λx=>by kernel_rfl) (λo=>by kernel_rfl) λR k d x'=>z5.l2_link R k d a b (x'.1) e (x'.2.1) (x'.2.2)
theorem z5.l0_sound (hI:InlOK Tryz.prog z5.C λR=>z5.C.inlK 6):Qh z5.C 6 102 0 0 (Qf 0 (ifun Tryz.f102).body) z5.l0sh z5.l0pack:=by
 refine Qi λls p h=>?_
 unfold z5.l0pack at h;split at h<;>cases h
 rename_i a b c e
 exact Qm hI (sh:=z5.l0sh) (so:=z5.l0sh) (F:=λR rec done x=>z5.l0P a rec done x) (enc:=λ(x':((List UInt8)×Int))=>Qb z5.l0sh [.li a,.s b,.s x'.1,.i x'.2]) [2,3] [2,3] (c,e) (by kernel_rfl) (by kernel_rfl) (λx=>by kernel_rfl) (λo=>by kernel_rfl) λR k d x'=>z5.l0_link R k d a b (x'.1) (x'.2)
theorem z5.l4_sound (hI:InlOK Tryz.prog z5.C λR=>z5.C.inlK 6):Qh z5.C 6 102 4 0 (Qf 4 (ifun Tryz.f102).body) z5.l4sh z5.l4pack:=by
 refine Qi λls p h=>?_
 unfold z5.l4pack at h;split at h<;>cases h
 rename_i a b c
 exact Qm hI (sh:=z5.l4sh) (so:=z5.l4sh) (F:=λR rec done x=>z5.l4P b rec done x) (enc:=λ(x':Int)=>Qb z5.l4sh [.s a,.s b,.i x']) [2] [2] c (by kernel_rfl) (by kernel_rfl) (λx=>by kernel_rfl) (λo=>by kernel_rfl) λR k d x'=>z5.l4_link R k d a b (x')
theorem Q1y:Qk (ifun Tryz.f102).body=true:=by kernel_rfl
theorem z5.loopsT (hI:InlOK Tryz.prog z5.C λR=>z5.C.inlK 6):LoopsOK z5.C (λR=>z5.C.inlK 6) 102 0 (ifun Tryz.f102).body:=by
 intro id b hm st p hp
 obtain rfl:=Ql Q1y hm
 unfold z5.C at hp
 simp only at hp
 try split at hp
 all_goals first
  |(simp at hp;done)
  |(exfalso;omega)
  |exact z5.l2_sound hI st p hp
  |exact z5.l0_sound hI st p hp
  |exact z5.l4_sound hI st p hp
theorem z5.sound:Sn z5.pack 102:=by
 intro vs p h;unfold z5.pack at h;split at h<;>cases h
 exact Qo Qd Qe rfl rfl rfl (λg vs p h=>by simp [z5.C] at h) ⟨Tryz.func102,rfl,by kernel_rfl⟩ z5.loopsT rfl (z5.link _) (by intro v r h;unfold z5.dec at h;split at h<;>cases h;exact ⟨rfl,rfl⟩)
theorem z6.sound:Sn z6.pack 26:=by
 intro vs p h;unfold z6.pack at h;split at h<;>cases h
 exact Qg Qd Qe rfl rfl rfl rfl (λg vs p h=>by unfold z6.C at h;simp only at h;split at h;exact z5.sound vs p h;simp at h) ⟨Tryz.func26,rfl,by kernel_rfl⟩ rfl (z6.link _ _) (by intro v r h;unfold z6.dec at h;split at h<;>cases h;exact ⟨rfl,rfl⟩)
theorem z7.sound:Sn z7.pack 113:=by
 intro vs p h;unfold z7.pack at h;split at h<;>cases h
 exact Qg Qd Qe rfl rfl rfl rfl (λg vs p h=>by simp [z7.C] at h) ⟨Tryz.func113,rfl,by kernel_rfl⟩ rfl (z7.link _ _) (by intro v r h;unfold z7.dec at h;split at h<;>cases h;exact ⟨rfl,rfl⟩)
theorem z8.l0_sound (hI:InlOK Tryz.prog z8.C λR=>z8.C.inlK 6):Qh z8.C 6 152 0 0 (Qf 0 (ifun Tryz.f152).body) z8.l0sh z8.l0pack:=by
 refine Qi λls p h=>?_
 unfold z8.l0pack at h;split at h<;>cases h
 rename_i a b c
 exact Qm hI (sh:=z8.l0sh) (so:=z8.l0sh) (F:=λR rec done x=>z8.l0P rec done x) (enc:=λ(x':(Int×(List Int)))=>Qb z8.l0sh [.i x'.1,.li b,.li x'.2]) [0,2] [0,2] (a,c) (by kernel_rfl) (by kernel_rfl) (λx=>by kernel_rfl) (λo=>by kernel_rfl) λR k d x'=>z8.l0_link R k d (x'.1) b (x'.2)
theorem Qzi:Qk (ifun Tryz.f152).body=true:=by kernel_rfl
theorem z8.loopsT (hI:InlOK Tryz.prog z8.C λR=>z8.C.inlK 6):LoopsOK z8.C (λR=>z8.C.inlK 6) 152 0 (ifun Tryz.f152).body:=by
 intro id b hm st p hp
 obtain rfl:=Ql Qzi hm
 unfold z8.C at hp
 simp only at hp
 try split at hp
 all_goals first
  |(simp at hp;done)
  |(exfalso;omega)
  |exact z8.l0_sound hI st p hp
theorem z8.sound:Sn z8.pack 152:=by
 intro vs p h;unfold z8.pack at h;split at h<;>cases h
 exact Qo Qd Qe rfl rfl rfl (λg vs p h=>by simp [z8.C] at h) ⟨Tryz.func152,rfl,by kernel_rfl⟩ z8.loopsT rfl (z8.link _) (by intro v r h;unfold z8.dec at h;split at h<;>cases h;exact ⟨rfl,rfl⟩)
theorem z9.sound:Sn z9.pack 60:=by
 intro vs p h;unfold z9.pack at h;split at h<;>cases h
 exact Qg Qd Qe rfl rfl rfl rfl (λg vs p h=>by unfold z9.C at h;simp only at h;split at h;exact z8.sound vs p h;exact z7.sound vs p h;simp at h) ⟨Tryz.func60,rfl,by kernel_rfl⟩ rfl (z9.link _) (by intro v r h;unfold z9.dec at h;split at h<;>cases h;exact ⟨rfl,rfl⟩)
theorem z10.sound:Sn z10.pack 219:=by
 intro vs p h;unfold z10.pack at h;split at h<;>cases h
 exact Qg Qd Qe rfl rfl rfl rfl (λg vs p h=>by simp [z10.C] at h) ⟨Tryz.func219,rfl,by kernel_rfl⟩ rfl (z10.link _) (by intro v r h;unfold z10.dec at h;split at h<;>cases h;exact ⟨rfl,rfl⟩)
theorem z11.sound:Sn z11.pack 153:=by
 intro vs p h;unfold z11.pack at h;split at h<;>cases h
 exact Qg Qd Qe rfl rfl rfl rfl (λg vs p h=>by unfold z11.C at h;simp only at h;split at h;exact z10.sound vs p h;simp at h) ⟨Tryz.func153,rfl,by kernel_rfl⟩ rfl (z11.link _ _) (by intro v r h;unfold z11.dec at h;split at h<;>cases h;exact ⟨rfl,rfl⟩)
theorem z12.sound:Sn z12.pack 95:=by
 intro vs p h;unfold z12.pack at h;split at h<;>cases h
 exact Qg Qd Qe rfl rfl rfl rfl (λg vs p h=>by unfold z12.C at h;simp only at h;split at h;exact z11.sound vs p h;simp at h) ⟨Tryz.func95,rfl,by kernel_rfl⟩ rfl (z12.link _ _ _ _) (by intro v r h;unfold z12.dec at h;split at h<;>cases h;exact ⟨rfl,rfl⟩)
theorem z13.sound:Sn z13.pack 234:=by
 intro vs p h;unfold z13.pack at h;split at h<;>cases h
 exact Qg Qd Qe rfl rfl rfl rfl (λg vs p h=>by simp [z13.C] at h) ⟨Tryz.func234,rfl,by kernel_rfl⟩ rfl (z13.link _ _) (by intro v r h;unfold z13.dec at h;split at h<;>cases h;exact ⟨rfl,rfl⟩)
theorem z14.l0b6_sound (hI:InlOK Tryz.prog z14.C λR=>z14.C.inlK 6):Qh z14.C 6 235 0 0 (Qf 0 (ifun Tryz.f235).body) z14.l0b6sh z14.l0b6pack:=by
 refine Qi λls p h=>?_
 unfold z14.l0b6pack at h;split at h<;>cases h
 rename_i a b c
 exact Qm hI (sh:=z14.l0b6sh) (so:=z14.l0b6sh) (F:=λR rec done x=>z14.l0b6P a rec done x) (enc:=λ(x':Int)=>Qb z14.l0b6sh [.li a,.i x',.li c]) [1] [1] b (by kernel_rfl) (by kernel_rfl) (λx=>by kernel_rfl) (λo=>by kernel_rfl) λR k d x'=>z14.l0b6_link R k d a (x') c
theorem Qvu:Qk (ifun Tryz.f235).body=true:=by kernel_rfl
theorem z14.loopsT (hI:InlOK Tryz.prog z14.C λR=>z14.C.inlK 6):LoopsOK z14.C (λR=>z14.C.inlK 6) 235 0 (ifun Tryz.f235).body:=by
 intro id b hm st p hp
 obtain rfl:=Ql Qvu hm
 unfold z14.C at hp
 simp only at hp
 try split at hp
 all_goals first
  |(simp at hp;done)
  |(exfalso;omega)
  |exact z14.l0b6_sound hI st p hp
theorem z14.sound:Sn z14.pack 235:=by
 intro vs p h;unfold z14.pack at h;split at h<;>cases h
 exact Qo Qd Qe rfl rfl rfl (λg vs p h=>by simp [z14.C] at h) ⟨Tryz.func235,rfl,by kernel_rfl⟩ z14.loopsT rfl (z14.link _) (by intro v r h;unfold z14.dec at h;split at h<;>cases h;exact ⟨rfl,rfl⟩)
theorem z15.l2aa_sound (hI:InlOK Tryz.prog z15.C λR=>z15.C.inlK 6):Qh z15.C 6 208 2 0 (Qf 2 (ifun Tryz.f208).body) z15.l2aash z15.l2aapack:=by
 refine Qi λls p h=>?_
 unfold z15.l2aapack at h;split at h<;>cases h
 rename_i a b c e g j m
 exact Qm hI (sh:=z15.l2aash) (so:=z15.l2aash) (F:=λR rec done x=>z15.l2aaP a b c rec done x) (enc:=λ(x':(Int×Int×(List Int)))=>Qb z15.l2aash [.li a,.li b,.i c,.i x'.1,.i x'.2.1,.li j,.li x'.2.2]) [3,4,6] [3,4,6] (e,g,m) (by kernel_rfl) (by kernel_rfl) (λx=>by kernel_rfl) (λo=>by kernel_rfl) λR k d x'=>z15.l2aa_link R k d a b c (x'.1) (x'.2.1) j (x'.2.2)
theorem z15.l0_sound (hI:InlOK Tryz.prog z15.C λR=>z15.C.inlK 6):Qh z15.C 6 208 0 0 (Qf 0 (ifun Tryz.f208).body) z15.l0sh z15.l0pack:=by
 refine Qi λls p h=>?_
 unfold z15.l0pack at h;split at h<;>cases h
 rename_i a b c e g
 exact Qm hI (sh:=z15.l0sh) (so:=z15.l0sh) (F:=λR rec done x=>z15.l0P a b rec done x) (enc:=λ(x':(Int×(List Int)))=>Qb z15.l0sh [.li a,.li b,.i x'.1,.li e,.li x'.2]) [2,4] [2,4] (c,g) (by kernel_rfl) (by kernel_rfl) (λx=>by kernel_rfl) (λo=>by kernel_rfl) λR k d x'=>z15.l0_link R k d a b (x'.1) e (x'.2)
theorem Qzp:Qk (ifun Tryz.f208).body=true:=by kernel_rfl
theorem z15.loopsT (hI:InlOK Tryz.prog z15.C λR=>z15.C.inlK 6):LoopsOK z15.C (λR=>z15.C.inlK 6) 208 0 (ifun Tryz.f208).body:=by
 intro id b hm st p hp
 obtain rfl:=Ql Qzp hm
 unfold z15.C at hp
 simp only at hp
 try split at hp
 all_goals first
  |(simp at hp;done)
  |(exfalso;omega)
  |exact z15.l2aa_sound hI st p hp
  |exact z15.l0_sound hI st p hp
theorem z15.sound:Sn z15.pack 208:=by
 intro vs p h;unfold z15.pack at h;split at h<;>cases h
 exact Qo Qd Qe rfl rfl rfl (λg vs p h=>by unfold z15.C at h;simp only at h;split at h;exact z13.sound vs p h;exact z14.sound vs p h;simp at h) ⟨Tryz.func208,rfl,by kernel_rfl⟩ z15.loopsT rfl (z15.link _ _) (by intro v r h;unfold z15.dec at h;split at h<;>cases h;exact ⟨rfl,rfl⟩)
theorem z16.sound:Sn z16.pack 131:=by
 intro vs p h;unfold z16.pack at h;split at h<;>cases h
 exact Qg Qd Qe rfl rfl rfl rfl (λg vs p h=>by unfold z16.C at h;simp only at h;split at h;exact z15.sound vs p h;exact z7.sound vs p h;simp at h) ⟨Tryz.func131,rfl,by kernel_rfl⟩ rfl (z16.link _ _ _ _) (by intro v r h;unfold z16.dec at h;split at h<;>cases h;exact ⟨rfl,rfl⟩)
theorem z17.l0_sound (hI:InlOK Tryz.prog z17.C λR=>z17.C.inlK 6):Qh z17.C 6 132 0 0 (Qf 0 (ifun Tryz.f132).body) z17.l0sh z17.l0pack:=by
 refine Qi λls p h=>?_
 unfold z17.l0pack at h;split at h<;>cases h
 rename_i a c e g j
 exact Qm hI (sh:=z17.l0sh) (so:=z17.l0sh) (F:=λR rec done x=>z17.l0P j rec done x) (enc:=λ(x':((List UInt8)))=>Qb z17.l0sh [.s a,.s x',.li e,.b g,.i j]) [1] [1] c (by kernel_rfl) (by kernel_rfl) (λx=>by kernel_rfl) (λo=>by kernel_rfl) λR k d x'=>z17.l0_link R k d a (x') e g j
theorem Q35:Qk (ifun Tryz.f132).body=true:=by kernel_rfl
theorem z17.loopsT (hI:InlOK Tryz.prog z17.C λR=>z17.C.inlK 6):LoopsOK z17.C (λR=>z17.C.inlK 6) 132 0 (ifun Tryz.f132).body:=by
 intro id b hm st p hp
 obtain rfl:=Ql Q35 hm
 unfold z17.C at hp
 simp only at hp
 try split at hp
 all_goals first
  |(simp at hp;done)
  |(exfalso;omega)
  |exact z17.l0_sound hI st p hp
theorem z17.sound:Sn z17.pack 132:=by
 intro vs p h;unfold z17.pack at h;split at h<;>cases h
 exact Qo Qd Qe rfl rfl rfl (λg vs p h=>by unfold z17.C at h;simp only at h;split at h;exact z5.sound vs p h;simp at h) ⟨Tryz.func132,rfl,by kernel_rfl⟩ z17.loopsT rfl (z17.link _ _ _) (by intro v r h;unfold z17.dec at h;split at h<;>cases h;exact ⟨rfl,rfl⟩)
theorem z18.sound:Sn z18.pack 43:=by
 intro vs p h;unfold z18.pack at h;split at h<;>cases h
 exact Qg Qd Qe rfl rfl rfl rfl (λg vs p h=>by unfold z18.C at h;simp only at h;split at h;exact z12.sound vs p h;exact z9.sound vs p h;exact z16.sound vs p h;exact z6.sound vs p h;exact z17.sound vs p h;simp at h) ⟨Tryz.func43,rfl,by kernel_rfl⟩ rfl (z18.link _ _ _ _ _ _ _ _ _ _ _ _ _) (by intro v r h;unfold z18.dec at h;split at h<;>cases h;exact ⟨rfl,rfl⟩)
theorem z77.sound:Sn z77.pack 137:=by
 intro vs p h;unfold z77.pack at h;split at h<;>cases h
 exact Qg Qd Qe rfl rfl rfl rfl (λg vs p h=>by simp [z77.C] at h) ⟨Tryz.func137,rfl,by kernel_rfl⟩ rfl z77.link (by intro v r h;unfold z77.dec at h;split at h<;>cases h;exact ⟨rfl,rfl⟩)
theorem z78.sound:Sn z78.pack 47:=by
 intro vs p h;unfold z78.pack at h;split at h<;>cases h
 exact Qg Qd Qe rfl rfl rfl rfl (λg vs p h=>by unfold z78.C at h;simp only at h;split at h;exact z77.sound vs p h;simp at h) ⟨Tryz.func47,rfl,by kernel_rfl⟩ rfl (z78.link _) (by intro v r h;unfold z78.dec at h;split at h<;>cases h;exact ⟨rfl,rfl⟩)
theorem z85.sound:Sn z85.pack 133:=by
 intro vs p h;unfold z85.pack at h;split at h<;>cases h
 exact Qg Qd Qe rfl rfl rfl rfl (λg vs p h=>by unfold z85.C at h;simp only at h;split at h;exact z78.sound vs p h;exact z84.sound vs p h;exact z81.sound vs p h;simp at h) ⟨Tryz.func133,rfl,by kernel_rfl⟩ rfl (z85.link _ _ _ _ _ _ _ _ _ _) (by intro v r h;unfold z85.dec at h;split at h<;>cases h;exact ⟨rfl,rfl⟩)
theorem z90.sound:Sn z90.pack 134:=by
 intro vs p h;unfold z90.pack at h;split at h<;>cases h
 exact Qg Qd Qe rfl rfl rfl rfl (λg vs p h=>by unfold z90.C at h;simp only at h;split at h;exact z89.sound vs p h;exact z88.sound vs p h;simp at h) ⟨Tryz.func134,rfl,by kernel_rfl⟩ rfl (z90.link _ _ _ _) (by intro v r h;unfold z90.dec at h;split at h<;>cases h;exact ⟨rfl,rfl⟩)
theorem z91.sound:Sn z91.pack 44:=by
 intro vs p h;unfold z91.pack at h;split at h<;>cases h
 exact Qg Qd Qe rfl rfl rfl rfl (λg vs p h=>by unfold z91.C at h;simp only at h;split at h;exact z46.sound vs p h;exact z20.sound vs p h;exact z76.sound vs p h;exact z85.sound vs p h;exact z90.sound vs p h;simp at h) ⟨Tryz.func44,rfl,by kernel_rfl⟩ rfl (z91.link _ _ _ _ _ _ _ _ _ _) (by intro v r h;unfold z91.dec at h;split at h<;>cases h;exact ⟨rfl,rfl⟩)
theorem z101.l2_sound (hI:InlOK Tryz.prog z101.C λR=>z101.C.inlK 6):Qh z101.C 6 192 2 0 (Qf 2 (ifun Tryz.f192).body) z101.l2sh z101.l2pack:=by
 refine Qi λls p h=>?_
 unfold z101.l2pack at h;split at h<;>cases h
 rename_i a b c e g j
 exact Qm hI (sh:=z101.l2sh) (so:=z101.l2sh) (F:=λR rec done x=>z101.l2P a b rec done x) (enc:=λ(x':(Int×Int))=>Qb z101.l2sh [.s a,.i b,.i x'.1,.i x'.2,.li g,.li j]) [2,3] [2,3] (c,e) (by kernel_rfl) (by kernel_rfl) (λx=>by kernel_rfl) (λo=>by kernel_rfl) λR k d x'=>z101.l2_link R k d a b (x'.1) (x'.2) g j
theorem z101.l0_sound (hI:InlOK Tryz.prog z101.C λR=>z101.C.inlK 6):Qh z101.C 6 192 0 0 (Qf 0 (ifun Tryz.f192).body) z101.l0sh z101.l0pack:=by
 refine Qi λls p h=>?_
 unfold z101.l0pack at h;split at h<;>cases h
 rename_i a b c e
 exact Qm hI (sh:=z101.l0sh) (so:=z101.l0sh) (F:=λR rec done x=>z101.l0P a rec done x) (enc:=λ(x':(Int×(List Int)))=>Qb z101.l0sh [.s a,.i x'.1,.li c,.li x'.2]) [1,3] [1,3] (b,e) (by kernel_rfl) (by kernel_rfl) (λx=>by kernel_rfl) (λo=>by kernel_rfl) λR k d x'=>z101.l0_link R k d a (x'.1) c (x'.2)
theorem Qyj:Qk (ifun Tryz.f192).body=true:=by kernel_rfl
theorem z101.loopsT (hI:InlOK Tryz.prog z101.C λR=>z101.C.inlK 6):LoopsOK z101.C (λR=>z101.C.inlK 6) 192 0 (ifun Tryz.f192).body:=by
 intro id b hm st p hp
 obtain rfl:=Ql Qyj hm
 unfold z101.C at hp
 simp only at hp
 try split at hp
 all_goals first
  |(simp at hp;done)
  |(exfalso;omega)
  |exact z101.l2_sound hI st p hp
  |exact z101.l0_sound hI st p hp
theorem z101.sound:Sn z101.pack 192:=by
 intro vs p h;unfold z101.pack at h;split at h<;>cases h
 exact Qo Qd Qe rfl rfl rfl (λg vs p h=>by unfold z101.C at h;simp only at h;split at h;exact z14.sound vs p h;simp at h) ⟨Tryz.func192,rfl,by kernel_rfl⟩ z101.loopsT rfl (z101.link _) (by intro v r h;unfold z101.dec at h;split at h<;>cases h;exact ⟨rfl,rfl⟩)
theorem z102.sound:Sn z102.pack 103:=by
 intro vs p h;unfold z102.pack at h;split at h<;>cases h
 exact Qg Qd Qe rfl rfl rfl rfl (λg vs p h=>by unfold z102.C at h;simp only at h;split at h;exact z101.sound vs p h;exact z7.sound vs p h;simp at h) ⟨Tryz.func103,rfl,by kernel_rfl⟩ rfl (z102.link _) (by intro v r h;unfold z102.dec at h;split at h<;>cases h;exact ⟨rfl,rfl⟩)
theorem z103.l0b4_sound (hI:InlOK Tryz.prog z103.C λR=>z103.C.inlK 6):Qh z103.C 6 196 0 0 (Qf 0 (ifun Tryz.f196).body) z103.l0b4sh z103.l0b4pack:=by
 refine Qi λls p h=>?_
 unfold z103.l0b4pack at h;split at h<;>cases h
 rename_i a c e
 exact Q4 hI (sh:=z103.l0b4sh) (so:=z103.l0b4sh) (so':=z103.l0b4so1) (F:=λR rec done x=>z103.l0b4P a rec done x) (enc:=λ(x':Int)=>Qb z103.l0b4sh [.s a,.b c,.i x']) (.exit 0) [2] [2] [0] e (by kernel_rfl) (by kernel_rfl) (λx=>by kernel_rfl) (λo=>by kernel_rfl) (λo=>by kernel_rfl) λR k d x'=>z103.l0b4_link R k d a c (x')
theorem Qui:Qk (ifun Tryz.f196).body=true:=by kernel_rfl
theorem z103.loopsT (hI:InlOK Tryz.prog z103.C λR=>z103.C.inlK 6):LoopsOK z103.C (λR=>z103.C.inlK 6) 196 0 (ifun Tryz.f196).body:=by
 intro id b hm st p hp
 obtain rfl:=Ql Qui hm
 unfold z103.C at hp
 simp only at hp
 try split at hp
 all_goals first
  |(simp at hp;done)
  |(exfalso;omega)
  |exact z103.l0b4_sound hI st p hp
theorem z103.sound:Sn z103.pack 196:=by
 intro vs p h;unfold z103.pack at h;split at h<;>cases h
 exact Qo Qd Qe rfl rfl rfl (λg vs p h=>by simp [z103.C] at h) ⟨Tryz.func196,rfl,by kernel_rfl⟩ z103.loopsT rfl (z103.link _) (by intro v r h;unfold z103.dec at h;split at h<;>cases h;exact ⟨rfl,rfl⟩)
theorem z104.sound:Sn z104.pack 115:=by
 intro vs p h;unfold z104.pack at h;split at h<;>cases h
 exact Qg Qd Qe rfl rfl rfl rfl (λg vs p h=>by unfold z104.C at h;simp only at h;split at h;exact z9.sound vs p h;exact z103.sound vs p h;exact z102.sound vs p h;simp at h) ⟨Tryz.func115,rfl,by kernel_rfl⟩ rfl (z104.link _) (by intro v r h;unfold z104.dec at h;split at h<;>cases h;exact ⟨rfl,rfl⟩)
theorem z105.l0_sound (hI:InlOK Tryz.prog z105.C λR=>z105.C.inlK 6):Qh z105.C 6 116 0 0 (Qf 0 (ifun Tryz.f116).body) z105.l0sh z105.l0pack:=by
 refine Qi λls p h=>?_
 unfold z105.l0pack at h;split at h<;>cases h
 rename_i a b c e
 exact Qm hI (sh:=z105.l0sh) (so:=z105.l0sh) (F:=λR rec done x=>z105.l0P a rec done x) (enc:=λ(x':((List UInt8)×Int))=>Qb z105.l0sh [.i a,.s x'.1,.i x'.2,.li e]) [1,2] [1,2] (b,c) (by kernel_rfl) (by kernel_rfl) (λx=>by kernel_rfl) (λo=>by kernel_rfl) λR k d x'=>z105.l0_link R k d a (x'.1) (x'.2) e
theorem Qu7:Qk (ifun Tryz.f116).body=true:=by kernel_rfl
theorem z105.loopsT (hI:InlOK Tryz.prog z105.C λR=>z105.C.inlK 6):LoopsOK z105.C (λR=>z105.C.inlK 6) 116 0 (ifun Tryz.f116).body:=by
 intro id b hm st p hp
 obtain rfl:=Ql Qu7 hm
 unfold z105.C at hp
 simp only at hp
 try split at hp
 all_goals first
  |(simp at hp;done)
  |(exfalso;omega)
  |exact z105.l0_sound hI st p hp
theorem z105.sound:Sn z105.pack 116:=by
 intro vs p h;unfold z105.pack at h;split at h<;>cases h
 exact Qo Qd Qe rfl rfl rfl (λg vs p h=>by unfold z105.C at h;simp only at h;split at h;exact z101.sound vs p h;simp at h) ⟨Tryz.func116,rfl,by kernel_rfl⟩ z105.loopsT rfl (z105.link _) (by intro v r h;unfold z105.dec at h;split at h<;>cases h;exact ⟨rfl,rfl⟩)
theorem z106.sound:Sn z106.pack 35:=by
 intro vs p h;unfold z106.pack at h;split at h<;>cases h
 exact Qg Qd Qe rfl rfl rfl rfl (λg vs p h=>by unfold z106.C at h;simp only at h;split at h;exact z7.sound vs p h;simp at h) ⟨Tryz.func35,rfl,by kernel_rfl⟩ rfl (z106.link _ _) (by intro v r h;unfold z106.dec at h;split at h<;>cases h;exact ⟨rfl,rfl⟩)
theorem z107.l0b6_sound (hI:InlOK Tryz.prog z107.C λR=>z107.C.inlK 6):Qh z107.C 6 170 0 0 (Qf 0 (ifun Tryz.f170).body) z107.l0b6sh z107.l0b6pack:=by
 refine Qi λls p h=>?_
 unfold z107.l0b6pack at h;split at h<;>cases h
 rename_i a b c e g j
 exact Qm hI (sh:=z107.l0b6sh) (so:=z107.l0b6sh) (F:=λR rec done x=>z107.l0b6P a b rec done x) (enc:=λ(x':(Int×Int×(List Int)))=>Qb z107.l0b6sh [.li a,.li b,.i x'.1,.i x'.2.1,.li g,.li x'.2.2]) [2,3,5] [2,3,5] (c,e,j) (by kernel_rfl) (by kernel_rfl) (λx=>by kernel_rfl) (λo=>by kernel_rfl) λR k d x'=>z107.l0b6_link R k d a b (x'.1) (x'.2.1) g (x'.2.2)
theorem Qud:Qk (ifun Tryz.f170).body=true:=by kernel_rfl
theorem z107.loopsT (hI:InlOK Tryz.prog z107.C λR=>z107.C.inlK 6):LoopsOK z107.C (λR=>z107.C.inlK 6) 170 0 (ifun Tryz.f170).body:=by
 intro id b hm st p hp
 obtain rfl:=Ql Qud hm
 unfold z107.C at hp
 simp only at hp
 try split at hp
 all_goals first
  |(simp at hp;done)
  |(exfalso;omega)
  |exact z107.l0b6_sound hI st p hp
theorem z107.sound:Sn z107.pack 170:=by
 intro vs p h;unfold z107.pack at h;split at h<;>cases h
 exact Qo Qd Qe rfl rfl rfl (λg vs p h=>by unfold z107.C at h;simp only at h;split at h;exact z13.sound vs p h;exact z14.sound vs p h;simp at h) ⟨Tryz.func170,rfl,by kernel_rfl⟩ z107.loopsT rfl (z107.link _ _) (by intro v r h;unfold z107.dec at h;split at h<;>cases h;exact ⟨rfl,rfl⟩)
theorem z108.l0_sound (hI:InlOK Tryz.prog z108.C λR=>z108.C.inlK 6):Qh z108.C 6 171 0 0 (Qf 0 (ifun Tryz.f171).body) z108.l0sh z108.l0pack:=by
 refine Qi λls p h=>?_
 unfold z108.l0pack at h;split at h<;>cases h
 rename_i a b c e
 exact Q4 hI (sh:=z108.l0sh) (so:=z108.l0sh) (so':=z108.l0so1) (F:=λR rec done x=>z108.l0P a b rec done x) (enc:=λ(x':Int)=>Qb z108.l0sh [.li a,.li b,.i c,.i x']) (.exit 0) [3] [3] [0] e (by kernel_rfl) (by kernel_rfl) (λx=>by kernel_rfl) (λo=>by kernel_rfl) (λo=>by kernel_rfl) λR k d x'=>z108.l0_link R k d a b c (x')
theorem Q3z:Qk (ifun Tryz.f171).body=true:=by kernel_rfl
theorem z108.loopsT (hI:InlOK Tryz.prog z108.C λR=>z108.C.inlK 6):LoopsOK z108.C (λR=>z108.C.inlK 6) 171 0 (ifun Tryz.f171).body:=by
 intro id b hm st p hp
 obtain rfl:=Ql Q3z hm
 unfold z108.C at hp
 simp only at hp
 try split at hp
 all_goals first
  |(simp at hp;done)
  |(exfalso;omega)
  |exact z108.l0_sound hI st p hp
theorem z108.sound:Sn z108.pack 171:=by
 intro vs p h;unfold z108.pack at h;split at h<;>cases h
 exact Qo Qd Qe rfl rfl rfl (λg vs p h=>by simp [z108.C] at h) ⟨Tryz.func171,rfl,by kernel_rfl⟩ z108.loopsT rfl (z108.link _ _) (by intro v r h;unfold z108.dec at h;split at h<;>cases h;exact ⟨rfl,rfl⟩)
theorem z109.l0_sound (hI:InlOK Tryz.prog z109.C λR=>z109.C.inlK 6):Qh z109.C 6 172 0 0 (Qf 0 (ifun Tryz.f172).body) z109.l0sh z109.l0pack:=by
 refine Qi λls p h=>?_
 unfold z109.l0pack at h;split at h<;>cases h
 rename_i a b c e g j
 exact Qm hI (sh:=z109.l0sh) (so:=z109.l0sh) (F:=λR rec done x=>z109.l0P a b rec done x) (enc:=λ(x':(Int×Int×(List Int)))=>Qb z109.l0sh [.li a,.li b,.i x'.1,.i x'.2.1,.li g,.li x'.2.2]) [2,3,5] [2,3,5] (c,e,j) (by kernel_rfl) (by kernel_rfl) (λx=>by kernel_rfl) (λo=>by kernel_rfl) λR k d x'=>z109.l0_link R k d a b (x'.1) (x'.2.1) g (x'.2.2)
theorem Qxz:Qk (ifun Tryz.f172).body=true:=by kernel_rfl
theorem z109.loopsT (hI:InlOK Tryz.prog z109.C λR=>z109.C.inlK 6):LoopsOK z109.C (λR=>z109.C.inlK 6) 172 0 (ifun Tryz.f172).body:=by
 intro id b hm st p hp
 obtain rfl:=Ql Qxz hm
 unfold z109.C at hp
 simp only at hp
 try split at hp
 all_goals first
  |(simp at hp;done)
  |(exfalso;omega)
  |exact z109.l0_sound hI st p hp
theorem z109.sound:Sn z109.pack 172:=by
 intro vs p h;unfold z109.pack at h;split at h<;>cases h
 exact Qo Qd Qe rfl rfl rfl (λg vs p h=>by unfold z109.C at h;simp only at h;split at h;exact z13.sound vs p h;exact z14.sound vs p h;simp at h) ⟨Tryz.func172,rfl,by kernel_rfl⟩ z109.loopsT rfl (z109.link _ _) (by intro v r h;unfold z109.dec at h;split at h<;>cases h;exact ⟨rfl,rfl⟩)
theorem z110.sound:Sn z110.pack 85:=by
 intro vs p h;unfold z110.pack at h;split at h<;>cases h
 exact Qg Qd Qe rfl rfl rfl rfl (λg vs p h=>by unfold z110.C at h;simp only at h;split at h;exact z107.sound vs p h;exact z7.sound vs p h;exact z108.sound vs p h;exact z109.sound vs p h;simp at h) ⟨Tryz.func85,rfl,by kernel_rfl⟩ rfl (z110.link _ _ _ _) (by intro v r h;unfold z110.dec at h;split at h<;>cases h;exact ⟨rfl,rfl⟩)
theorem z111.sound:Sn z111.pack 63:=by
 intro vs p h;unfold z111.pack at h;split at h<;>cases h
 exact Qg Qd Qe rfl rfl rfl rfl (λg vs p h=>by unfold z111.C at h;simp only at h;split at h;exact z106.sound vs p h;exact z110.sound vs p h;simp at h) ⟨Tryz.func63,rfl,by kernel_rfl⟩ rfl (z111.link _ _ _ _) (by intro v r h;unfold z111.dec at h;split at h<;>cases h;exact ⟨rfl,rfl⟩)
theorem z112.sound:Sn z112.pack 197:=by
 intro vs p h;unfold z112.pack at h;split at h<;>cases h
 exact Qg Qd Qe rfl rfl rfl rfl (λg vs p h=>by simp [z112.C] at h) ⟨Tryz.func197,rfl,by kernel_rfl⟩ rfl (z112.link _ _) (by intro v r h;unfold z112.dec at h;split at h<;>cases h;exact ⟨rfl,rfl⟩)
theorem z113.sound:Sn z113.pack 117:=by
 intro vs p h;unfold z113.pack at h;split at h<;>cases h
 exact Qg Qd Qe rfl rfl rfl rfl (λg vs p h=>by unfold z113.C at h;simp only at h;split at h;exact z111.sound vs p h;exact z112.sound vs p h;simp at h) ⟨Tryz.func117,rfl,by kernel_rfl⟩ rfl (z113.link _ _ _ _) (by intro v r h;unfold z113.dec at h;split at h<;>cases h;exact ⟨rfl,rfl⟩)
theorem z114.sound:Sn z114.pack 37:=by
 intro vs p h;unfold z114.pack at h;split at h<;>cases h
 exact Qg Qd Qe rfl rfl rfl rfl (λg vs p h=>by unfold z114.C at h;simp only at h;split at h;exact z9.sound vs p h;exact z104.sound vs p h;exact z105.sound vs p h;exact z7.sound vs p h;exact z113.sound vs p h;simp at h) ⟨Tryz.func37,rfl,by kernel_rfl⟩ rfl (z114.link _) (by intro v r h;unfold z114.dec at h;split at h<;>cases h;exact ⟨rfl,rfl⟩)
theorem z115.l2_sound (hI:InlOK Tryz.prog z115.C λR=>z115.C.inlK 6):Qh z115.C 6 221 2 0 (Qf 2 (ifun Tryz.f221).body) z115.l2sh z115.l2pack:=by
 refine Qi λls p h=>?_
 unfold z115.l2pack at h;split at h<;>cases h
 rename_i a b c e g j m n q
 exact Qm hI (sh:=z115.l2sh) (so:=z115.l2sh) (F:=λR rec done x=>z115.l2P b c rec done x) (enc:=λ(x':(Int×Int))=>Qb z115.l2sh [.li a,.li b,.li c,.i e,.i x'.1,.i x'.2,.li m,.li n,.li q]) [4,5] [4,5] (g,j) (by kernel_rfl) (by kernel_rfl) (λx=>by kernel_rfl) (λo=>by kernel_rfl) λR k d x'=>z115.l2_link R k d a b c e (x'.1) (x'.2) m n q
theorem z115.l0a_sound (hI:InlOK Tryz.prog z115.C λR=>z115.C.inlK 6):Qh z115.C 6 221 0 0 (Qf 0 (ifun Tryz.f221).body) z115.l0ash z115.l0apack:=by
 refine Qi λls p h=>?_
 unfold z115.l0apack at h;split at h<;>cases h
 rename_i a b c e g j m
 exact Qm hI (sh:=z115.l0ash) (so:=z115.l0ash) (F:=λR rec done x=>z115.l0aP a b rec done x) (enc:=λ(x':((List Int)×Int×(List Int)))=>Qb z115.l0ash [.li a,.li b,.li x'.1,.i x'.2.1,.li g,.li j,.li x'.2.2]) [2,3,6] [2,3,6] (c,e,m) (by kernel_rfl) (by kernel_rfl) (λx=>by kernel_rfl) (λo=>by kernel_rfl) λR k d x'=>z115.l0a_link R k d a b (x'.1) (x'.2.1) g j (x'.2.2)
theorem Qzz:Qk (ifun Tryz.f221).body=true:=by kernel_rfl
theorem z115.loopsT (hI:InlOK Tryz.prog z115.C λR=>z115.C.inlK 6):LoopsOK z115.C (λR=>z115.C.inlK 6) 221 0 (ifun Tryz.f221).body:=by
 intro id b hm st p hp
 obtain rfl:=Ql Qzz hm
 unfold z115.C at hp
 simp only at hp
 try split at hp
 all_goals first
  |(simp at hp;done)
  |(exfalso;omega)
  |exact z115.l2_sound hI st p hp
  |exact z115.l0a_sound hI st p hp
theorem z115.sound:Sn z115.pack 221:=by
 intro vs p h;unfold z115.pack at h;split at h<;>cases h
 exact Qo Qd Qe rfl rfl rfl (λg vs p h=>by unfold z115.C at h;simp only at h;split at h;exact z14.sound vs p h;exact z8.sound vs p h;exact z15.sound vs p h;exact z108.sound vs p h;exact z109.sound vs p h;simp at h) ⟨Tryz.func221,rfl,by kernel_rfl⟩ z115.loopsT rfl (z115.link _ _) (by intro v r h;unfold z115.dec at h;split at h<;>cases h;exact ⟨rfl,rfl⟩)
theorem z116.l0_sound (hI:InlOK Tryz.prog z116.C λR=>z116.C.inlK 6):Qh z116.C 6 256 0 0 (Qf 0 (ifun Tryz.f256).body) z116.l0sh z116.l0pack:=by
 refine Qi λls p h=>?_
 unfold z116.l0pack at h;split at h<;>cases h
 rename_i a b c
 exact Qm hI (sh:=z116.l0sh) (so:=z116.l0sh) (F:=λR rec done x=>z116.l0P rec done x) (enc:=λ(x':((List Int)×(List Int)))=>Qb z116.l0sh [.li x'.1,.li x'.2,.li c]) [0,1] [0,1] (a,b) (by kernel_rfl) (by kernel_rfl) (λx=>by kernel_rfl) (λo=>by kernel_rfl) λR k d x'=>z116.l0_link R k d (x'.1) (x'.2) c
theorem Qtq:Qk (ifun Tryz.f256).body=true:=by kernel_rfl
theorem z116.loopsT (hI:InlOK Tryz.prog z116.C λR=>z116.C.inlK 6):LoopsOK z116.C (λR=>z116.C.inlK 6) 256 0 (ifun Tryz.f256).body:=by
 intro id b hm st p hp
 obtain rfl:=Ql Qtq hm
 unfold z116.C at hp
 simp only at hp
 try split at hp
 all_goals first
  |(simp at hp;done)
  |(exfalso;omega)
  |exact z116.l0_sound hI st p hp
theorem z116.sound:Sn z116.pack 256:=by
 intro vs p h;unfold z116.pack at h;split at h<;>cases h
 exact Qo Qd Qe rfl rfl rfl (λg vs p h=>by unfold z116.C at h;simp only at h;split at h;exact z115.sound vs p h;simp at h) ⟨Tryz.func256,rfl,by kernel_rfl⟩ z116.loopsT rfl (z116.link _ _) (by intro v r h;unfold z116.dec at h;split at h<;>cases h;exact ⟨rfl,rfl⟩)
theorem z117.sound:Sn z117.pack 206:=by
 intro vs p h;unfold z117.pack at h;split at h<;>cases h
 exact Qg Qd Qe rfl rfl rfl rfl (λg vs p h=>by unfold z117.C at h;simp only at h;split at h;exact z116.sound vs p h;exact z115.sound vs p h;exact z7.sound vs p h;simp at h) ⟨Tryz.func206,rfl,by kernel_rfl⟩ rfl (z117.link _ _ _) (by intro v r h;unfold z117.dec at h;split at h<;>cases h;exact ⟨rfl,rfl⟩)
theorem z118.sound:Sn z118.pack 205:=by
 intro vs p h;unfold z118.pack at h;split at h<;>cases h
 exact Qg Qd Qe rfl rfl rfl rfl (λg vs p h=>by unfold z118.C at h;simp only at h;split at h;exact z106.sound vs p h;exact z117.sound vs p h;simp at h) ⟨Tryz.func205,rfl,by kernel_rfl⟩ rfl (z118.link _ _ _ _) (by intro v r h;unfold z118.dec at h;split at h<;>cases h;exact ⟨rfl,rfl⟩)
theorem z119.sound:Sn z119.pack 125:=by
 intro vs p h;unfold z119.pack at h;split at h<;>cases h
 exact Qg Qd Qe rfl rfl rfl rfl (λg vs p h=>by unfold z119.C at h;simp only at h;split at h;exact z9.sound vs p h;exact z118.sound vs p h;simp at h) ⟨Tryz.func125,rfl,by kernel_rfl⟩ rfl (z119.link _ _) (by intro v r h;unfold z119.dec at h;split at h<;>cases h;exact ⟨rfl,rfl⟩)
theorem z120.l0b10_sound (hI:InlOK Tryz.prog z120.C λR=>z120.C.inlK 6):Qh z120.C 6 126 0 0 (Qf 0 (ifun Tryz.f126).body) z120.l0b10sh z120.l0b10pack:=by
 refine Qi λls p h=>?_
 unfold z120.l0b10pack at h;split at h<;>cases h
 rename_i a c e g j m n q r t u v w y
 exact Q4 hI (sh:=z120.l0b10sh) (so:=z120.l0b10sh) (so':=z120.l0b10so1) (F:=λR rec done x=>z120.l0b10P a rec done x) (enc:=λ(x':(Int×(List UInt8)×Int×Int×Bool))=>Qb z120.l0b10sh [.s a,.i c,.b e,.i x'.1,.s x'.2.1,.i x'.2.2.1,.i x'.2.2.2.1,.b x'.2.2.2.2,.li r,.b t,.i u,.li v,.b w,.i y]) (.exit 0) [3,4,5,6,7] [3,4,5,6,7] [0] (g,j,m,n,q) (by kernel_rfl) (by kernel_rfl) (λx=>by kernel_rfl) (λo=>by kernel_rfl) (λo=>by kernel_rfl) λR k d x'=>z120.l0b10_link R k d a c e (x'.1) (x'.2.1) (x'.2.2.1) (x'.2.2.2.1) (x'.2.2.2.2) r t u v w y
theorem Q0l:Qk (ifun Tryz.f126).body=true:=by kernel_rfl
theorem z120.loopsT (hI:InlOK Tryz.prog z120.C λR=>z120.C.inlK 6):LoopsOK z120.C (λR=>z120.C.inlK 6) 126 0 (ifun Tryz.f126).body:=by
 intro id b hm st p hp
 obtain rfl:=Ql Q0l hm
 unfold z120.C at hp
 simp only at hp
 try split at hp
 all_goals first
  |(simp at hp;done)
  |(exfalso;omega)
  |exact z120.l0b10_sound hI st p hp
theorem z120.sound:Sn z120.pack 126:=by
 intro vs p h;unfold z120.pack at h;split at h<;>cases h
 exact Qo Qd Qe rfl rfl rfl (λg vs p h=>by unfold z120.C at h;simp only at h;split at h;exact z101.sound vs p h;exact z7.sound vs p h;simp at h) ⟨Tryz.func126,rfl,by kernel_rfl⟩ z120.loopsT rfl (z120.link _) (by intro v r h;unfold z120.dec at h;split at h<;>cases h;exact ⟨rfl,rfl⟩)
theorem z121.sound:Sn z121.pack 127:=by
 intro vs p h;unfold z121.pack at h;split at h<;>cases h
 exact Qg Qd Qe rfl rfl rfl rfl (λg vs p h=>by unfold z121.C at h;simp only at h;split at h;exact z105.sound vs p h;exact z117.sound vs p h;simp at h) ⟨Tryz.func127,rfl,by kernel_rfl⟩ rfl (z121.link _ _ _) (by intro v r h;unfold z121.dec at h;split at h<;>cases h;exact ⟨rfl,rfl⟩)
theorem z122.sound:Sn z122.pack 207:=by
 intro vs p h;unfold z122.pack at h;split at h<;>cases h
 exact Qg Qd Qe rfl rfl rfl rfl (λg vs p h=>by unfold z122.C at h;simp only at h;split at h;exact z7.sound vs p h;exact z16.sound vs p h;simp at h) ⟨Tryz.func207,rfl,by kernel_rfl⟩ rfl (z122.link _ _ _ _ _ _) (by intro v r h;unfold z122.dec at h;split at h<;>cases h;exact ⟨rfl,rfl⟩)
theorem z123.sound:Sn z123.pack 128:=by
 intro vs p h;unfold z123.pack at h;split at h<;>cases h
 exact Qg Qd Qe rfl rfl rfl rfl (λg vs p h=>by unfold z123.C at h;simp only at h;split at h;exact z122.sound vs p h;exact z113.sound vs p h;simp at h) ⟨Tryz.func128,rfl,by kernel_rfl⟩ rfl (z123.link _ _ _ _ _ _) (by intro v r h;unfold z123.dec at h;split at h<;>cases h;exact ⟨rfl,rfl⟩)
theorem z124.sound:Sn z124.pack 129:=by
 intro vs p h;unfold z124.pack at h;split at h<;>cases h
 exact Qg Qd Qe rfl rfl rfl rfl (λg vs p h=>by unfold z124.C at h;simp only at h;split at h;exact z122.sound vs p h;exact z7.sound vs p h;exact z16.sound vs p h;exact z118.sound vs p h;simp at h) ⟨Tryz.func129,rfl,by kernel_rfl⟩ rfl (z124.link _ _ _ _ _ _) (by intro v r h;unfold z124.dec at h;split at h<;>cases h;exact ⟨rfl,rfl⟩)
theorem z125.sound:Sn z125.pack 39:=by
 intro vs p h;unfold z125.pack at h;split at h<;>cases h
 exact Qg Qd Qe rfl rfl rfl rfl (λg vs p h=>by unfold z125.C at h;simp only at h;split at h;exact z119.sound vs p h;exact z120.sound vs p h;exact z121.sound vs p h;exact z123.sound vs p h;exact z124.sound vs p h;simp at h) ⟨Tryz.func39,rfl,by kernel_rfl⟩ rfl (z125.link _) (by intro v r h;unfold z125.dec at h;split at h<;>cases h;exact ⟨rfl,rfl⟩)
theorem z126.sound:Sn z126.pack 80:=by
 intro vs p h;unfold z126.pack at h;split at h<;>cases h
 exact Qg Qd Qe rfl rfl rfl rfl (λg vs p h=>by unfold z126.C at h;simp only at h;split at h;exact z11.sound vs p h;simp at h) ⟨Tryz.func80,rfl,by kernel_rfl⟩ rfl (z126.link _ _ _) (by intro v r h;unfold z126.dec at h;split at h<;>cases h;exact ⟨rfl,rfl⟩)
theorem z127.l0_sound (hI:InlOK Tryz.prog z127.C λR=>z127.C.inlK 6):Qh z127.C 6 135 0 0 (Qf 0 (ifun Tryz.f135).body) z127.l0sh z127.l0pack:=by
 refine Qi λls p h=>?_
 unfold z127.l0pack at h;split at h<;>cases h
 rename_i a c e g j m n q r
 exact Qm hI (sh:=z127.l0sh) (so:=z127.l0sh) (F:=λR rec done x=>z127.l0P rec done x) (enc:=λ(x':(Int×Int))=>Qb z127.l0sh [.b a,.i x'.1,.i x'.2,.i g,.i j,.i m,.i n,.i q,.i r]) [1,2] [1,2] (c,e) (by kernel_rfl) (by kernel_rfl) (λx=>by kernel_rfl) (λo=>by kernel_rfl) λR k d x'=>z127.l0_link R k d a (x'.1) (x'.2) g j m n q r
theorem z127.l2_sound (hI:InlOK Tryz.prog z127.C λR=>z127.C.inlK 6):Qh z127.C 6 135 2 0 (Qf 2 (ifun Tryz.f135).body) z127.l2sh z127.l2pack:=by
 refine Qi λls p h=>?_
 unfold z127.l2pack at h;split at h<;>cases h
 rename_i a c e g j m n q r
 exact Qm hI (sh:=z127.l2sh) (so:=z127.l2sh) (F:=λR rec done x=>z127.l2P rec done x) (enc:=λ(x':(Int×Int))=>Qb z127.l2sh [.b a,.i x'.1,.i x'.2,.i g,.i j,.i m,.i n,.i q,.i r]) [1,2] [1,2] (c,e) (by kernel_rfl) (by kernel_rfl) (λx=>by kernel_rfl) (λo=>by kernel_rfl) λR k d x'=>z127.l2_link R k d a (x'.1) (x'.2) g j m n q r
theorem Qv3:Qk (ifun Tryz.f135).body=true:=by kernel_rfl
theorem z127.loopsT (hI:InlOK Tryz.prog z127.C λR=>z127.C.inlK 6):LoopsOK z127.C (λR=>z127.C.inlK 6) 135 0 (ifun Tryz.f135).body:=by
 intro id b hm st p hp
 obtain rfl:=Ql Qv3 hm
 unfold z127.C at hp
 simp only at hp
 try split at hp
 all_goals first
  |(simp at hp;done)
  |(exfalso;omega)
  |exact z127.l0_sound hI st p hp
  |exact z127.l2_sound hI st p hp
theorem z127.sound:Sn z127.pack 135:=by
 intro vs p h;unfold z127.pack at h;split at h<;>cases h
 exact Qo Qd Qe rfl rfl rfl (λg vs p h=>by unfold z127.C at h;simp only at h;split at h;exact z11.sound vs p h;simp at h) ⟨Tryz.func135,rfl,by kernel_rfl⟩ z127.loopsT rfl (z127.link _ _ _ _) (by intro v r h;unfold z127.dec at h;split at h<;>cases h;exact ⟨rfl,rfl⟩)
theorem z128.sound:Sn z128.pack 45:=by
 intro vs p h;unfold z128.pack at h;split at h<;>cases h
 exact Qg Qd Qe rfl rfl rfl rfl (λg vs p h=>by unfold z128.C at h;simp only at h;split at h;exact z114.sound vs p h;exact z125.sound vs p h;exact z126.sound vs p h;exact z127.sound vs p h;simp at h) ⟨Tryz.func45,rfl,by kernel_rfl⟩ rfl (z128.link _ _ _ _ _ _ _ _ _ _) (by intro v r h;unfold z128.dec at h;split at h<;>cases h;exact ⟨rfl,rfl⟩)
theorem z136.sound:Sn z136.pack 41:=by
 intro vs p h;unfold z136.pack at h;split at h<;>cases h
 exact Qg Qd Qe rfl rfl rfl rfl (λg vs p h=>by unfold z136.C at h;simp only at h;split at h;exact z19.sound vs p h;exact z135.sound vs p h;exact z73.sound vs p h;exact z134.sound vs p h;simp at h) ⟨Tryz.func41,rfl,by kernel_rfl⟩ rfl (z136.link _ _ _) (by intro v r h;unfold z136.dec at h;split at h<;>cases h;exact ⟨rfl,rfl⟩)
theorem z137.l0_sound (hI:InlOK Tryz.prog z137.C λR=>z137.C.inlK 6):Qh z137.C 6 136 0 0 (Qf 0 (ifun Tryz.f136).body) z137.l0sh z137.l0pack:=by
 refine Qi λls p h=>?_
 unfold z137.l0pack at h;split at h<;>cases h
 rename_i a b c e g
 exact Q4 hI (sh:=z137.l0sh) (so:=z137.l0sh) (so':=z137.l0so1) (F:=λR rec done x=>z137.l0P a b e rec done x) (enc:=λ(x':Int)=>Qb z137.l0sh [.ls a,.s b,.i c,.i e,.i x']) (.exit 0) [4] [4] [0] g (by kernel_rfl) (by kernel_rfl) (λx=>by kernel_rfl) (λo=>by kernel_rfl) (λo=>by kernel_rfl) λR k d x'=>z137.l0_link R k d a b c e (x')
theorem Q1v:Qk (ifun Tryz.f136).body=true:=by kernel_rfl
theorem z137.loopsT (hI:InlOK Tryz.prog z137.C λR=>z137.C.inlK 6):LoopsOK z137.C (λR=>z137.C.inlK 6) 136 0 (ifun Tryz.f136).body:=by
 intro id b hm st p hp
 obtain rfl:=Ql Q1v hm
 unfold z137.C at hp
 simp only at hp
 try split at hp
 all_goals first
  |(simp at hp;done)
  |(exfalso;omega)
  |exact z137.l0_sound hI st p hp
theorem z137.sound:Sn z137.pack 136:=by
 intro vs p h;unfold z137.pack at h;split at h<;>cases h
 exact Qo Qd Qe rfl rfl rfl (λg vs p h=>by simp [z137.C] at h) ⟨Tryz.func136,rfl,by kernel_rfl⟩ z137.loopsT rfl (z137.link _ _) (by intro v r h;unfold z137.dec at h;split at h<;>cases h;exact ⟨rfl,rfl⟩)
theorem z138.sound:Sn z138.pack 46:=by
 intro vs p h;unfold z138.pack at h;split at h<;>cases h
 exact Qg Qd Qe rfl rfl rfl rfl (λg vs p h=>by unfold z138.C at h;simp only at h;split at h;exact z77.sound vs p h;exact z137.sound vs p h;simp at h) ⟨Tryz.func46,rfl,by kernel_rfl⟩ rfl (z138.link _) (by intro v r h;unfold z138.dec at h;split at h<;>cases h;exact ⟨rfl,rfl⟩)
theorem z139.sound:Sn z139.pack 40:=by
 intro vs p h;unfold z139.pack at h;split at h<;>cases h
 exact Qg Qd Qe rfl rfl rfl rfl (λg vs p h=>by unfold z139.C at h;simp only at h;split at h;exact z76.sound vs p h;exact z46.sound vs p h;exact z138.sound vs p h;exact z136.sound vs p h;exact z91.sound vs p h;simp at h) ⟨Tryz.func40,rfl,by kernel_rfl⟩ rfl z139.link (by intro v r h;unfold z139.dec at h;split at h<;>cases h;exact ⟨rfl,rfl⟩)
theorem fun6:FunOK Tryz.prog 6 Tryz.f6 (ifun Tryz.f6).body:=⟨Tryz.func6,rfl,by kernel_rfl⟩
theorem z141.sound:Sn z141.pack 6:=by
 intro vs p h;unfold z141.pack at h;split at h<;>cases h
 exact Qg Qd Qe rfl rfl rfl rfl (λg vs p h=>by unfold z141.C at h;simp only at h;split at h;exact z18.sound vs p h;exact z139.sound vs p h;exact z91.sound vs p h;exact z128.sound vs p h;simp at h) fun6 rfl (z141.link _ _ _ _ _ _ _ _ _ _ _ _ _ _ _ _ _ _ _ _ _ _ _ _) (by intro v r h;unfold z141.dec at h;split at h<;>cases h;exact ⟨rfl,rfl⟩)
end
end Go.Proofs.YtgjncgiekniniaaGreatDoor.A
end
section
namespace Go.Proofs.YtgjncgiekniniaaGreatDoor.A
open Go Go.RowKit Go.ChangeShapes Go.WideShapes
noncomputable section
inductive SC where
 |b
 |i (k:IntKind)
 |s
inductive CT where
 |sc (c:SC)
 |sl (cs:List SC)
def scOf:CT->Option SC
 |.sc c=>some c
 |_=>none
def Q4n:List CT->Option (List SC)
 |[]=>some []
 |c::l=>(scOf c).bind λx=>(Q4n l).map (x :: ·)
def okS:SC->V->Prop
 |.b,v=>∃x,v=.bool x
 |.i k,v=>∃n,v=.int k n/\(Lit.int k n).wf=true
 |.s,v=>∃l,v=.str l/\l.length<=maxLen
def okSL:List SC->List V->Prop
 |[],vs=>vs=[]
 |c::cs,vs=>∃v l,vs=v::l/\okS c v/\okSL cs l
def okC:CT->V->Prop
 |.sc c,v=>okS c v
 |.sl [.i k],v=>∃l,v=.ints false k l/\(∀n∈l,(Lit.int k n).wf=true)/\l.length<=maxLen
 |.sl [.s],v=>∃l,v=.strs false l/\(∀s∈l,s.length<=maxLen)/\l.length<=maxLen
 |.sl cs,v=>∃l,v=.recs false cs.length l/\(∀r∈l,okSL cs r)/\l.length<=maxLen
def okCL:List CT->List V->Prop
 |[],vs=>vs=[]
 |c::cs,vs=>∃v l,vs=v::l/\okC c v/\okCL cs l
def ctsF (P:Program) (rec:TypeId->Option (List CT)):Nat->List Field->Option (List CT)
 |_,[]=>some []
 |off,f::fs=>if f.offset=off then (rec f.type).bind λl=>if P.cellsOf f.type=l.length then (ctsF P rec (off+l.length) fs).map (l ++ ·) else none else none
def ctsA (l:List CT):Nat->List CT
 |0=>[]
 |n+1=>l++ctsA l n
def cts (P:Program):Nat->TypeId->Option (List CT)
 |0,_=>none
 |
  n+1,t=>
  match P.underlying t with
  |some .bool=>some [.sc .b]
  |some (.int k)=>some [.sc (.i k)]
  |some .string=>some [.sc .s]
  |some (.struct fs)=>(ctsF P (cts P n) 0 fs.toList).bind λl=>if P.cellsOf t=l.length then some l else none
  |some (.array m e)=>(cts P n e).bind λl=>if P.cellsOf e=l.length/\P.cellsOf t=m*l.length then some (ctsA l m) else none
  |some (.slice e)=>(cts P n e).bind λl=>(Q4n l).bind λcs=>if P.cellsOf e=cs.length/\0<cs.length then some [.sl cs] else none
  |_=>none
abbrev noO:Nat->Prop:=λ_=>False
def Q4s (W:World) (c:CT) (cv:Value) (v:V):Prop:=okC c v/\Rep0 noO W cv v/\cv.oneCell'=true
def Q4i (W:World) (l:List CT) (cs:List Value) (vs:List V):Prop:=
 cs.length=l.length/\vs.length=l.length/\∀(j:Nat) (c:CT) (cv:Value) (v:V),l[j]? = some c->cs[j]? = some cv->vs[j]? = some v->Q4s W c cv v
theorem cellsR_nil (W:World):Q4i W [] [] []:=⟨rfl,rfl,λ(j:Nat) c cv v h=>by simp at h⟩
theorem Q4o {W:World} {c:CT} {cv:Value} {v:V} (h:Q4s W c cv v):Q4i W [c] [cv] [v]:=by
 refine ⟨rfl,rfl,λj c' cv' v' h1 h2 h3=>?_⟩
 cases j with
 |zero=>simp at h1 h2 h3;subst h1 h2 h3;exact h
 |succ j=>simp at h1
theorem Q4w {W:World} {l l':List CT} {cs cs':List Value} {vs vs':List V} (h:Q4i W l cs vs) (h':Q4i W l' cs' vs'):Q4i W (l++l') (cs++cs') (vs++vs'):=by
 obtain ⟨a1,a2,a3⟩:=h;obtain ⟨b1,b2,b3⟩:=h'
 refine ⟨by simp [a1,b1],by simp [a2,b2],λj c cv v h1 h2 h3=>?_⟩
 by_cases hj:j<l.length
 ·rw [List.getElem?_append_left hj] at h1
  rw [List.getElem?_append_left (by omega)] at h2 h3
  exact a3 j c cv v h1 h2 h3
 ·rw [List.getElem?_append_right (by omega)] at h1 h2 h3
  rw [a1] at h2;rw [a2] at h3
  exact b3 _ c cv v h1 h2 h3
theorem Q4q {W:World}:∀{l:List CT} {cs:List Value} {vs:List V},Q4i W l cs vs->okCL l vs
 |[],cs,vs,h=>List.length_eq_zero_iff.1 h.2.1
 |
  c::l,cs,vs,h=>by
  obtain ⟨h1,h2,h3⟩:=h
  match cs,vs,h1,h2 with
  |
   cv::cs,v::vs,h1,h2=>
   exact ⟨v,vs,rfl,(h3 0 c cv v rfl rfl rfl).1,Q4q (cs:=cs) ⟨by simpa using h1,by simpa using h2,λj c' cv' v' a b d=>h3 (j+1) c' cv' v' (by simpa using a) (by simpa using b) (by simpa using d)⟩⟩
theorem Q4t:∀{l:List CT} {ss:List SC} {vs:List V},Q4n l=some ss->okCL l vs->okSL ss vs
 |[],ss,vs,h,hv=>by simp [Q4n] at h;subst h;exact hv
 |
  c::l,ss,vs,h,hv=>by
  simp only [Q4n,Option.bind_eq_some_iff,Option.map_eq_some_iff] at h
  obtain ⟨x,hx,y,hy,rfl⟩:=h
  obtain ⟨v,r,rfl,h1,h2⟩:=hv
  refine ⟨v,r,rfl,?_,Q4t hy h2⟩
  cases c with
  |sc c=>simp [scOf] at hx;subst hx;exact h1
  |sl _=>simp [scOf] at hx
theorem Q4v:∀{l:List CT} {ss:List SC},Q4n l=some ss->ss.length=l.length
 |[],ss,h=>by simp [Q4n] at h;subst h;rfl
 |
  c::l,ss,h=>by
  simp only [Q4n,Option.bind_eq_some_iff,Option.map_eq_some_iff] at h
  obtain ⟨x,hx,y,hy,rfl⟩:=h
  simp [Q4v hy]
theorem Q4r {α:Type} {Q:Nat->α->Prop}:∀{n:Nat},(∀i,i<n->∃x,Q i x)->∃l:List α,l.length=n/\∀(i:Nat) (x:α),l[i]? = some x->Q i x
 |0,_=>⟨[],rfl,λi x h=>by simp at h⟩
 |
  n+1,h=>by
  obtain ⟨l,h1,h2⟩:=Q4r (n:=n) λi hi=>h i (by omega)
  obtain ⟨x,hx⟩:=h n (by omega)
  refine ⟨l++[x],by simp [h1],λi y hy=>?_⟩
  by_cases hi:i<l.length
  ·rw [List.getElem?_append_left hi] at hy;exact h2 i y hy
  ·rw [List.getElem?_append_right (by omega)] at hy
   have:i-l.length=0:=by
    rcases Nat.lt_or_ge (i-l.length) 1 with h0|h0
    ·omega
    ·rw [List.getElem?_eq_none (by simp;omega)] at hy;simp at hy
   rw [this] at hy;simp at hy;subst hy
   have:i=n:=by omega
   subst this;exact hx
theorem Q4u {α:Type} (z:Nat) (hz:0<z):∀(l:List (List α)) (j:Nat),(∀e∈l,e.length=z)->l.flatten[j]? = (l[j/z]?).bind (·[j%z]?)
 |[],j,_=>by simp
 |
  e::l,j,h=>by
  have he:=h e (by simp)
  rw [List.flatten_cons]
  by_cases hj:j<z
  ·rw [List.getElem?_append_left (by omega),Nat.div_eq_of_lt hj,Nat.mod_eq_of_lt hj];rfl
  ·rw [List.getElem?_append_right (by omega),Q4u z hz l _ (λx hx=>h x (by simp [hx])),he]
   have h1:j/z=(j-z)/z+1:=by rw [<-Nat.add_div_right (j-z) hz,Nat.sub_add_cancel (by omega)]
   have h2:j%z=(j-z)%z:=by rw [<-Nat.add_mod_right (j-z) z,Nat.sub_add_cancel (by omega)]
   rw [h1,h2];rfl
theorem ones {α:Type} {c:SC} {f:α->V} {Q:α->Prop} (hc:∀v,okS c v->∃n,v=f n/\Q n):∀vss:List (List V),(∀r∈vss,okSL [c] r) ->
  ∃zs:List α,vss.flatten=zs.map f/\zs.length=vss.length/\∀n∈zs,Q n
 |[],_=>⟨[],rfl,rfl,by simp⟩
 |
  r::vss,h=>by
  obtain ⟨zs,e1,e2,e3⟩:=ones hc vss λx hx=>h x (by simp [hx])
  obtain ⟨v,l,rfl,hv,hl⟩:=h r (by simp)
  have hl:l=[]:=hl
  subst hl
  obtain ⟨n,rfl,hq⟩:=hc v hv
  exact ⟨n::zs,by simp [e1],by simp [e2],by simpa using ⟨hq,e3⟩⟩
theorem Q4y {W:World} {t e n m:Nat} {ss:List SC} {l:List CT} {a:Addr} {len cap:Nat} (hs:Q4n l=some ss) (hz:0<ss.length) (hl:len<=cap) (hm:cap<=maxLen)
  (h:∀i,i<len->∃cs vs,W.cells? 0 (a.add (i*ss.length)) ss.length=some cs/\Q4i W l cs vs):∃v,okC (.sl ss) v/\Rep0 noO W (.slice (some a) len cap) v:=by
 obtain ⟨rows,h1,h2⟩:=Q4r h
 have hsl:=Q4v hs
 have hrow:∀(i:Nat) (r:List Value),rows[i]? = some r->∃vs:List V,r.length=ss.length/\okSL ss vs/\vs.length=ss.length/\∀(j:Nat) (cv:Value) (v:V),r[j]? = some cv->vs[j]? = some v->W.cell? (a.add (i*ss.length+j))=some cv/\Rep0 noO W cv v/\cv.oneCell'=true:=by
  intro i r hr
  obtain ⟨vs,hc,hv⟩:=h2 i r hr
  obtain ⟨_,hlen,hcell⟩:=World.cells?_some hc
  refine ⟨vs,hlen,Q4t hs (Q4q hv),hv.2.1.trans hsl.symm,λj cv v hj hjv=>?_⟩
  have hjl:j<l.length:=by have:=(List.getElem?_eq_some_iff.1 hj).1;omega
  have:=hv.2.2 j l[j] cv v (by simp) hj hjv
  refine ⟨?_,this.2⟩
  rw [<-Go.Deep.add_add,hcell j (by omega),hj]
 have hall:∀i,i<rows.length->∃vs:List V,okSL ss vs/\vs.length=ss.length/\∀(j:Nat) (v:V),vs[j]? = some v->∃cv,W.cell? (a.add (i*ss.length+j))=some cv/\Rep0 noO W cv v/\cv.oneCell'=true:=by
  intro i hi
  obtain ⟨vs,q1,q2,q3,q4⟩:=hrow i rows[i] (by simp [hi])
  refine ⟨vs,q2,q3,λj v hv=>?_⟩
  have:j<ss.length:=by have:=(List.getElem?_eq_some_iff.1 hv).1;omega
  exact ⟨_,q4 j (rows[i][j]'(by omega)) v (by simp) hv⟩
 obtain ⟨vss,g1,g2⟩:=Q4r hall
 have hvlen:∀e∈vss,e.length=ss.length:=λe he=>by obtain ⟨i,hi,rfl⟩:=List.getElem_of_mem he;exact (g2 i _ (by simp [hi])).2.1
 have gen:∀v:V,flatV v=some (len,vss.flatten)->isExact v=false->Rep0 noO W (.slice (some a) len cap) v:=by
  intro v hf hx
  have hcell:∀(j:Nat) (v:V),vss.flatten[j]? = some v->∃cv,W.cell? (a.add j)=some cv/\Rep0 noO W cv v/\cv.oneCell'=true:=by
   intro j v hv
   rw [Q4u ss.length hz vss j hvlen] at hv
   obtain ⟨r,hr,hv⟩:=Option.bind_eq_some_iff.1 hv
   obtain ⟨cv,k1,k2⟩:=(g2 _ r hr).2.2 _ v hv
   refine ⟨cv,?_,k2⟩
   rw [show j=j/ss.length*ss.length+j%ss.length by rw [Nat.mul_comm];exact (Nat.div_add_mod j ss.length).symm]
   exact k1
  refine .slice (some a) len cap v vss.flatten (λj=>(W.cell? (a.add j)).getD Go.undef) hf (by simp [hx]) hl (by simp) (λj hj=>?_) (λj hj=>?_) (λj hj=>?_)
  ·obtain ⟨cv,k1,k2,k3⟩:=hcell j _ (List.getElem?_eq_getElem hj)
   exact ⟨a,rfl,λh=>h.elim,by rw [k1];rfl⟩
  ·obtain ⟨cv,k1,k2,k3⟩:=hcell j _ (List.getElem?_eq_getElem hj)
   rw [k1];exact k3
  ·obtain ⟨cv,k1,k2,k3⟩:=hcell j _ (List.getElem?_eq_getElem hj)
   rw [k1];exact k2
 have hlen':vss.length=len:=by omega
 have recs:∃v,(∃l,v=V.recs false ss.length l/\(∀r∈l,okSL ss r)/\l.length<=maxLen)/\Rep0 noO W (.slice (some a) len cap) v:=by
  refine ⟨.recs false ss.length vss,⟨vss,rfl,λr hr=>?_,by omega⟩,gen _ ?_ rfl⟩
  ·obtain ⟨i,hi,rfl⟩:=List.getElem_of_mem hr;exact (g2 i _ (by simp [hi])).1
  ·simp only [flatV];rw [if_pos ⟨hz,hvlen⟩,hlen']
 match ss,hs,hz,recs,g2,gen,hvlen with
 |[],_,hz,_,_,_,_=>simp at hz
 |[.b],_,_,recs,_,_,_=>exact recs
 |x::y::_,_,_,recs,_,_,_=>exact by cases x<;>exact recs
 |
  [.i k],_,_,recs,g2,gen,hvlen=>
  obtain ⟨zs,e1,e2,e3⟩:=ones (c:=.i k) (f:=V.int k) (λv h=>h) vss λr hr=>by
   obtain ⟨i,hi,rfl⟩:=List.getElem_of_mem hr;exact (g2 i _ (by simp [hi])).1
  refine ⟨.ints false k zs,⟨zs,rfl,e3,by omega⟩,gen _ ?_ rfl⟩
  simp only [flatV];rw [e1,e2,hlen']
 |
  [.s],_,_,recs,g2,gen,hvlen=>
  obtain ⟨zs,e1,e2,e3⟩:=ones (c:=.s) (f:=V.str) (λv h=>h) vss λr hr=>by
   obtain ⟨i,hi,rfl⟩:=List.getElem_of_mem hr;exact (g2 i _ (by simp [hi])).1
  refine ⟨.strs false zs,⟨zs,rfl,e3,by omega⟩,gen _ ?_ rfl⟩
  simp only [flatV];rw [e1,e2,hlen']
theorem Q40 {W:World} {ss:List SC} (hz:0<ss.length):∃v,okC (.sl ss) v/\Rep0 noO W (.slice none 0 0) v:=by
 have gen:∀v:V,flatV v=some (0,[])->isExact v=false->Rep0 noO W (.slice none 0 0) v:=λv hf hx=>
  .slice none 0 0 v [] (λ_=>Go.undef) hf (by simp [hx]) (Nat.le_refl _) (λ_=>rfl) (λj hj=>by simp at hj) (λj hj=>by simp at hj) (λj hj=>by simp at hj)
 match ss,hz with
 |[.i k],_=>exact ⟨.ints false k [],⟨[],rfl,by simp,by simp⟩,gen _ rfl rfl⟩
 |[.s],_=>exact ⟨.strs false [],⟨[],rfl,by simp,by simp⟩,gen _ rfl rfl⟩
 |[.b],_=>exact ⟨.recs false 1 [],⟨[],rfl,by simp,by simp⟩,gen _ (by simp [flatV]) rfl⟩
 |a::a'::ss,_=>exact ⟨.recs false (a::a'::ss).length [],by cases a<;>exact ⟨[],rfl,by simp,by simp⟩,gen _ (by simp [flatV]) rfl⟩
section
variable {H:Type} {enc:TypeId×Value->H} {P:Program} {W:World}
theorem Q4p:∀(n:Nat) (t:TypeId) (l:List CT),cts P n t=some l->∀(fuel:Nat) (cs:List Value) (x:DataW H×List MemPlace),DataW.trod enc P W 0 (λ_=>true) true fuel t cs=some x ->
  ∃vs,Q4i W l cs vs
 |0,t,l,h,_,_,_,_=>by simp [cts] at h
 |
  n+1,t,l,h,fuel,cs,x,hx=>by
  unfold cts at h
  split at h
  ·rename_i ht
   simp at h;subst h
   obtain ⟨bb,rfl,_⟩:=DataW.trod_bool ht hx
   exact ⟨[.bool bb],Q4o ⟨⟨bb,rfl⟩,.bool bb,rfl⟩⟩
  ·rename_i k ht
   simp at h;subst h
   obtain ⟨b,rfl,_,hw⟩:=DataW.trod_int ht hx
   exact ⟨[.int k b],Q4o ⟨⟨b,rfl,hw⟩,.int k b,rfl⟩⟩
  ·rename_i ht
   simp at h;subst h
   obtain ⟨b,rfl,_,hw⟩:=DataW.trod_string ht hx
   exact ⟨[.str b.data.toList],Q4o ⟨⟨_,rfl,by simpa using hw⟩,.str _ _ rfl,rfl⟩⟩
  ·rename_i fs ht
   obtain ⟨l',h1,h2⟩:=Option.bind_eq_some_iff.1 h
   split at h2
   case isFalse=>simp at h2
   rename_i hsz
   simp at h2;subst h2
   obtain ⟨xs,m,_,_,hlen,hxl,hf⟩:=DataW.trod_struct ht hx
   have key:∀(gs:List Field) (off:Nat) (l':List CT),ctsF P (cts P n) off gs=some l'->(∀f∈gs,∃y,DataW.trod enc P W 0 (λ_=>true) true m f.type ((cs.drop f.offset).take (P.cellsOf f.type))=some y) ->
     ∃vs,Q4i W l' ((cs.drop off).take l'.length) vs:=by
    intro gs
    induction gs with
    |nil=>intro off l' h _;simp [ctsF] at h;subst h;exact ⟨[],by simpa using cellsR_nil W⟩
    |
     cons f gs ih=>
     intro off l' h hg
     unfold ctsF at h
     split at h
     case isFalse=>simp at h
     rename_i hoff
     obtain ⟨lf,h1,h2⟩:=Option.bind_eq_some_iff.1 h
     split at h2
     case isFalse=>simp at h2
     rename_i hsz
     obtain ⟨l2,h3,rfl⟩:=Option.map_eq_some_iff.1 h2
     obtain ⟨y,hy⟩:=hg f (by simp)
     obtain ⟨vs1,c1⟩:=Q4p n f.type lf h1 m _ y hy
     obtain ⟨vs2,c2⟩:=ih _ _ h3 λf' hf'=>hg f' (by simp [hf'])
     refine ⟨vs1++vs2,?_⟩
     have hc:=Q4w c1 c2
     rw [hoff,hsz] at hc
     have hl1:lf.length<=(cs.drop off).length:=by
      have:=c1.1;rw [hoff,hsz,List.length_take] at this;omega
     rw [List.length_append,List.take_add,List.drop_drop]
     exact hc
   have hall:∀f∈fs.toList,∃y,DataW.trod enc P W 0 (λ_=>true) true m f.type ((cs.drop f.offset).take (P.cellsOf f.type))=some y:=by
    intro f hf'
    obtain ⟨i,hi,rfl⟩:=List.getElem_of_mem hf'
    have hi':i<fs.size:=by simpa using hi
    have:=hf i (fs.toList[i]) (by simp [hi'])
    rw [List.getElem?_eq_getElem (by omega)] at this
    exact ⟨_,this⟩
   obtain ⟨vs,hv⟩:=key fs.toList 0 _ h1 hall
   refine ⟨vs,?_⟩
   rwa [List.drop_zero,List.take_of_length_le (by omega)] at hv
  ·rename_i m e ht
   obtain ⟨l',h1,h2⟩:=Option.bind_eq_some_iff.1 h
   split at h2
   case isFalse=>simp at h2
   rename_i hsz
   simp at h2;subst h2
   obtain ⟨xs,q,_,_,hlen,hxl,hf⟩:=DataW.trod_array ht hx
   have key:∀(k:Nat),k<=m->∃vs,Q4i W (ctsA l' k) ((cs.drop ((m-k)*l'.length)).take (k*l'.length)) vs:=by
    intro k
    induction k with
    |zero=>intro _;exact ⟨[],by simpa [ctsA] using cellsR_nil W⟩
    |
     succ k ih=>
     intro hk
     obtain ⟨vs2,c2⟩:=ih (by omega)
     have h3:=hf (m-(k+1)) (by omega)
     rw [List.getElem?_eq_getElem (by omega)] at h3
     obtain ⟨vs1,c1⟩:=Q4p n e l' h1 q _ _ h3
     refine ⟨vs1++vs2,?_⟩
     have hc:=Q4w c1 c2
     rw [hsz.1] at hc
     have e1:(m-k)*l'.length=(m-(k+1))*l'.length+l'.length:=by
      rw [<-Nat.succ_mul];congr 1;omega
     have e2:(k+1)*l'.length=l'.length+k*l'.length:=by rw [Nat.succ_mul,Nat.add_comm]
     rw [e1,<-List.drop_drop] at hc
     rw [e2,List.take_add]
     exact hc
   obtain ⟨vs,hv⟩:=key m (Nat.le_refl _)
   refine ⟨vs,?_⟩
   rwa [Nat.sub_self,Nat.zero_mul,List.drop_zero,List.take_of_length_le (by omega)] at hv
  ·rename_i e ht
   obtain ⟨l',h1,h2⟩:=Option.bind_eq_some_iff.1 h
   obtain ⟨ss,h3,h4⟩:=Option.bind_eq_some_iff.1 h2
   split at h4
   case isFalse=>simp at h4
   rename_i hsz
   simp at h4;subst h4
   rcases Go.Deep.open_slice ht hx with ⟨rfl,_⟩|⟨a,len,cap,m,q,D,Pl,rfl,_,hl,hm,hmm,_,hi⟩
   ·obtain ⟨v,k1,k2⟩:=Q40 (W:=W) hsz.2
    exact ⟨[v],Q4o ⟨k1,k2,rfl⟩⟩
   ·simp only [if_true] at hmm
    subst hmm
    rw [hsz.1] at hi
    obtain ⟨v,k1,k2⟩:=Q4y (t:=0) (e:=0) (n:=0) (m:=0) h3 hsz.2 hl hm λi hi'=>by
     obtain ⟨cs',c1,c2⟩:=hi i (by omega)
     obtain ⟨vs,c3⟩:=Q4p n e l' h1 q _ _ c2
     exact ⟨cs',vs,c1,c3⟩
    exact ⟨[v],Q4o ⟨k1,k2,rfl⟩⟩
  ·simp at h
inductive AT where
 |one (c:CT)
 |agg (l:List CT)
def okA:AT->V->Prop
 |.one c,v=>okC c v
 |.agg l,v=>∃vs,v=.agg vs/\okCL l vs
def okAL:List AT->List V->Prop
 |[],vs=>vs=[]
 |c::cs,vs=>∃v l,vs=v::l/\okA c v/\okAL cs l
def atOf (P:Program) (n:Nat) (t:TypeId):Option AT:=
 (cts P n t).bind λl=>match P.underlying t with
  |some (.struct _)|some (.array _ _)=>some (.agg l)
  |
   _=>match l with
   |[c]=>some (.one c)
   |_=>none
def Q4f (P:Program) (n:Nat):List TypeId->Option (List AT)
 |[]=>some []
 |t::ts=>(atOf P n t).bind λx=>(Q4f P n ts).map (x :: ·)
theorem Q42 {n:Nat} {t:TypeId} {q:AT} (hq:atOf P n t=some q) {base:Nat} {v:Value} {d:DataW H} {ps:List MemPlace} (hval:Value.okWide P W .any base t v) (h:DataW.Trod enc P W 0 (λ_=>true) true t v d ps) :
  ∃x,okA q x/\Rep0 noO W v x:=by
 obtain ⟨l,h1,h2⟩:=Option.bind_eq_some_iff.1 hq
 obtain ⟨fuel,hf⟩:=h
 obtain ⟨vs,hv⟩:=Q4p n t l h1 fuel _ _ hf
 have aggCase:(∃cs,v=.agg cs)->∃x,okA (.agg l) x/\Rep0 noO W v x:=by
  rintro ⟨cs,rfl⟩
  have hc:(Value.agg cs).cells.toList=cs.toList:=rfl
  rw [hc] at hv
  refine ⟨.agg vs,⟨vs,rfl,Q4q hv⟩,.agg cs vs (by have:=hv.1;have:=hv.2.1;simp at *;omega) (λj hj=>?_) (λj hj=>?_)⟩ <;>
  ·have hj1:j<cs.size:=by have:=hv.1;have:=hv.2.1;simp at *;omega
   have:=hv.2.2 j (l[j]'(by have:=hv.2.1;omega)) cs[j] vs[j] (by simp) (by simp [hj1]) (by simp)
   have e:cs.getD j Go.undef=cs[j]:=by simp [Array.getD,hj1]
   rw [e]
   first|exact this.2.2|exact this.2.1
 split at h2
 ·rename_i fs ht
  simp at h2;subst h2
  obtain ⟨cs,rfl,_⟩:=okWide_struct ht hval
  exact aggCase ⟨cs,rfl⟩
 ·rename_i m e ht
  simp at h2;subst h2
  unfold Value.okWide at hval
  rw [ht] at hval
  obtain ⟨cs,rfl,_⟩:=hval
  exact aggCase ⟨cs,rfl⟩
 ·rename_i hns hna
  split at h2
  case h_2=>simp at h2
  rename_i c
  simp at h2;subst h2
  obtain ⟨a1,a2,a3⟩:=hv
  match vs,a2 with
  |
   [x],_=>
   have hcells:v.cells = #[v]:=by
    cases v with
    |
     agg cs=>
     exfalso
     unfold Value.okWide at hval
     cases n with
     |zero=>simp [cts] at h1
     |
      succ n=>
      unfold cts at h1
      split at h1<;>rename_i ht
      ·rw [ht] at hval;simp [Cell.okWide,Cell.ok,ht] at hval
      ·rw [ht] at hval;simp [Cell.okWide,Cell.ok,ht] at hval
      ·rw [ht] at hval;simp [Cell.okWide,Cell.ok,ht] at hval
      ·exact hns _ ht
      ·exact hna _ _ ht
      ·rw [ht] at hval;simp [Cell.okWide,Cell.ok,ht] at hval
      ·simp at h1
    |_=>rfl
   rw [hcells] at a3
   have:=a3 0 c v x rfl rfl rfl
   exact ⟨x,this.1,this.2.1⟩
theorem Q4x {n:Nat}:∀{ts:List TypeId} {qs:List AT} {args:List Value} {ds:List (DataW H)} {ps:List MemPlace} {base:Nat},Q4f P n ts=some qs->DataW.TrodAll enc P W 0 (λ_=>true) true ts args ds ps ->
  (∀(j:Nat) t v,ts[j]? = some t->args[j]? = some v->Value.okWide P W .any base t v) ->
  ∃vs,args.length=vs.length/\okAL qs vs/\∀j (h:j<vs.length),Rep0 noO W (args.getD j Go.undef) vs[j]
 |
  [],qs,args,ds,ps,base,hq,h,_=>by
  simp [Q4f] at hq;subst hq
  obtain ⟨rfl,rfl,rfl⟩:=trodAll_nil h
  exact ⟨[],rfl,rfl,λj h=>by simp at h⟩
 |
  t::ts,qs,args,ds,ps,base,hq,h,hval=>by
  simp only [Q4f,Option.bind_eq_some_iff,Option.map_eq_some_iff] at hq
  obtain ⟨q,hq1,qs',hq2,rfl⟩:=hq
  obtain ⟨v,vs,d,ds',p,p',rfl,rfl,rfl,h1,h2⟩:=trodAll_cons h
  obtain ⟨x,k1,k2⟩:=Q42 hq1 (hval 0 t v rfl rfl) h1
  obtain ⟨xs,l1,l2,l3⟩:=Q4x hq2 h2 λj t v a b=>hval (j+1) t v (by simpa using a) (by simpa using b)
  refine ⟨x::xs,by simp [l1],⟨x,xs,rfl,k1,l2⟩,λj hj=>?_⟩
  cases j with
  |zero=>exact k2
  |succ j=>simpa using l3 j (by simpa using hj)
theorem Q41 {ts:List TypeId} (hl:laidOutB P=true) (hr:ts.all (λt=>P.readableRec t&&decide (t<P.types.size))=true) {W':World} (hb:Below W.heap.size W W') {sp:Nat->Bool} :
  ∀
   {vs:List Value} {ds:List (DataW H)} {ps:List MemPlace},DataW.TrodAll enc P W 0 (λ_=>true) true ts vs ds ps->(∀x∈ps,x.block<W.heap.size)->(∀x∈ps,sp x.block=true) ->
   DataW.TrodAll enc P W' 0 sp true ts vs ds ps:=by
 induction ts with
 |
  nil=>
  intro vs ds ps h _ _
  obtain ⟨rfl,rfl,rfl⟩:=trodAll_nil h
  exact trodAll_mk0
 |
  cons t ts ih=>
  intro vs ds ps h hlt hsp
  obtain ⟨v,vs',d,ds',p,p',rfl,rfl,rfl,h1,h2⟩:=trodAll_cons h
  simp only [List.all_cons,Bool.and_eq_true,decide_eq_true_eq] at hr
  exact trodAll_cons_mk (WideElems.Trod_stays hl hr.1.1 hr.1.2 h1 (λx hx=>hb.same (hlt x (by simp [hx]))) (λx hx=>hsp x (by simp [hx])))
   (ih hr.2 h2 (λx hx=>hlt x (by simp [hx])) (λx hx=>hsp x (by simp [hx])))
theorem Q4z {f:Func} {s:ChangeSpec} {apart fresh handsOn again:Bool} {W W':World} {args:Array Value} {v:Value} {ds gs:List (DataW H)} {before pa pv:List MemPlace}
  (hW:DataW.Whole enc P f.params.toList s.vars apart W args.toList ds gs before)
  (hres:∀(b:Nat) (sp:Nat->Bool) (hd:Bool),DataW.TrodAll enc P W' b sp hd f.resultTypes.toList (v.resultList f.resultTypes.size) (s.fn H (ds++gs)).results [])
  (hargs:∀sp:Nat->Bool,(∀p∈before,sp p.block=true)->DataW.TrodAll enc P W' 0 sp true f.params.toList args.toList (s.fn H (ds++gs)).args pa)
  (hvars:∀sp:Nat->Bool,(∀p∈before,sp p.block=true)->DataW.TrodVars enc P W' sp s.vars (s.fn H (ds++gs)).vars pv)
  (hps:before=pa++pv) (hb:Below W.heap.size W W')
  (hok:∀(j:Nat) (t:TypeId) (r:Value),f.resultTypes[j]? = some t->(v.resultList f.resultTypes.size)[j]? = some r->Value.okWide P W' .any 0 t r) :
  s.post enc P f apart fresh handsOn again W args v W':=by
 have hlt:∀p∈before,p.block<W.heap.size:=λp hp=>hW.lt p hp
 have hold:∀p∈before,(λb=>decide (b<W.heap.size)) p.block=true:=λp hp=>by simpa using hlt p hp
 refine ⟨ds,gs,before,[],pa,pv,hW,hres _ _ _,hargs _ hold,hvars _ hold,World.keptBut_mono (λp hp=>⟨hp,?_⟩) (hb.frame (·∈before)),λ_=>?_⟩
 ·rw [hps,List.mem_append] at hp
  exact Or.inr hp
 ·obtain ⟨_,_,_,_,_,hz,hn⟩:=hW
  refine ⟨hok,_,_,([]++pa)++pv,⟨[]++pa,pv,trodAll_append (hargs _ (λ_ _=>rfl)) (hres _ _ _),hvars _ (λ_ _=>rfl),rfl,?_,?_⟩,?_⟩
  ·intro b off hp
   have hin:MemPlace.cell b off∈before:=by rw [hps];simpa using hp
   rw [hb.frozen (hlt _ hin)]
   exact hz b off hin
  ·intro ha
   have:=hn ha
   rw [hps] at this
   simpa using this
  ·intro p hp _
   rw [hps]
   simpa using hp
theorem Q4h {g:Nat} {f:Func} {c:Code} (hf:FunOK P g f c) {s:ChangeSpec} {n:Nat} {qs:List AT} {tb:TypeId} (hl:laidOutB P=true) (hr:f.params.toList.all (λt=>P.readableRec t&&decide (t<P.types.size))=true)
  (hq:Q4f P n f.params.toList=some qs) (hres:f.resultTypes = #[tb]) (htb:P.underlying tb=some .bool) (hv:s.vars=[])
  (hs:∀ds:List (DataW H),ds.length=f.params.toList.length->s.fn H ds={results:=[.lit (.bool true)],args:=ds})
  (plain:∀vs,okAL qs vs->∃p r,SoundC P g vs p/\p.m=some r/\p.enc r=.bool true)
  (W:World) (base:Nat) (args:Array Value) (ds gs:List (DataW H)) (before:List MemPlace)
  (hval:∀(j:Nat) t v,f.params[j]? = some t->args[j]? = some v->Value.okWide P W .any base t v)
  (hW:DataW.Whole enc P f.params.toList s.vars false W args.toList ds gs before) :
  Calls P g args W λe W'=>∃v,e=.returned v/\s.post enc P f false true false false W args v W':=by
 have hW':=hW
 have hlt:∀p∈before,p.block<W.heap.size:=λp hp=>hW.lt p hp
 obtain ⟨p,q,hA,hV,rfl,hfz,hnd⟩:=hW
 have hA:DataW.TrodAll enc P W 0 (λ_=>true) true f.params.toList args.toList ds p:=hA
 rw [hv] at hV
 obtain ⟨rfl,rfl⟩:=trodVars_none hV
 obtain ⟨vs,h1,h2,h3⟩:=Q4x hq hA λj t v a b=>hval j t v (by simpa using a) (by simpa using b)
 obtain ⟨pk,r,hsound,hm,he⟩:=plain vs h2
 have hcall:=hsound noO W args r hm (by simpa using h1) (λj hj=>by
  have h4:=h3 j hj
  have:args.getD j Go.undef=args.toList.getD j Go.undef:=by
   have hj':j<args.size:=by rw [<-Array.length_toList,h1];exact hj
   simp [Array.getD,List.getD,hj']
  rwa [this]) (λb h=>h.elim)
 unfold CallR at hcall
 rw [hf.enters] at hcall
 have hlen:∀{ts:List TypeId} {vs:List Value} {ds:List (DataW H)} {ps:List MemPlace},DataW.TrodAll enc P W 0 (λ_=>true) true ts vs ds ps->ds.length=ts.length:=by
  intro ts
  induction ts with
  |nil=>intro vs ds ps h;obtain ⟨_,rfl,_⟩:=trodAll_nil h;rfl
  |cons t ts ih=>intro vs ds ps h;obtain ⟨_,_,_,_,_,_,_,rfl,_,_,h2⟩:=trodAll_cons h;simp [ih h2]
 refine hcall.mono λe W' h=>?_
 cases e with
 |
  returned cv=>
  obtain ⟨hg,hrep⟩:=h
  rw [he] at hrep
  obtain rfl:cv=.bool true:=by
   cases hrep
   ·rfl
   ·rename_i hf _;cases hf
  have hb:Below W.heap.size W W':=⟨hg.os,hg.tape,hg.output,hg.size,λk hk=>hg.block k hk (by simp)⟩
  have hfn:=hs ds (hlen hA)
  refine ⟨_,rfl,Q4z (pa:=p) (pv:=[]) hW' ?_ ?_ ?_ rfl hb ?_⟩
  ·intro b sp hd
   rw [List.append_nil,hfn,hres]
   exact trodAll_cons_mk (shut_bool htb _) trodAll_mk0
  ·intro sp hsp
   rw [List.append_nil,hfn]
   exact Q41 hl hr hb hA (λx hx=>hlt x (by simp [hx])) (λx hx=>hsp x (by simp [hx]))
  ·intro sp hsp
   rw [List.append_nil,hfn,hv]
   rfl
  ·exact ok_one hres rfl (okWide_bool_mk htb _)
 |_=>exact h.elim
end
end
end Go.Proofs.YtgjncgiekniniaaGreatDoor.A
end
section
namespace Go.Proofs.YtgjncgiekniniaaGreatDoor.A
open Go
theorem own:ownKnob Tryz.prog.godebug=none:=by kernel_rfl
theorem laidOut:laidOutB Tryz.prog=true:=by kernel_rfl
theorem rowed:mapsRowed Tryz.prog=true:=by kernel_rfl
theorem Q4j:(Tryz.prog.stops == [])=true:=by kernel_rfl
theorem Q4l:(Tryz.prog.stopKnobs == [])=true:=by kernel_rfl
theorem Q4g:Tryz.prog.stopsHeard=true:=by kernel_rfl
theorem Q4k:Tryz.prog.mayEnter=true:=by kernel_rfl
theorem Q4m:false=Tryz.prog.looks []:=by kernel_rfl
theorem main:Tryz.pinned.checked.prog.mainIs=some (true,("d4ffbc68b08c28ac251f33799dbb1d7e972ab3df77886f5ed4ce34a153cf9881":String).toList):=by kernel_rfl
noncomputable def relay (l:List Int):Obj->Obj
 |.cells _ t fz=>.cells (l.map λn=>Value.int .u8 n).toArray t fz
 |o=>o
noncomputable def accept:List Int:=[128,191,160,191,128,159,144,191,128,143,0,0,0,0,0,0,0,0,0,0,0,0,0,0,0,0,0,0,0,0,0,0]
noncomputable def Q4e (os:Os):World:=
 let w:=World.holding Tryz.prog os ⟨#[],#[],[]⟩
 {w with heap:=(w.heap.modify 3 (relay (Go.Pinned.utf8FirstZ.map Int.ofNat))).modify 4 (relay accept)}
theorem Qhl {n:Int} (h:(Lit.int .u64 n).wf=true):0<=n/\n<18446744073709551616:=by
 simp [Lit.wf,IntKind.min,IntKind.max,IntKind.signed,IntKind.bits] at h;omega
theorem Qc4 {n:Int} (h:(Lit.int .u32 n).wf=true):0<=n/\n<4294967296:=by
 simp [Lit.wf,IntKind.min,IntKind.max,IntKind.signed,IntKind.bits] at h;omega
theorem Qb9 {n:Int} (h:(Lit.int .u16 n).wf=true):0<=n/\n<65536:=by
 simp [Lit.wf,IntKind.min,IntKind.max,IntKind.signed,IntKind.bits] at h;omega
theorem Qs {n:Int} (h:(Lit.int .u8 n).wf=true):0<=n/\n<256:=by
 simp [Lit.wf,IntKind.min,IntKind.max,IntKind.signed,IntKind.bits] at h;omega
theorem Qkb {B:Nat} {l l':List Int}:inB B (l++l')↔inB B l/\inB B l':=by
 simp only [inB,List.mem_append]
 exact ⟨λh=>⟨λx hx=>h x (.inl hx),λx hx=>h x (.inr hx)⟩,λh x hx=>hx.elim (h.1 x) (h.2 x)⟩
abbrev dg (n:Nat):List Int:=toB 10000 n
theorem b4:2<=10000:=by decide
theorem Qcf {l:List Int} (hl:inB 10000 l) (hs:Qaw l):z14.F l=some (dg (valB 10000 l).toNat):=Qmj b4 hl hs
theorem Qgb {l:List Int} {i:Nat}:z13.F l (i:Int)=some (l.getD i 0):=by
 unfold z13.F
 by_cases h:(i:Int)>=(l.length:Int)
 ·rw [bif_t h]
  have:l.getD i 0=0:=by simp [List.getD,List.getElem?_eq_none (show l.length<=i by omega)]
  rw [this]
 ·rw [Qa h,if_pos (by omega),Zi]
theorem Qfk {n:Nat} (hn:n<9223372036854775808):z8.F (n:Int)=some (dg n):=by
 have key:∀(n:Nat),n<9223372036854775808->∀s:List Int,Qaw s->(s.length+(dg n).length<=1000000000)->Runs (λrec x=>z8.l0P rec some x) ((n:Int),s) ((0:Int),s++dg n):=by
  intro n
  induction n using Nat.strongRecOn with
  |
   _ n ih=>
   intro hn s hs hl
   rcases Nat.eq_zero_or_pos n with rfl|h0
   ·refine .done λrec=>?_
    simp [z8.l0P,toB_zero]
   ·have e:dg n=((n%10000:Nat):Int)::dg (n/10000):=Wg b4 h0
    have hd:n/10000<n:=Nat.div_lt_self h0 (by decide)
    rw [e] at hl ⊢
    have h2:=ih (n/10000) hd (by omega) (s++[((n%10000:Nat):Int)]) (by simp at *;omega) (by simp at *;omega)
    rw [List.append_assoc,List.singleton_append] at h2
    refine .step (λrec=>?_) h2
    unfold z8.l0P
    simp only
    have e1:Int.tmod (n:Int) 10000=((n%10000:Nat):Int):=by rw [Yk (by omega)];rfl
    have e2:wr .i64 (Int.tdiv (n:Int) 10000)=((n/10000:Nat):Int):=by rw [Yd (by omega),Qc (by omega) (by omega)];rfl
    rw [bif_t (by omega),if_pos (by simp at *;omega),e1,e2]
 unfold z8.F z8.l0
 have hl:(dg n).length<=5:=Yj b4 (by omega)
 rw [(key n hn [] (by simp) (by simp;omega)).lfp]
 simp
def dig4 (d:Int):List Int:=[d%10,d/10%10,d/100%10,d/1000%10]
theorem Qxi {d:Int} (h0:0<=d):inB 10 (dig4 d):=by
 intro x hx;simp [dig4] at hx;rcases hx with rfl|rfl|rfl|rfl<;>omega
theorem Qu3 {d:Int} (h0:0<=d) (h:d<10000):valB 10 (dig4 d)=d:=by simp [dig4,valB];omega
theorem Qsx:∀{l:List Int},inB 10000 l->inB 10 (l.flatMap dig4)
 |[],_=>inB_nil 10
 |x::l,h=>by rw [Wt] at h;rw [List.flatMap_cons,Qkb];exact ⟨Qxi h.1.1,Qsx h.2⟩
theorem Qrt:∀{l:List Int},inB 10000 l->valB 10 (l.flatMap dig4)=valB 10000 l
 |[],_=>rfl
 |
  x::l,h=>by
  rw [Wt] at h
  rw [List.flatMap_cons,Qdy,Qu3 h.1.1 h.1.2,Qrt h.2]
  simp [dig4,valB]
theorem Qie:∀(l:List Int),(l.flatMap dig4).length=4*l.length
 |[]=>rfl
 |x::l=>by rw [List.flatMap_cons,List.length_append,Qie l];simp [dig4];omega
theorem Q1a (s:List UInt8) (hs:Qaw s) (d:Int) (h0:0<=d) (hd:d<10000):∃d',z5.l2 (s,d,(0:Int))=some (((dig4 d).reverse.map ch)++s,d',4):=by
 have hs':s.length<=1000000000:=hs
 have one:∀(s:List UInt8) (d:Int) (k:Nat),s.length<=1000000004->0<=d->d<10000->k<4->∀rec,z5.l2P rec some (s,d,(k:Int))=rec (ch (d%10)::s,d/10,((k+1:Nat):Int)):=by
  intro s d k hs h0 hd hk rec
  unfold z5.l2P
  simp only
  rw [bif_t (by omega),if_pos (by simp;omega),Yk h0,Yd h0,Qc (n:=48+d%10) (by omega) (by omega),Qgd (by omega) (by omega),Qc (n:=d/10) (by omega) (by omega),Qc (by omega) (by omega)]
  have:(48+d%10).toNat=48+(d%10).toNat:=by omega
  simp [ch,this]
 refine ⟨d/10/10/10/10,?_⟩
 unfold z5.l2
 refine Runs.lfp (.step (one s d 0 (by omega) h0 hd (by decide)) (.step (one _ (d/10) 1 (by simp;omega) (by omega) (by omega) (by decide)) (.step (one _ (d/10/10) 2 (by simp;omega) (by omega) (by omega) (by decide)) (.step (one _ (d/10/10/10) 3 (by simp;omega) (by omega) (by omega) (by decide)) (.done λrec=>?_)))))
 unfold z5.l2P
 simp only
 rw [Qa (by omega)]
 have e1:d/10/10=d/100:=by omega
 have e2:d/10/10/10=d/1000:=by omega
 simp [dig4,e1,show d/100/10=d/1000 by omega]
theorem Q3h {l:List Int} (hl:inB 10000 l) (hs:4*l.length<=1000000000):z5.l0 l ([],(0:Int))=some ((l.flatMap dig4).reverse.map ch,(l.length:Int)):=by
 have key:∀(k:Nat),k<=l.length->Runs (λrec x=>z5.l0P l rec some x) (((l.take (l.length-k)).flatMap dig4).reverse.map ch,((l.length-k:Nat):Int)) ((l.flatMap dig4).reverse.map ch,(l.length:Int)):=by
  intro k
  induction k with
  |
   zero=>
   intro _
   refine .done λrec=>?_
   unfold z5.l0P
   simp
  |
   succ k ih=>
   intro hk
   have hi:l.length-(k+1)<l.length:=by omega
   have hm:=hl l[l.length-(k+1)] (List.getElem_mem hi)
   obtain ⟨d',h2⟩:=Q1a (((l.take (l.length-(k+1))).flatMap dig4).reverse.map ch) (by
    show List.length _<=_;rw [List.length_map,List.length_reverse,Qie,List.length_take];omega) _ hm.1 hm.2
   refine .step (λrec=>?_) (ih (by omega))
   unfold z5.l0P
   simp only
   rw [bif_t (by omega),if_pos (by omega),Zi,Wa hi,h2]
   simp only [Zb]
   rw [Qc (by omega) (by omega)]
   have e:l.take (l.length-k)=l.take (l.length-(k+1))++[l[l.length-(k+1)]]:=by
    rw [<-List.take_succ_eq_append_getElem hi];congr 1;omega
   have e2:((l.length-(k+1):Nat):Int)+1=((l.length-k:Nat):Int):=by omega
   rw [e,e2,List.flatMap_append]
   simp only [List.flatMap_cons,List.flatMap_nil,List.append_nil,List.reverse_append,List.map_append]
 have:=key l.length (Nat.le_refl _)
 simp only [Nat.sub_self,List.take_zero,List.flatMap_nil,List.reverse_nil,List.map_nil] at this
 exact this.lfp
theorem Qq1 {d:Int} (h0:0<=d) (h:d<10):((ch d).toNat:Int)=48↔d=0:=by rw [Qhh h0 h];omega
theorem Qle {n:Nat} (hs:4*(dg n).length<=1000000000):z5.F (dg n)=some (txt n):=by
 unfold z5.F txt
 by_cases hn:n=0
 ·subst hn;simp [dg,toB_zero]
 ·have hne:dg n≠[]:=λe=>hn ((toB_nil b4).1 e)
  have hlen:=List.length_pos_iff.2 hne
  rw [Qa (by omega),if_neg hn,Q3h (Qx b4 n) hs]
  simp only [Zb]
  generalize hfl:(dg n).flatMap dig4=fl
  have hin:inB 10 fl:=by rw [<-hfl];exact Qsx (Qx b4 n)
  have hv:valB 10 fl=n:=by rw [<-hfl,Qrt (Qx b4 n),Q8 b4]
  have hl:fl.length<=1000000000:=by rw [<-hfl,Qie];exact hs
  have key:∀k:Nat,k<=fl.length->valB 10 (fl.take k)=n->∃m:Nat,m<=k/\Runs (λrec x=>z5.l4P (fl.reverse.map ch) rec some x) ((fl.length-k:Nat):Int) ((fl.length-m:Nat):Int)/\valB 10 (fl.take m)=n/\(m=0\/fl.getD (m-1) 0≠0):=by
   intro k
   induction k with
   |zero=>intro _ h;simp [valB] at h;omega
   |
    succ k ih=>
    intro hk h
    have hi:fl.length-(k+1)<(fl.reverse.map ch).length:=by simp;omega
    have hk':k<fl.length:=by omega
    have hm:=hin fl[k] (List.getElem_mem hk')
    have eg:(fl.reverse.map ch).getD (fl.length-(k+1)) 0=ch fl[k]:=by
     have e0:fl.length-1-(fl.length-(k+1))=k:=by omega
     simp only [List.getD,List.getElem?_eq_getElem hi,Option.getD_some,List.getElem_map,List.getElem_reverse,e0]
    by_cases hz:fl[k]=0
    ·obtain ⟨m,h1,h2,h3,h4⟩:=ih (by omega) (by rw [Yp hk',hz] at h;simpa using h)
     refine ⟨m,by omega,.step (λrec=>?_) h2,h3,h4⟩
     unfold z5.l4P
     rw [if_pos (by simp;omega),Zi,eg,bif_t ((Qq1 hm.1 hm.2).2 hz),Qc (by omega) (by omega)]
     congr 1;omega
    ·refine ⟨k+1,Nat.le_refl _,.done λrec=>?_,h,.inr (by rw [Nat.add_sub_cancel,Wa hk'];exact hz)⟩
     unfold z5.l4P
     rw [if_pos (by simp;omega),Zi,eg,Qa (λe=>hz ((Qq1 hm.1 hm.2).1 e))]
  obtain ⟨m,h1,h2,h3,h4⟩:=key fl.length (Nat.le_refl _) (by rw [List.take_length];exact hv)
  rw [Nat.sub_self] at h2
  unfold z5.l4
  rw [show (0:Int)=((0:Nat):Int) from rfl,h2.lfp]
  simp only [Zb]
  rw [if_pos (by rw [List.length_map,List.length_reverse];omega),Zi]
  have hm:m≠0:=by rintro rfl;simp [valB] at h3;omega
  have e:fl.take m=toB 10 n:=by
   have:=Qhq b10 (l:=fl.take m) (λx hx=>hin x (List.mem_of_mem_take hx)) λhne=>by
    rcases h4 with h4|h4
    ·exact absurd h4 hm
    ·rw [List.getLast_eq_getElem]
     rw [Wa (by omega)] at h4
     simp only [List.length_take,List.getElem_take]
     have:min m fl.length-1=m-1:=by omega
     simp only [this];exact h4
   rwa [h3,Zi] at this
  rw [<-e,<-List.map_drop,List.reverse_take]
theorem Q3y {a b s:List Int} {i k:Nat} {c:Int} (ha:inB 10000 a) (hb:inB 10000 b) (hs:inB 10000 s) (hi:i<a.length) (hk:i+k<s.length) (hsl:s.length<=4000000000) (hc:0<=c/\c<10000) (hgo:k<b.length\/0<c)
  (rec:Int×Int×List Int->Option (Int×Int×List Int)) :
  z15.l2aaP a b (i:Int) rec some (c,(k:Int),s) =
   rec ((s.getD (i+k) 0+a.getD i 0*b.getD k 0+c)/10000,((k+1:Nat):Int),s.set (i+k) ((s.getD (i+k) 0+a.getD i 0*b.getD k 0+c)%10000)):=by
 have h1:=Q2 (by decide) ha i
 have h2:=Q2 (by decide) hb k
 have h3:=Q2 (by decide) hs (i+k)
 have h4:0<=a.getD i 0*b.getD k 0:=Int.mul_nonneg h1.1 h2.1
 have h5:a.getD i 0*b.getD k 0<=9999*9999:=Int.mul_le_mul (by omega) (by omega) h2.1 (by decide)
 have e1:wr .i64 ((i:Int)+k)=((i+k:Nat):Int):=by rw [Qc (by omega) (by omega)];omega
 have e2:wr .i64 (a.getD i 0*b.getD k 0)=a.getD i 0*b.getD k 0:=Qc (by omega) (by omega)
 have e3:wr .i64 (s.getD (i+k) 0+a.getD i 0*b.getD k 0)=s.getD (i+k) 0+a.getD i 0*b.getD k 0:=Qc (by omega) (by omega)
 have e4:wr .i64 (s.getD (i+k) 0+a.getD i 0*b.getD k 0+c)=s.getD (i+k) 0+a.getD i 0*b.getD k 0+c:=Qc (by omega) (by omega)
 have e5:wr .i64 ((k:Int)+1)=((k+1:Nat):Int):=by rw [Qc (by omega) (by omega)];omega
 unfold z15.l2aaP
 simp only [Qgb,Zb,e1,Zi,e2,e3,e4,e5]
 rw [Yd (by omega),Yk (by omega),Qc (n:=(_:Int)/10000) (by omega) (by omega)]
 have c1:(0:Int)<=((i+k:Nat):Int)/\((i+k:Nat):Int)<(s.length:Int):=by omega
 have c2:(0:Int)<=(i:Int)/\(i:Int)<(a.length:Int):=by omega
 simp only [if_pos c1,if_pos hk,if_pos c2]
 by_cases hkb:(k:Int)<(b.length:Int)
 ·rw [bif_t hkb]
 ·rw [Qa hkb,bif_t (show c>0 by omega)]
theorem Qqu {a b:List Int} {i:Nat} {T:Int} (ha:inB 10000 a) (hb:inB 10000 b) (hi:i<a.length) (hT:T<(10000^(i+1+b.length):Nat)) :
  ∀
   (f k:Nat) (c:Int) (s:List Int),inB 10000 s->i+1+b.length<s.length->s.length<=4000000000->0<=c/\c<10000->b.length+2<=k+f ->
   valB 10000 s+(c+a.getD i 0*valB 10000 (b.drop k))*(10000^(i+k):Nat)=T ->
   ∃k' s',Runs (λrec x=>z15.l2aaP a b (i:Int) rec some x) (c,(k:Int),s) ((0:Int),k',s')/\inB 10000 s'/\s'.length=s.length/\valB 10000 s'=T
 |
  f,k,c,s,hs,hl,hl',hc,hf,hv=>by
  have hbd:=Wm (Jb hb k)
  have h1:=Q2 (B:=10000) (by decide) ha i
  have hsv:=Wm hs
  have hab:=Int.mul_nonneg h1.1 hbd
  by_cases hgo:k<b.length\/0<c
  ·have hk:k<=b.length:=by
    rcases hgo with h|h
    ·omega
    ·rcases Nat.lt_or_ge b.length k with hlt|hge
     ·exfalso
      have h2:(10000^(i+1+b.length):Nat)<=10000^(i+k):=Nat.pow_le_pow_right (by decide) (by omega)
      have h3:(1:Int)*(10000^(i+k):Nat)<=(c+a.getD i 0*valB 10000 (b.drop k))*(10000^(i+k):Nat):=Int.mul_le_mul_of_nonneg_right (by omega) (Int.natCast_nonneg _)
      have h4:((10000^(i+1+b.length):Nat):Int)<=(10000^(i+k):Nat):=by exact_mod_cast h2
      omega
     ·exact hge
   match f,hf with
   |0,hf=>omega
   |
    f+1,hf=>
    have h2:=Q2 (B:=10000) (by decide) hb k
    have h3:=Q2 (B:=10000) (by decide) hs (i+k)
    have h4:0<=a.getD i 0*b.getD k 0:=Int.mul_nonneg h1.1 h2.1
    have h5:a.getD i 0*b.getD k 0<=9999*9999:=Int.mul_le_mul (by omega) (by omega) h2.1 (by decide)
    obtain ⟨k',s',r1,r2,r3,r4⟩:=Qqu ha hb hi hT f (k+1) ((s.getD (i+k) 0+a.getD i 0*b.getD k 0+c)/10000) (s.set (i+k) ((s.getD (i+k) 0+a.getD i 0*b.getD k 0+c)%10000))
     (Yc hs (by omega)) (by rw [List.length_set];exact hl) (by rw [List.length_set];exact hl') (by omega) (by omega) (by
      rw [Yl (by omega),<-hv,Wb b k]
      generalize hx:s.getD (i+k) 0+a.getD i 0*b.getD k 0+c=x
      have e1:(10000^(i+(k+1)):Nat)=10000*10000^(i+k):=by rw [<-Nat.add_assoc,Nat.pow_succ,Nat.mul_comm]
      rw [e1,Int.natCast_mul]
      have e2:x=10000*(x/10000)+x%10000:=(Int.mul_ediv_add_emod x 10000).symm
      generalize x/10000=q at *
      generalize x%10000=m at *
      subst e2
      generalize ((10000^(i+k):Nat):Int)=p
      generalize valB 10000 (b.drop (k+1))=w
      generalize a.getD i 0=u at *
      generalize b.getD k 0=v at *
      generalize s.getD (i+k) 0=z at *
      have hc':c=10000*q+m-z-u*v:=by omega
      subst hc'
      grind)
    refine ⟨k',s',.step (λrec=>Q3y ha hb hs hi (by omega) hl' hc hgo rec) r1,r2,by rw [r3,List.length_set],r4⟩
  ·have hc0:c=0:=by omega
   have hkb:b.length<=k:=by omega
   subst hc0
   refine ⟨k,s,.done λrec=>?_,hs,rfl,?_⟩
   ·unfold z15.l2aaP
    simp only
    rw [Qa (by omega),Qa (by omega)]
   ·rw [List.drop_eq_nil_of_le hkb] at hv
    simpa [valB] using hv
theorem Qp8 {a b:List Int} (ha:inB 10000 a) (hb:inB 10000 b) (hal:a.length+b.length<=3000000000) :
  ∀
   (f i:Nat) (s:List Int),i+f=a.length->inB 10000 s->s.length=a.length+b.length+1->valB 10000 s=valB 10000 (a.take i)*valB 10000 b ->
   ∃s',Runs (λrec x=>z15.l0P a b rec some x) ((i:Int),s) ((a.length:Int),s')/\inB 10000 s'/\s'.length=s.length/\valB 10000 s'=valB 10000 a*valB 10000 b
 |
  0,i,s,hf,hs,hl,hv=>by
  have:i=a.length:=by omega
  subst this
  refine ⟨s,.done λrec=>?_,hs,rfl,by rwa [List.take_length] at hv⟩
  unfold z15.l0P
  simp
 |
  f+1,i,s,hf,hs,hl,hv=>by
  have hi:i<a.length:=by omega
  have hT:valB 10000 (a.take (i+1))*valB 10000 b<(10000^(i+1+b.length):Nat):=by
   have h1:=Yb b4 (Wo ha (i+1))
   have h2:=Yb b4 hb
   have h3:=Wm (Wo ha (i+1))
   have h4:=Wm hb
   rw [List.length_take,Nat.min_eq_left (by omega)] at h1
   rw [Nat.pow_add,Int.natCast_mul]
   rcases Int.lt_or_eq_of_le h4 with h0|h0
   ·exact Int.mul_lt_mul h1 (Int.le_of_lt h2) h0 (by omega)
   ·rw [<-h0,Int.mul_zero];exact Int.mul_pos (by omega) (by omega)
  obtain ⟨k',s',r1,r2,r3,r4⟩:=Qqu ha hb hi hT (b.length+2) 0 0 s hs (by omega) (by omega) (by omega) (by omega) (by
   rw [hv,Yp hi,List.drop_zero,Int.zero_add,Nat.add_zero,Wa hi];grind)
  obtain ⟨s2,q1,q2,q3,q4⟩:=Qp8 ha hb hal f (i+1) s' (by omega) r2 (by omega) r4
  refine ⟨s2,.step (λrec=>?_) q1,q2,by omega,q4⟩
  have e:z15.l2aa a b (i:Int) ((0:Int),(0:Int),s)=some ((0:Int),k',s'):=r1.lfp
  unfold z15.l0P
  simp only
  rw [bif_t (by omega),e]
  simp only [Zb]
  rw [Qc (by omega) (by omega)]
  rfl
theorem Qzr {a b:List Int} (ha:inB 10000 a) (hb:inB 10000 b) (hal:a.length+b.length<=900000000):z15.F a b=some (dg (valB 10000 a*valB 10000 b).toNat):=by
 unfold z15.F z15.l0
 have e:wr .i64 (wr .i64 ((a.length:Int)+(b.length:Int))+1)=((a.length+b.length+1:Nat):Int):=by
  rw [Qc (n:=(a.length:Int)+b.length) (by omega) (by omega),Qc (by omega) (by omega)];omega
 rw [e,if_pos (by omega),Zi]
 obtain ⟨s',r1,r2,r3,r4⟩:=Qp8 ha hb (by omega) a.length 0 (List.replicate (a.length+b.length+1) 0) (by omega) (Qa4 (by decide) _) (by simp) (by rw [Qca];simp [valB])
 rw [show ((0:Int),List.replicate (a.length+b.length+1) (0:Int))=(((0:Nat):Int),List.replicate (a.length+b.length+1) (0:Int)) from rfl,r1.lfp]
 simp only [Zb]
 rw [Qcf r2 (by show List.length _<=_;rw [r3];simp;omega),r4]
 rfl
theorem Qdp {m n:Nat} (hl:(dg m).length+(dg n).length<=900000000):z15.F (dg m) (dg n)=some (dg (m*n)):=by
 rw [Qzr (Qx b4 m) (Qx b4 n) hl,Q8 b4,Q8 b4]
 congr 2
theorem Qev (B:Nat) (l:List Int) (x:Int):valB B (l++[x])=valB B l+(B^l.length:Nat)*x:=by
 rw [Qdy];simp [valB]
theorem Qep {B:Nat} {l:List Int} {x:Int} (h:inB B l) (hx:0<=x/\x<B):inB B (l++[x]):=Qkb.2 ⟨h,Wt.2 ⟨hx,inB_nil B⟩⟩
theorem Q25 {a b s:List Int} {i:Nat} {c:Int} (ha:inB 10000 a) (hb:inB 10000 b) (hsl:s.length<=4000000000) (hil:i<=4000000000) (hc:0<=c/\c<10000) (hgo:i<a.length\/i<b.length\/0<c)
  (rec:Int×Int×List Int->Option (Int×Int×List Int)) :
  z107.l0b6P a b rec some (c,(i:Int),s)=rec ((a.getD i 0+b.getD i 0+c)/10000,((i+1:Nat):Int),s++[(a.getD i 0+b.getD i 0+c)%10000]):=by
 have h1:=Q2 (B:=10000) (by decide) ha i
 have h2:=Q2 (B:=10000) (by decide) hb i
 have e1:wr .i64 (a.getD i 0+b.getD i 0)=a.getD i 0+b.getD i 0:=Qc (by omega) (by omega)
 have e2:wr .i64 (a.getD i 0+b.getD i 0+c)=a.getD i 0+b.getD i 0+c:=Qc (by omega) (by omega)
 have e3:wr .i64 ((i:Int)+1)=((i+1:Nat):Int):=by rw [Qc (by omega) (by omega)];omega
 unfold z107.l0b6P
 simp only [Qgb,Zb,e1,e2,e3]
 rw [Yd (by omega),Yk (by omega),Qc (n:=(_:Int)/10000) (by omega) (by omega)]
 have c1:∀x:Int,(s.length+[x].length)*8<=140737488355328:=λx=>by simp;omega
 simp only [if_pos (c1 _)]
 by_cases h3:(i:Int)<(a.length:Int)
 ·rw [bif_t h3]
 ·rw [Qa h3]
  by_cases h4:(i:Int)<(b.length:Int)
  ·rw [bif_t h4]
  ·rw [Qa h4,bif_t (show c>0 by omega)]
theorem Qmn {a b:List Int} (ha:inB 10000 a) (hb:inB 10000 b) (hal:a.length+b.length<=900000000) :
  ∀
   (f i:Nat) (c:Int) (s:List Int),a.length+b.length+1<=i+f->i<=a.length+b.length+1->s.length=i->inB 10000 s->0<=c/\c<=1->(i=a.length+b.length+1->c=0) ->
   valB 10000 s+(c+valB 10000 (a.drop i)+valB 10000 (b.drop i))*(10000^i:Nat)=valB 10000 a+valB 10000 b ->
   ∃i' s',Runs (λrec x=>z107.l0b6P a b rec some x) (c,(i:Int),s) ((0:Int),i',s')/\inB 10000 s'/\s'.length<=a.length+b.length+1/\valB 10000 s'=valB 10000 a+valB 10000 b
 |
  f,i,c,s,hf,hi,hl,hs,hc,he,hv=>by
  by_cases hgo:i<a.length\/i<b.length\/0<c
  ·match f,hf with
   |
    0,hf=>
    have:i=a.length+b.length+1:=by omega
    have:=he this
    omega
   |
    f+1,hf=>
    have hi':i<a.length+b.length+1:=by
     rcases Nat.lt_or_ge i (a.length+b.length+1) with h|h
     ·exact h
     ·have:=he (by omega);omega
    have h1:=Q2 (B:=10000) (by decide) ha i
    have h2:=Q2 (B:=10000) (by decide) hb i
    obtain ⟨i',s',r1,r2,r3,r4⟩:=Qmn ha hb hal f (i+1) ((a.getD i 0+b.getD i 0+c)/10000) (s++[(a.getD i 0+b.getD i 0+c)%10000]) (by omega) (by omega) (by simp [hl]) (Qep hs (by omega)) (by omega)
     (λe=>by
      have h3:a.getD i 0=0\/b.getD i 0=0:=by
       by_cases ha':i<a.length
       ·right;simp [List.getD,List.getElem?_eq_none (show b.length<=i by omega)]
       ·left;simp [List.getD,List.getElem?_eq_none (show a.length<=i by omega)]
      have h5:a.getD i 0=0:=by
       by_cases ha':i<a.length
       ·have:b.length=0:=by omega
        exfalso
        have h6:i=a.length+b.length:=by omega
        omega
       ·simp [List.getD,List.getElem?_eq_none (show a.length<=i by omega)]
      have h6:b.getD i 0=0:=by simp [List.getD,List.getElem?_eq_none (show b.length<=i by omega)]
      omega)
     (by
      rw [Qev,<-hv,Wb a i,Wb b i,hl,Nat.pow_succ,Nat.mul_comm (10000^i) 10000,Int.natCast_mul]
      generalize hx:a.getD i 0+b.getD i 0+c=x
      have e2:x=10000*(x/10000)+x%10000:=(Int.mul_ediv_add_emod x 10000).symm
      generalize x/10000=q at *
      generalize x%10000=m at *
      subst e2
      generalize ((10000^i:Nat):Int)=p
      generalize valB 10000 (a.drop (i+1))=w
      generalize valB 10000 (b.drop (i+1))=w'
      generalize a.getD i 0=u at *
      generalize b.getD i 0=v at *
      have hc':c=10000*q+m-u-v:=by omega
      subst hc'
      grind)
    exact ⟨i',s',.step (λrec=>Q25 ha hb (by omega) (by omega) (by omega) hgo rec) r1,r2,r3,r4⟩
  ·have hc0:c=0:=by omega
   subst hc0
   refine ⟨i,s,.done λrec=>?_,hs,by omega,?_⟩
   ·unfold z107.l0b6P
    simp only
    rw [Qa (by omega),Qa (by omega),Qa (by omega)]
   ·rw [List.drop_eq_nil_of_le (by omega),List.drop_eq_nil_of_le (by omega)] at hv
    simpa [valB] using hv
theorem Qug {a b:List Int} (ha:inB 10000 a) (hb:inB 10000 b) (hal:a.length+b.length<=900000000):z107.F a b=some (dg (valB 10000 a+valB 10000 b).toNat):=by
 obtain ⟨i',s',r1,r2,r3,r4⟩:=Qmn ha hb hal (a.length+b.length+1) 0 0 [] (by omega) (by omega) rfl (inB_nil _) (by omega) (by omega) (by simp [valB])
 have e:z107.l0b6 a b ((0:Int),(0:Int),[])=some ((0:Int),i',s'):=r1.lfp
 unfold z107.F
 rw [e]
 simp only [Zb]
 rw [Qcf r2 (by show List.length _<=_;omega),r4]
 rfl
theorem Qoq {m n:Nat} (hl:(dg m).length+(dg n).length<=900000000):z107.F (dg m) (dg n)=some (dg (m+n)):=by
 rw [Qug (Qx b4 m) (Qx b4 n) hl,Q8 b4,Q8 b4]
 congr 2
theorem Qne {a b:List Int} (ha:inB 10000 a) (hb:inB 10000 b) (hl:a.length=b.length) (hal:a.length<=900000000):∀k:Nat,k<=a.length ->
  ∃o:Int⊕Int,Runs (λrec x=>z108.l0P a b rec some x) ((k:Int)-1) o/\(match o with | .inl _=>(0:Int) | .inr q=>q)=cmpI (valB 10000 (a.take k)) (valB 10000 (b.take k))
 |0,_=>⟨.inl (-1),.done λrec=>by unfold z108.l0P;rw [Qa (by omega)];rfl,by simp [cmpI,valB]⟩
 |
  k+1,hk=>by
  have hka:k<a.length:=by omega
  have hkb:k<b.length:=by omega
  have e0:((k+1:Nat):Int)-1=(k:Int):=by omega
  obtain ⟨p1,p2⟩:=Qha b4 ha hb hka hkb
  obtain ⟨p3,_⟩:=Qha b4 hb ha hkb hka
  have c1:(0:Int)<=(k:Int)/\(k:Int)<(a.length:Int):=by omega
  have c2:(0:Int)<=(k:Int)/\(k:Int)<(b.length:Int):=by omega
  rw [e0]
  rcases Int.lt_trichotomy a[k] b[k] with h|h|h
  ·refine ⟨.inr (-1),.done λrec=>?_,?_⟩
   ·unfold z108.l0P
    rw [bif_t (by omega),if_pos c1,if_pos c2,Zi,Wa hka,Wa hkb,bif_t h]
   ·have:=p1 h
    unfold cmpI;rw [if_pos this]
  ·obtain ⟨o,r1,r2⟩:=Qne ha hb hl hal k (by omega)
   refine ⟨o,.step (λrec=>?_) r1,?_⟩
   ·unfold z108.l0P
    rw [bif_t (by omega),Zi,Wa hka,Wa hkb]
    simp only [if_pos c1,if_pos c2]
    rw [Qa (by omega),Qa (by omega),Qc (by omega) (by omega)]
   ·rw [r2]
    have:=p2 h
    unfold cmpI
    split<;>split<;>(try split)<;>(try split)<;>first|rfl|omega
  ·refine ⟨.inr 1,.done λrec=>?_,?_⟩
   ·unfold z108.l0P
    rw [bif_t (by omega),Zi,Wa hka,Wa hkb]
    simp only [if_pos c1,if_pos c2]
    rw [Qa (by omega),bif_t h]
   ·have:=p3 h
    unfold cmpI;rw [if_neg (by omega),if_neg (by omega)]
theorem Qjy {m n:Nat} (hl:(dg m).length<=900000000):z108.F (dg m) (dg n)=some (cmpI m n):=by
 unfold z108.F
 by_cases he:(dg m).length=(dg n).length
 ·have e1:((dg m).length:Int)=((dg n).length:Int):=by omega
  rw [Zt e1]
  simp only [Zn,Zc]
  obtain ⟨o,r1,r2⟩:=Qne (Qx b4 m) (Qx b4 n) he hl (dg m).length (Nat.le_refl _)
  rw [Qc (by omega) (by omega)]
  unfold z108.l0
  rw [r1.lfp]
  simp only [Zb]
  rw [List.take_length,he,List.take_length,Q8 b4,Q8 b4] at r2
  rw [<-r2]
  cases o<;>rfl
 ·have e1:¬((dg m).length:Int)=((dg n).length:Int):=by omega
  rw [Zf e1]
  simp only [Zo,Zd]
  rcases Nat.lt_or_gt_of_ne he with h|h
  ·have:=Qb1 b4 h
   rw [bif_t (by omega)];unfold cmpI;rw [if_pos (by omega)]
  ·have:=Qb1 b4 h
   rw [Qa (by omega)];unfold cmpI;rw [if_neg (by omega),if_neg (by omega)]
theorem Qlk {a b:List Int} (ha:inB 10000 a) (hb:inB 10000 b) (hal:a.length<=900000000) :
  ∀
   (f i:Nat) (c:Int) (s:List Int),i+f=a.length->s.length=i->inB 10000 s->0<=c/\c<=1 ->
   valB 10000 s-c*(10000^i:Nat)=valB 10000 (a.take i)-valB 10000 (b.take i) ->
   ∃c' s',Runs (λrec x=>z109.l0P a b rec some x) (c,(i:Int),s) (c',(a.length:Int),s')/\inB 10000 s'/\s'.length=a.length/\(0<=c'/\c'<=1)/\valB 10000 s'-c'*(10000^a.length:Nat)=valB 10000 a-valB 10000 (b.take a.length)
 |
  0,i,c,s,hf,hl,hs,hc,hv=>by
  have:i=a.length:=by omega
  subst this
  refine ⟨c,s,.done λrec=>?_,hs,hl,hc,by rwa [List.take_length] at hv⟩
  unfold z109.l0P
  simp only
  rw [Qa (by omega)]
 |
  f+1,i,c,s,hf,hl,hs,hc,hv=>by
  have hi:i<a.length:=by omega
  have h1:=Q2 (B:=10000) (by decide) ha i
  have h2:=Q2 (B:=10000) (by decide) hb i
  have eb:valB 10000 (b.take (i+1))=valB 10000 (b.take i)+(10000^i:Nat)*b.getD i 0:=by
   by_cases hb':i<b.length
   ·rw [Yp hb',Wa hb']
   ·rw [List.take_of_length_le (by omega),List.take_of_length_le (by omega)]
    simp [List.getD,List.getElem?_eq_none (show b.length<=i by omega)]
  have e1:wr .i64 (a.getD i 0-b.getD i 0)=a.getD i 0-b.getD i 0:=Qc (by omega) (by omega)
  have e2:wr .i64 (a.getD i 0-b.getD i 0-c)=a.getD i 0-b.getD i 0-c:=Qc (by omega) (by omega)
  have e3:wr .i64 ((i:Int)+1)=((i+1:Nat):Int):=by rw [Qc (by omega) (by omega)];omega
  have e4:wr .i64 (a.getD i 0-b.getD i 0-c+10000)=a.getD i 0-b.getD i 0-c+10000:=Qc (by omega) (by omega)
  have c1:∀x:Int,(s.length+[x].length)*8<=140737488355328:=λx=>by simp;omega
  have c2:(0:Int)<=(i:Int)/\(i:Int)<(a.length:Int):=by omega
  by_cases hd:a.getD i 0-b.getD i 0-c<0
  ·obtain ⟨c',s',r1,r2,r3,r4,r5⟩:=Qlk ha hb hal f (i+1) 1 (s++[a.getD i 0-b.getD i 0-c+10000]) (by omega) (by simp [hl]) (Qep hs (by omega)) (by omega) (by
    rw [Qev,Yp hi,eb,hl,Nat.pow_succ,Nat.mul_comm (10000^i) 10000,Int.natCast_mul,<-Wa hi]
    generalize ((10000^i:Nat):Int)=p at *
    grind)
   refine ⟨c',s',.step (λrec=>?_) r1,r2,r3,r4,r5⟩
   unfold z109.l0P
   simp only [Qgb,Zb,Zi,e1,e2,e3,e4]
   rw [bif_t (by omega),if_pos c2,bif_t hd,if_pos (c1 _)]
  ·obtain ⟨c',s',r1,r2,r3,r4,r5⟩:=Qlk ha hb hal f (i+1) 0 (s++[a.getD i 0-b.getD i 0-c]) (by omega) (by simp [hl]) (Qep hs (by omega)) (by omega) (by
    rw [Qev,Yp hi,eb,hl,Nat.pow_succ,Nat.mul_comm (10000^i) 10000,Int.natCast_mul,<-Wa hi]
    generalize ((10000^i:Nat):Int)=p at *
    grind)
   refine ⟨c',s',.step (λrec=>?_) r1,r2,r3,r4,r5⟩
   unfold z109.l0P
   simp only [Qgb,Zb,Zi,e1,e2,e3,e4]
   rw [bif_t (by omega),if_pos c2,Qa hd,if_pos (c1 _)]
theorem Qh1 {m n:Nat} (hmn:n<=m) (hl:(dg m).length<=900000000):z109.F (dg m) (dg n)=some (dg (m-n)):=by
 obtain ⟨c',s',r1,r2,r3,r4,r5⟩:=Qlk (a:=dg m) (b:=dg n) (Qx b4 m) (Qx b4 n) hl (dg m).length 0 0 [] (by omega) rfl (inB_nil _) (by omega) (by simp [valB])
 have hlen:(dg n).length<=(dg m).length:=by
  rcases Nat.lt_or_ge (dg m).length (dg n).length with h|h
  ·have:=Qb1 b4 h;omega
  ·exact h
 rw [List.take_of_length_le hlen,Q8 b4,Q8 b4] at r5
 have h1:=Yb b4 r2
 rw [r3] at h1
 have hc:c'=0:=by
  rcases (show c'=0\/c'=1 by omega) with h|h
  ·exact h
  ·subst h;omega
 subst hc
 have e:z109.l0 (dg m) (dg n) ((0:Int),(0:Int),[])=some ((0:Int),((dg m).length:Int),s'):=r1.lfp
 unfold z109.F
 rw [e]
 simp only [Zb]
 rw [Qcf r2 (by show List.length _<=_;omega)]
 simp only [Zb]
 congr 2;omega
theorem Qsj {s:List UInt8} (hs:Qv s) (hl:s.length<=900000000) (e:Nat) (he:e<=s.length):∀(f i:Nat) (d:Int),i+f=e->f<=4->0<=d/\d<10^12/(10^f:Nat) ->
  Runs (λrec x=>z101.l2P s (e:Int) rec some x) (d,(i:Int)) (tv d ((s.take e).drop i),(e:Int))
 |
  0,i,d,hf,_,_=>by
  have:i=e:=by omega
  subst this
  refine .done λrec=>?_
  unfold z101.l2P
  simp only
  rw [Qa (by omega),List.drop_eq_nil_of_le (by simp;omega)]
  rfl
 |
  f+1,i,d,hf,h4,hd=>by
  have hi:i<s.length:=by omega
  have hb:=hs s[i] (List.getElem_mem hi)
  unfold digit at hb
  have hd':d<10^11:=by
   have:f=0\/f=1\/f=2\/f=3:=by omega
   rcases this with rfl|rfl|rfl|rfl<;>simp at hd ⊢<;>omega
  have hn:0<=10*d+(s[i].toNat:Int)-48/\10*d+(s[i].toNat:Int)-48<10^12/(10^f:Nat):=by
   have:f=0\/f=1\/f=2\/f=3:=by omega
   rcases this with rfl|rfl|rfl|rfl<;>simp at hd ⊢<;>omega
  have ih:=Qsj hs hl e he f (i+1) (10*d+(s[i].toNat:Int)-48) (by omega) (by omega) hn
  have hlt:i<(s.take e).length:=by simp;omega
  rw [List.drop_eq_getElem_cons hlt,List.getElem_take]
  refine .step (λrec=>?_) ih
  unfold z101.l2P
  simp only
  have eg:s.getD i 0=s[i]:=by simp [List.getD,hi]
  rw [bif_t (by omega),if_pos (by omega),Zi,eg,Qc (n:=10*d) (by omega) (by omega),Qc (n:=(s[i].toNat:Int)) (by omega) (by omega),Qc (n:=10*d+(s[i].toNat:Int)) (by omega) (by omega),Qc (n:=10*d+(s[i].toNat:Int)-48) (by omega) (by omega),Qc (n:=(i:Int)+1) (by omega) (by omega)]
  rfl
theorem Qnr {s:List UInt8} (hs:Qv s) (hl:s.length<=900000000):∀(f e:Nat) (out:List Int),e<=4*f->e<=s.length->out.length<=900000000-e->inB 10000 out->valB 10000 out+(10000^out.length:Nat)*tv 0 (s.take e)=tv 0 s ->
  ∃e' out',Runs (λrec x=>z101.l0P s rec some x) ((e:Int),out) (e',out')/\inB 10000 out'/\out'.length<=900000004/\valB 10000 out'=tv 0 s
 |
  0,e,out,hf,he,ho,hi,hv=>by
  have:e=0:=by omega
  subst this
  refine ⟨0,out,.done λrec=>?_,hi,by omega,by simpa [tv] using hv⟩
  unfold z101.l0P;simp
 |
  f+1,e,out,hf,he,ho,hi,hv=>by
  rcases Nat.eq_zero_or_pos e with rfl|h0
  ·refine ⟨0,out,.done λrec=>?_,hi,by omega,by simpa [tv] using hv⟩
   unfold z101.l0P;simp
  ·have hds:Qv ((s.take e).drop (e-4)):=λb hb=>hs b (List.mem_of_mem_take (List.mem_of_mem_drop hb))
   have hlen:((s.take e).drop (e-4)).length<=4:=by rw [List.length_drop,List.length_take];omega
   have htb:=Jh hds
   have hlt:tv 0 ((s.take e).drop (e-4))<10000:=by
    have h1:(10^((s.take e).drop (e-4)).length:Nat)<=10^4:=Nat.pow_le_pow_right (by decide) hlen
    have h2:((10^((s.take e).drop (e-4)).length:Nat):Int)<=10000:=Int.ofNat_le.2 h1
    omega
   have r:=Qsj hs hl e he (e-(e-4)) (e-4) 0 (by omega) (by omega) ⟨Int.le_refl 0,by
    have:e-(e-4)=1\/e-(e-4)=2\/e-(e-4)=3\/e-(e-4)=4:=by omega
    rcases this with h|h|h|h<;>rw [h]<;>omega⟩
   have er:z101.l2 s (e:Int) ((0:Int),((e-4:Nat):Int))=some (tv 0 ((s.take e).drop (e-4)),(e:Int)):=r.lfp
   have e1:wr .i64 ((e:Int)-4)=(e:Int)-4:=Qc (by omega) (by omega)
   have e2:(if (e:Int)-4>0 then (e:Int)-4 else 0)=((e-4:Nat):Int):=by split<;>omega
   have c1:∀x:Int,(out.length+[x].length)*8<=140737488355328:=λx=>by simp;omega
   have step:∀rec,z101.l0P s rec some ((e:Int),out)=rec ((e:Int)-4,out++[tv 0 ((s.take e).drop (e-4))]):=λrec=>by
    unfold z101.l0P
    simp only [e1,e2]
    rw [bif_t (by omega),er]
    simp only [Zb]
    rw [if_pos (c1 _)]
   by_cases h4:4<=e
   ·obtain ⟨e',out',r1,r2,r3,r4⟩:=Qnr hs hl f (e-4) (out++[tv 0 ((s.take e).drop (e-4))]) (by omega) (by omega) (by rw [List.length_append,List.length_singleton];omega) (Qep hi (by omega)) (by
     rw [Qev,<-hv]
     have e3:s.take e=s.take (e-4)++(s.take e).drop (e-4):=by
      have:=List.take_append_drop (e-4) (s.take e)
      rw [List.take_take,Nat.min_eq_left (by omega)] at this
      exact this.symm
     have e4:tv 0 (s.take e)=tv 0 (s.take (e-4))*10000+tv 0 ((s.take e).drop (e-4)):=by
      conv=>lhs;rw [e3]
      rw [Qfz,Qc8]
      have:((s.take e).drop (e-4)).length=4:=by rw [List.length_drop,List.length_take];omega
      rw [this];rfl
     rw [e4,List.length_append,List.length_singleton,Nat.pow_succ,Int.natCast_mul]
     generalize ((10000^out.length:Nat):Int)=p
     grind)
    have e5:(e:Int)-4=((e-4:Nat):Int):=by omega
    exact ⟨e',out',.step (λrec=>by rw [step rec,e5]) r1,r2,r3,r4⟩
   ·refine ⟨(e:Int)-4,out++[tv 0 ((s.take e).drop (e-4))],.step step (.done λrec=>?_),Qep hi (by omega),by rw [List.length_append,List.length_singleton];omega,?_⟩
    ·unfold z101.l0P
     simp only
     rw [Qa (by omega)]
    ·have e6:e-4=0:=by omega
     rw [Qev,<-hv,e6,List.drop_zero]
theorem Qfu {s:List UInt8} (hs:Qv s) (hl:s.length<=800000000):z101.F s=some (dg (tv 0 s).toNat):=by
 obtain ⟨e',out',r1,r2,r3,r4⟩:=Qnr hs (by omega) s.length s.length [] (by omega) (Nat.le_refl _) (Nat.zero_le _) (inB_nil _) (by simp [valB])
 have e:z101.l0 s ((s.length:Int),[])=some (e',out'):=r1.lfp
 unfold z101.F
 rw [e]
 simp only [Zb]
 rw [Qcf r2 (by show List.length _<=_;omega),r4]
 rfl
theorem dg_len0 (n:Nat):(((dg n).length:Nat):Int)=0↔n=0:=by
 constructor
 ·intro h;exact (toB_nil b4).1 (List.length_eq_zero_iff.1 (Int.ofNat_eq_zero.1 h))
 ·rintro rfl;simp [dg,toB_zero]
theorem Qhn (n:Nat):(((dg n).length:Nat):Int)>0↔0<n:=by
 have:=dg_len0 n;omega
theorem Qem (n:Nat) (b:Bool):z7.F (dg n) b=some (dg n,b&&decide (0<n)):=by
 unfold z7.F
 cases b
 ·rfl
 ·simp only [Zd,Bool.true_and]
  congr 2
  exact decide_eq_decide.2 (Qhn n)
theorem ref04_Of' {z:Int} {b:Bool} (h:(b=true/\z<=0)\/(b=false/\0<=z)):z7.F (dg z.natAbs) b=some (dg z.natAbs,neg z):=by
 rw [Qem]
 congr 2
 rcases h with ⟨rfl,h⟩|⟨rfl,h⟩
 ·rw [Bool.true_and];exact decide_eq_decide.2 (by omega)
 ·rw [Bool.false_and];symm;exact Zf (by omega)
theorem Wk {z:Int} (h:-9223372036854775808<z/\z<9223372036854775808):z9.F z=some (dg z.natAbs,neg z):=by
 unfold z9.F
 by_cases hz:z<0
 ·have e:wr .i64 (0-z)=((z.natAbs:Nat):Int):=by rw [Qc (by omega) (by omega)];omega
  rw [bif_t hz,e,Qfk (by omega)]
  simp only [Zb]
  rw [ref04_Of' (z:=z) (.inl ⟨rfl,by omega⟩)];rfl
 ·have e:z=((z.natAbs:Nat):Int):=by omega
  rw [Qa hz]
  conv=>lhs;rw [e]
  rw [Qfk (by omega)]
  simp only [Zb]
  rw [ref04_Of' (z:=z) (.inr ⟨rfl,by omega⟩)];rfl
theorem Qkc (z:Int):z106.F (dg z.natAbs) (neg z)=some (dg (-z).natAbs,neg (-z)):=by
 unfold z106.F
 have e:z.natAbs=(-z).natAbs:=by omega
 rw [e,Qem]
 simp only [Zb]
 congr 2
 show (!decide (z<0)&&_)=decide (-z<0)
 by_cases h:z<0
 ·rw [Zt h];symm;simp;omega
 ·rw [Zf h,Zo,Bool.true_and];exact decide_eq_decide.2 (by omega)
theorem Qhi {x y:Int} (hl:(dg x.natAbs).length+(dg y.natAbs).length<=900000000):z16.F (dg x.natAbs) (neg x) (dg y.natAbs) (neg y)=some (dg (x*y).natAbs,neg (x*y)):=by
 unfold z16.F
 rw [Qdp hl,<-Int.natAbs_mul]
 simp only [Zb]
 rw [Qem]
 simp only [Zb]
 congr 2
 have h0:0<(x*y).natAbs↔x≠0/\y≠0:=by
  rw [Int.natAbs_mul]
  constructor
  ·intro h;exact ⟨by rintro rfl;simp at h,by rintro rfl;simp at h⟩
  ·rintro ⟨h1,h2⟩;exact Nat.mul_pos (by omega) (by omega)
 rw [Bool.eq_iff_iff]
 simp only [Bool.and_eq_true,Bool.not_eq_true',decide_eq_true_eq,decide_eq_false_iff_not,h0]
 rcases Int.lt_trichotomy x 0 with hx|hx|hx<;>rcases Int.lt_trichotomy y 0 with hy|hy|hy
 ·have:=Int.mul_pos_of_neg_of_neg hx hy;simp [hx,hy];omega
 ·subst hy;simp
 ·have:=Int.mul_neg_of_neg_of_pos hx hy;simp [hx];omega
 ·subst hx;simp
 ·subst hx;simp
 ·subst hx;simp
 ·have:=Int.mul_neg_of_pos_of_neg hx hy;simp [hy];omega
 ·subst hy;simp
 ·have:=Int.mul_pos hx hy;simp;omega
theorem Qkl {z:Int} (hs:4*(dg z.natAbs).length<=1000000000) (hl:(txt z.natAbs).length<=1000000000):z6.F (dg z.natAbs) (neg z)=some (if z<0 then 45::txt z.natAbs else txt z.natAbs):=by
 unfold z6.F
 rw [Qle hs]
 simp only [Zb]
 by_cases h:z<0
 ·rw [bif_t h,if_pos (by simp;omega),if_pos h];rfl
 ·rw [Qa h,if_neg h]
theorem Y5 {z:Int} {n:Nat} {b:Bool} (hn:n=z.natAbs) (h:(b=true/\z<=0)\/(b=false/\0<=z)):z7.F (dg n) b=some (dg z.natAbs,neg z):=by
 subst hn;exact ref04_Of' h
theorem Qd8 {x y:Int} (hl:(dg x.natAbs).length+(dg y.natAbs).length<=900000000):z110.F (dg x.natAbs) (neg x) (dg y.natAbs) (neg y)=some (dg (x+y).natAbs,neg (x+y)):=by
 unfold z110.F
 by_cases hs:neg x=neg y
 ·have hs':(x<0↔y<0):=by simpa [neg] using hs
  rw [bif_t hs,Qoq hl]
  simp only [Zb]
  rw [Y5 (z:=x+y) (by omega) (by by_cases hx:x<0;exact .inl ⟨Zt hx,by omega⟩;exact .inr ⟨Zf hx,by omega⟩)]
  rfl
 ·have hs':¬(x<0↔y<0):=by simpa [neg] using hs
  rw [Qa hs,Qjy (by omega)]
  simp only [Zb]
  by_cases hc:cmpI (x.natAbs:Int) (y.natAbs:Int)>=0
  ·have hc':=W7.1 hc
   rw [bif_t hc,Qh1 (by omega) (by omega)]
   simp only [Zb]
   rw [Y5 (z:=x+y) (by omega) (by by_cases hx:x<0;exact .inl ⟨Zt hx,by omega⟩;exact .inr ⟨Zf hx,by omega⟩)]
   rfl
  ·have hc':¬((y.natAbs:Int)<=x.natAbs):=λh=>hc (W7.2 h)
   rw [Qa hc,Qh1 (by omega) (by omega)]
   simp only [Zb]
   rw [Y5 (z:=x+y) (by omega) (by by_cases hy:y<0;exact .inl ⟨Zt hy,by omega⟩;exact .inr ⟨Zf hy,by omega⟩)]
   rfl
theorem Qf5 {x y:Int} (hl:(dg x.natAbs).length+(dg y.natAbs).length<=900000000):z111.F (dg x.natAbs) (neg x) (dg y.natAbs) (neg y)=some (dg (x-y).natAbs,neg (x-y)):=by
 unfold z111.F
 rw [Qkc]
 simp only [Zb]
 rw [Qd8 (by rw [Int.natAbs_neg];exact hl)]
 rfl
theorem Qvo (z:Int):z112.F (dg z.natAbs) (neg z)=some (cmpI z 0):=by
 unfold z112.F cmpI
 by_cases h0:z=0
 ·subst h0;rw [bif_t ((dg_len0 (Int.natAbs 0)).2 rfl)];rfl
 ·rw [Qa (λh=>h0 (by have:=(dg_len0 _).1 h;omega))]
  by_cases h:z<0
  ·rw [bif_t h,if_pos h]
  ·rw [Qa h,if_neg h,if_neg h0]
theorem Qj2 {x y:Int} (hl:(dg x.natAbs).length+(dg y.natAbs).length<=900000000):z113.F (dg x.natAbs) (neg x) (dg y.natAbs) (neg y)=some (cmpI x y):=by
 unfold z113.F
 rw [Qf5 hl]
 simp only [Zb]
 rw [Qvo,Qnj]
 rfl
theorem Qp (n:Nat):(dg n).length<=sz n:=Yj b4 (Nat.lt_of_lt_of_le (J6 n) (Nat.pow_le_pow_left (by decide) _))
theorem Qcg:dg 0=[]:=toB_zero 10000
theorem Qj9 (y:Int):z10.F y=some (decide (goodY y/\leap y)):=by
 unfold z10.F z10.j1
 simp only [Qc2 (show (0:Int)<4 by decide),Qc2 (show (0:Int)<100 by decide),Qc2 (show (0:Int)<400 by decide)]
 by_cases h1:y<1
 ·rw [bif_t h1];congr 1;symm;exact Zf (by omega)
 ·rw [Qa h1]
  by_cases h2:y>9999
  ·rw [bif_t h2];congr 1;symm;exact Zf (by omega)
  ·rw [Qa h2]
   by_cases h4:y%400=0
   ·rw [bif_t h4];congr 1;symm;exact Zt (by omega)
   ·rw [Qa h4]
    by_cases h3:y%4=0
    ·rw [bif_t h3];congr 1
     by_cases h5:y%100=0
     ·rw [Zt h5];symm;exact Zf (by omega)
     ·rw [Zf h5];symm;exact Zt (by omega)
    ·rw [Qa h3];congr 1;symm;exact Zf (by omega)
theorem Qcx (y m:Int):z11.F y m=some (dDays y m):=by
 unfold z11.F z11.j1 dDays
 by_cases h0:y<1
 ·rw [bif_t h0,if_pos (by omega)]
 ·rw [Qa h0]
  by_cases h9:y>9999
  ·rw [bif_t h9,if_pos (by omega)]
  ·rw [Qa h9]
   by_cases h1:m<1
   ·rw [bif_t h1,if_pos (by omega)]
   ·rw [Qa h1]
    by_cases h12:m>12
    ·rw [bif_t h12,if_pos (by omega)]
    ·rw [Qa h12,if_neg (by omega)]
     by_cases h2:m=2
     ·rw [bif_t h2,if_pos h2,Qj9]
      simp only [Zb]
      by_cases hl:leap y
      ·rw [Zt ⟨by omega,hl⟩,if_pos hl];rfl
      ·rw [Zf (λhh=>hl hh.2),if_neg hl];rfl
     ·rw [Qa h2,if_neg h2]
      by_cases g4:m=4
      ·rw [bif_t g4,if_pos (.inl g4)]
      ·rw [Qa g4]
       by_cases g6:m=6
       ·rw [bif_t g6,if_pos (by omega)]
       ·rw [Qa g6]
        by_cases g9:m=9
        ·rw [bif_t g9,if_pos (by omega)]
        ·rw [Qa g9]
         by_cases g11:m=11
         ·rw [bif_t g11,if_pos (by omega)]
         ·rw [Qa g11,if_neg (by omega)]
theorem Y3 (y m d:Int):z126.F y m d=some (decide (right y m d)):=by
 unfold z126.F
 rw [Qcx]
 simp only [Zb]
 by_cases h:d>=1
 ·rw [bif_t h];congr 1;exact decide_eq_decide.2 (by omega)
 ·rw [Qa h];congr 1;symm;exact Zf (by omega)
def addM (y m d k:Int):Int×Int×Int:=(((12*y+m-1)+k)/12,((12*y+m-1)+k)%12+1,min d (dDays (((12*y+m-1)+k)/12) (((12*y+m-1)+k)%12+1)))
theorem Qpm (a b:Int):(if a<b then a else b)=min b a:=by omega
theorem month_Add {y m d k:Int}:z90.F y m d k=some (if right y m d/\okM y m k then ((addM y m d k).1,(addM y m d k).2.1,(addM y m d k).2.2,0) else (0,0,0,11)):=by
 unfold z90.F
 rw [date_Check]
 simp only [Zb]
 by_cases h:right y m d
 ·have hg:=Q3 h
  rw [if_pos h]
  simp only [decide_true,Zn,Zc]
  by_cases h1:k < -119988
  ·rw [bif_t h1,if_neg (by omega)]
  ·rw [Qa h1]
   by_cases h2:k>119988
   ·rw [bif_t h2,if_neg (by omega)]
   ·rw [Qa h2]
    unfold z90.j2 z90.j3
    rw [Qc (n:=12*y) (by omega) (by omega),Qc (n:=12*y+m) (by omega) (by omega),Qc (n:=12*y+m-1) (by omega) (by omega),Qc (n:=12*y+m-1+k) (by omega) (by omega)]
    by_cases h3:12*y+m-1+k<12
    ·rw [bif_t h3,if_neg (by omega)]
    ·rw [Qa h3,Yd (by omega),Qc (n:=(12*y+m-1+k)/12) (by omega) (by omega)]
     by_cases h4:(12*y+m-1+k)/12>9999
     ·rw [bif_t h4,if_neg (by omega)]
     ·rw [Qa h4,Yk (by omega),Qc (n:=(12*y+m-1+k)%12+1) (by omega) (by omega),date_Days,if_pos (by exact ⟨h,by omega⟩)]
      simp only [Zb,Qpm]
      rfl
 ·rw [if_neg h,if_neg (λhh=>h hh.1)];rfl
theorem Qr6:∀(f:Nat) (y m:Int),0<=y/\y<=1000000-f->m<=12*f+12/\-1000000<=m->∃y' m',Runs (λrec x=>z127.l0P rec some x) (y,m) (y',m')/\12*y'+m'=12*y+m/\m'<=12/\(m'=m/\y'=y\/1<=m')
 |0,y,m,hy,hm=>⟨y,m,.done λrec=>by unfold z127.l0P;simp only;rw [Qa (by omega)],rfl,by omega,.inl ⟨rfl,rfl⟩⟩
 |
  f+1,y,m,hy,hm=>by
  by_cases h:m>12
  ·obtain ⟨y',m',r,e1,e2,e3⟩:=Qr6 f (y+1) (m-12) (by omega) (by omega)
   refine ⟨y',m',.step (λrec=>?_) r,by omega,e2,.inr (by omega)⟩
   unfold z127.l0P
   simp only
   rw [bif_t h,Qc (by omega) (by omega),Qc (by omega) (by omega)]
  ·exact ⟨y,m,.done λrec=>by unfold z127.l0P;simp only;rw [Qa h],rfl,by omega,.inl ⟨rfl,rfl⟩⟩
theorem Qlu:∀(f:Nat) (y m:Int),-1000000+f<=y/\y<=1000000->1<=m+12*f/\m<=12->∃y' m',Runs (λrec x=>z127.l2P rec some x) (y,m) (y',m')/\12*y'+m'=12*y+m/\1<=m'/\m'<=12
 |0,y,m,hy,hm=>⟨y,m,.done λrec=>by unfold z127.l2P;simp only;rw [Qa (by omega)],rfl,by omega,by omega⟩
 |
  f+1,y,m,hy,hm=>by
  by_cases h:m<1
  ·obtain ⟨y',m',r,e1,e2,e3⟩:=Qlu f (y-1) (m+12) (by omega) (by omega)
   refine ⟨y',m',.step (λrec=>?_) r,by omega,e2,e3⟩
   unfold z127.l2P
   simp only
   rw [bif_t h,Qc (by omega) (by omega),Qc (by omega) (by omega)]
  ·exact ⟨y,m,.done λrec=>by unfold z127.l2P;simp only;rw [Qa h],rfl,by omega,by omega⟩
theorem Qqf {y m d k:Int} (h:right y m d):z127.F y m d k=some (if okM y m k then ((addM y m d k).1,(addM y m d k).2.1,(addM y m d k).2.2,true) else (0,0,0,false)):=by
 have hg:=Q3 h
 unfold z127.F
 by_cases h1:k>200000
 ·rw [bif_t h1,if_neg (by omega)]
 ·rw [Qa h1]
  by_cases h2:k < -200000
  ·rw [bif_t h2,if_neg (by omega)]
  ·rw [Qa h2]
   obtain ⟨y1,m1,r1,a1,a2,a3⟩:=Qr6 17000 y (m+k) (by omega) (by omega)
   obtain ⟨y2,m2,r2,b1,b2,b3⟩:=Qlu 17000 y1 m1 (by omega) (by omega)
   have e1:z127.l0 (y,m+k)=some (y1,m1):=r1.lfp
   have e2:z127.l2 (y1,m1)=some (y2,m2):=r2.lfp
   unfold z127.j1
   rw [Qc (by omega) (by omega),e1]
   simp only [Zb]
   rw [e2]
   simp only [Zb]
   have hy:y2=((12*y+m-1)+k)/12:=by omega
   have hm:m2=((12*y+m-1)+k)%12+1:=by omega
   by_cases h3:y2<1
   ·rw [bif_t h3,if_neg (by omega)]
   ·rw [Qa h3]
    by_cases h4:y2>9999
    ·rw [bif_t h4,if_neg (by omega)]
    ·rw [Qa h4,if_pos (by omega),Qcx]
     simp only [Zb,Qpm]
     rw [hy,hm];rfl
theorem terms_Word (k:Int):∃w,z78.F k=some w/\decide (w=[])=decide (¬(0<=k/\k<=2)):=by
 unfold z78.F
 by_cases h:k<0
 ·rw [bif_t h];exact ⟨_,rfl,by simp;omega⟩
 ·rw [Qa h]
  by_cases h':k>=3
  ·rw [bif_t h'];exact ⟨_,rfl,by simp;omega⟩
  ·rw [Qa h']
   have:k=0\/k=1\/k=2:=by omega
   rcases this with rfl|rfl|rfl<;>exact ⟨_,rfl,rfl⟩
theorem Q0p {e:Int} (h:1<=e) (h5:e≠5):Int.tmod 12 e=0↔Qbo e:=by
 rw [Yk (by decide)]
 by_cases hb:12<e
 ·rw [Int.emod_eq_of_lt (by decide) hb];omega
 ·have:e=1\/e=2\/e=3\/e=4\/e=6\/e=7\/e=8\/e=9\/e=10\/e=11\/e=12:=by omega
  rcases this with rfl|rfl|rfl|rfl|rfl|rfl|rfl|rfl|rfl|rfl|rfl<;>decide
theorem terms_odd (t:Tm):z85.F t.p t.r t.kind t.basis t.mode t.y t.m t.d t.every t.count=some (decide (¬kindsOK t)):=by
 obtain ⟨w1,e1,d1⟩:=terms_Word t.kind
 obtain ⟨w2,e2,d2⟩:=Qmd t.basis
 obtain ⟨w3,e3,d3⟩:=Qjh t.mode
 unfold z85.F
 rw [e1]
 simp only [Zb]
 rw [d1]
 by_cases h1:0<=t.kind/\t.kind<=2
 ·rw [Qa (λhh=>hh h1),e2]
  simp only [Zb]
  rw [d2]
  by_cases h2:0<=t.basis/\t.basis<=2
  ·rw [Qa (λhh=>hh h2),e3]
   simp only [Zb]
   rw [d3]
   by_cases h3:0<=t.mode/\t.mode<=4
   ·rw [Qa (λhh=>hh h3)]
    by_cases h4:t.every<1
    ·rw [bif_t h4];congr 1;symm;exact Zt (by omega)
    ·rw [Qa h4]
     by_cases h5:t.every=5
     ·rw [bif_t h5];congr 1;symm;exact Zt (by omega)
     ·rw [Qa h5,if_neg (by omega)]
      congr 1
      have:=Q0p (e:=t.every) (by omega) h5
      rw [<-decide_not]
      exact decide_eq_decide.2 (by omega)
   ·rw [bif_t h3];congr 1;symm;exact Zt (by omega)
  ·rw [bif_t h2];congr 1;symm;exact Zt (by omega)
 ·rw [bif_t h1];congr 1;symm;exact Zt (by omega)
theorem terms_Check (t:Tm):z91.F t.p t.r t.kind t.basis t.mode t.y t.m t.d t.every t.count=some (mCheck t):=by
 unfold z91.F mCheck
 rw [terms_Money]
 simp only [Zb]
 by_cases h1:(mMoney t.p).2=0
 ·rw [Zt h1,if_neg (by omega)]
  simp only [Zn,Zc]
  rw [W0]
  simp only [Zb]
  by_cases h2:(mMoney t.p).1=0
  ·rw [bif_t (Yt.2 h2),if_pos h2]
  ·rw [Qa (λh=>h2 (Yt.1 h)),if_neg h2,terms_Rate]
   simp only [Zb]
   by_cases h3:(mRate t.r).2=0
   ·rw [Zt h3,if_neg (by omega)]
    simp only [Zn,Zc]
    rw [terms_odd]
    simp only [Zb]
    by_cases h4:kindsOK t
    ·rw [Qa (λhh=>hh h4),if_neg (λhh=>hh h4)]
     by_cases h5:t.count<1
     ·rw [bif_t h5,if_pos (.inl h5)]
     ·rw [Qa h5]
      by_cases h6:t.count>1200
      ·rw [bif_t h6,if_pos (.inr h6)]
      ·have hb:=Qe5 (e:=t.every) (c:=t.count) h4.2.2.2 (by omega)
       rw [Qa h6,if_neg (by omega),Qc (by omega) (by omega),month_Add]
       simp only [Zb]
       by_cases h7:right t.y t.m t.d/\okM t.y t.m (t.every*t.count)
       ·rw [if_pos h7,if_pos h7]
       ·rw [if_neg h7,if_neg h7]
    ·rw [bif_t h4,if_pos h4]
   ·rw [Zf h3,if_pos h3];rfl
 ·rw [Zf h1,if_pos h1];rfl
theorem Qjz {a b:Int} (hb:0<b):(Int.tmod a b<0->Int.tmod a b+b=a%b)/\(¬Int.tmod a b<0->Int.tmod a b=a%b)/\-b<Int.tmod a b/\Int.tmod a b<b:=by
 have h1:=Int.emod_nonneg a (show b≠0 by omega)
 have h2:=Int.emod_lt_of_pos a hb
 have h3:=Int.tmod_eq_emod (a:=a) (b:=b)
 by_cases h:0<=a\/b∣a
 ·rw [if_pos h] at h3;omega
 ·rw [if_neg h] at h3
  have:a%b≠0:=λe=>h (.inr (Int.dvd_of_emod_eq_zero e))
  omega
theorem Qks {a b c n:Int} (hn:1<=n/\n<=9999):∃y m d,z12.F a b c n=some (y,m,d)/\right y m d/\y<=n:=by
 have f1:=Qjz (a:=a) (b:=n) (by omega)
 have f2:=Qjz (a:=b) (b:=12) (by omega)
 have m1:=Int.emod_nonneg a (show n≠0 by omega)
 have m2:=Int.emod_lt_of_pos a (show 0<n by omega)
 have hd:=Qbn (y:=a%n+1) (m:=b%12+1) (by omega) (by omega)
 have hd':=Qdg (a%n+1) (b%12+1)
 have f3:=Qjz (a:=c) (b:=dDays (a%n+1) (b%12+1)) (by omega)
 have m5:=Int.emod_nonneg c (show dDays (a%n+1) (b%12+1)≠0 by omega)
 have m6:=Int.emod_lt_of_pos c (show 0<dDays (a%n+1) (b%12+1) by omega)
 refine ⟨a%n+1,b%12+1,c%dDays (a%n+1) (b%12+1)+1,?_,⟨by omega,by omega⟩,by omega⟩
 have hj8:∀j,j=b%12->Int.tmod a n=a%n->z12.j8 a n j c=some (a%n+1,b%12+1,c%dDays (a%n+1) (b%12+1)+1):=λj hj ht=>by
  subst hj
  unfold z12.j8
  rw [ht,Qc (n:=a%n+1) (by omega) (by omega),Qc (n:=b%12+1) (by omega) (by omega),Qcx]
  simp only [Zb]
  rw [if_neg (by omega)]
  generalize dDays (a%n+1) (b%12+1)=k at *
  by_cases h:Int.tmod c k<0
  ·rw [bif_t h,Qc (n:=Int.tmod c k+k) (by omega) (by omega),f3.1 h,Qc (by omega) (by omega)]
  ·rw [Qa h,f3.2.1 h,Qc (by omega) (by omega)]
 have hj5:∀j,j=b%12->Int.tmod a n<0->z12.j5 a n j c=some (a%n+1,b%12+1,c%dDays (a%n+1) (b%12+1)+1):=λj hj ht=>by
  subst hj
  unfold z12.j5 z12.j7
  rw [Qc (n:=Int.tmod a n+n) (by omega) (by omega),f1.1 ht,Qc (n:=a%n+1) (by omega) (by omega),Qc (n:=b%12+1) (by omega) (by omega),Qcx]
  simp only [Zb]
  rw [if_neg (by omega)]
  generalize dDays (a%n+1) (b%12+1)=k at *
  by_cases h:Int.tmod c k<0
  ·rw [bif_t h,Qc (n:=Int.tmod c k+k) (by omega) (by omega),f3.1 h,Qc (by omega) (by omega)]
  ·rw [Qa h,f3.2.1 h,Qc (by omega) (by omega)]
 unfold z12.F
 rw [if_neg (by omega)]
 by_cases h1:Int.tmod a n<0
 ·rw [bif_t h1]
  by_cases h2:Int.tmod b 12<0
  ·rw [bif_t h2,Qc (by omega) (by omega),f2.1 h2];exact hj5 _ rfl h1
  ·rw [Qa h2,f2.2.1 h2];exact hj5 _ rfl h1
 ·rw [Qa h1]
  by_cases h2:Int.tmod b 12<0
  ·rw [bif_t h2,Qc (by omega) (by omega),f2.1 h2];exact hj8 _ rfl (f1.2.1 h1)
  ·rw [Qa h2,f2.2.1 h2];exact hj8 _ rfl (f1.2.1 h1)
theorem Qw4 (s:List UInt8) (k:Nat) (hk:k<=1000000000):∀(f:Nat),k+1-s.length=f->Runs (λrec x=>z17.l0P (k:Int) rec some x) s (List.replicate f 48++s):=by
 intro f
 induction f generalizing s with
 |
  zero=>
  intro h
  refine .done λrec=>?_
  unfold z17.l0P
  rw [Qa (by omega)];rfl
 |
  succ f ih=>
  intro h
  have:=ih (48::s) (by simp;omega)
  have e:List.replicate f (48:UInt8)++48::s=List.replicate (f+1) 48++s:=by
   rw [List.replicate_succ',List.append_assoc];rfl
  rw [e] at this
  refine .step (λrec=>?_) this
  unfold z17.l0P
  rw [bif_t (by omega),if_pos (by simp;omega)]
  rfl
theorem Qty {n k:Nat} (hk:0<k/\k<=1000000) (hn:4*(dg n).length<=1000000000) (hl:(txt n).length<=100000000):z17.F (dg n) false (k:Int)=some (decTxt n k):=by
 have r:=Qw4 (txt n) k (by omega) _ rfl
 have e:z17.l0 (k:Int) (txt n)=some (padded n k):=r.lfp
 have pl:=Qnl n k
 unfold z17.F
 rw [Qle hn]
 simp only [Zb]
 rw [e]
 simp only [Zb]
 have ew:wr .i64 (((padded n k).length:Int)-(k:Int))=(((padded n k).length-k:Nat):Int):=by rw [Qc (by omega) (by omega)];omega
 rw [bif_t (by omega),ew,if_pos (by omega),if_pos (by simp;omega),if_pos (by omega),if_pos (by simp;omega),Zi]
 unfold z17.j3 decTxt
 simp
theorem shr2 (a:Int):Int.fdiv a (2^(min 2 (64:Nat)))=a/4:=by
 rw [Int.fdiv_eq_ediv_of_nonneg _ (by decide)];rfl
theorem shr4 (a:Int):Int.fdiv a (2^(min 4 (64:Nat)))=a/16:=by
 rw [Int.fdiv_eq_ediv_of_nonneg _ (by decide)];rfl
theorem Js {a b:Int} (ha:0<=a) (hb:0<b):Int.tmod a b=a%b/\0<=a%b/\a%b<b:=⟨Yk ha,Int.emod_nonneg a (by omega),Int.emod_lt_of_pos a hb⟩
theorem Qgx {a0 a1 a2 a3 a4 a5 a6 a7 a8 a9 a10 a11 most:Int} (h0:0<=a0/\a0<18446744073709551616) (h1:0<=a1/\a1<65536) (h2:0<=a2/\a2<4294967296) (h3:0<=a3/\a3<256) (h4:0<=a4/\a4<256) (h5:0<=a5/\a5<256)
  (h6:0<=a6/\a6<256) (h7:0<=a7/\a7<256) (h8:0<=a8/\a8<256) (hm:1<=most/\most<=1000) :
  ∃t:Tm,Good t most/\z18.F a0 a1 a2 a3 a4 a5 a6 a7 a8 a9 a10 a11 most=some (t.p,t.r,t.kind,t.basis,t.mode,t.y,t.m,t.d,t.every,t.count):=by
 obtain ⟨y,m,d,ed,hd,hy⟩:=Qks (a:=a9) (b:=a10) (c:=a11) (n:=9000) (by omega)
 have w8:wr .i64 a8=a8:=Qc (by omega) (by omega)
 have t8:=Js h8.1 (show (0:Int)<7 by decide)
 have t7:=Js h7.1 (show 0<most by omega)
 have t6:=Js h6.1 (show (0:Int)<5 by decide)
 have t5:=Js h5.1 (show (0:Int)<3 by decide)
 have t4:=Js h4.1 (show (0:Int)<3 by decide)
 have t3:=Js h3.1 (show (0:Int)<7 by decide)
 have t2:=Js h2.1 (show (0:Int)<100000 by decide)
 have hev:Qbo ([(1:Int),(1:Int),(2:Int),(3:Int),(4:Int),(6:Int),(12:Int)].getD (a8%7).toNat 0):=by
  have:a8%7=0\/a8%7=1\/a8%7=2\/a8%7=3\/a8%7=4\/a8%7=5\/a8%7=6:=by omega
  rcases this with h|h|h|h|h|h|h<;>rw [h]<;>decide
 have hp:∀(x:Int) (p:List UInt8),(∃n:Nat,p=txt n/\0<n/\n<=10^30)->Good ⟨p,decTxt (a2%100000).toNat (a3%7+2).toNat,a4%3,a5%3,a6%5,y,m,d,[(1:Int),(1:Int),(2:Int),(3:Int),(4:Int),(6:Int),(12:Int)].getD (a8%7).toNat 0,1+a7%most⟩ most:=λx p h=>{
  money:=h
  rate:=⟨_,_,rfl,by omega,by omega,by omega⟩
  kinds:=⟨by show 0<=a4%3/\a4%3<=2;omega,by show 0<=a5%3/\a5%3<=2;omega,by show 0<=a6%5/\a6%5<=4;omega,hev⟩
  date:=hd
  year:=hy
  count:=by show 1<=1+a7%most/\1+a7%most<=most;omega}
 have hrate:∀{α:Type} (f:List UInt8->Option α),((z9.F (Int.tmod (wr .i64 a2) 100000)).bind λr7=>((z17.F r7.1 r7.2 (wr .i64 (Int.tmod (wr .i64 a3) 7+2))).bind λr8=>f r8))=f (decTxt (a2%100000).toNat (a3%7+2).toNat):=λf=>by
  rw [Qc (n:=a2) (by omega) (by omega),Qc (n:=a3) (by omega) (by omega),t2.1,t3.1,Qc (n:=a3%7+2) (by omega) (by omega),Wk (by omega)]
  simp only [Zb]
  have e1:neg (a2%100000)=false:=Zf (by omega)
  have e2:(a2%100000).natAbs=(a2%100000).toNat:=by omega
  have e3:a3%7+2=((a3%7+2).toNat:Int):=by omega
  have l1:(dg (a2%100000).toNat).length<=5:=Yj b4 (Nat.lt_of_lt_of_le (show (a2%100000).toNat<100000 by omega) (by decide))
  have l2:(txt (a2%100000).toNat).length<=5:=Y2 (show (a2%100000).toNat<10^5 by omega) (by decide)
  rw [e1,e2]
  conv=>lhs;rw [e3]
  rw [Qty (by omega) (by omega) (by omega)]
  rfl
 have e11:((Int.natAbs 100000000000:Nat))=100000000000:=rfl
 unfold z18.F
 rw [w8,t8.1,if_pos ⟨t8.2.1,by simp;omega⟩,if_neg (by omega),ed]
 simp only [Zb]
 rw [shr2,shr4,Qc (n:=a0/4) (by omega) (by omega),Qc (n:=a0/4+1) (by omega) (by omega),Qc (n:=a0/16) (by omega) (by omega),Qc (n:=a0/16+1) (by omega) (by omega)]
 rw [Qc (n:=a4) (by omega) (by omega),Qc (n:=a5) (by omega) (by omega),Qc (n:=a6) (by omega) (by omega),Qc (n:=a7) (by omega) (by omega),t4.1,t5.1,t6.1,t7.1,Qc (n:=1+a7%most) (by omega) (by omega)]
 rw [Wk (z:=a0/4+1) (by omega)]
 simp only [Zb]
 by_cases hc:a1>60000
 ·rw [bif_t hc,Wk (by omega)]
  simp only [Zb]
  rw [Wk (by omega)]
  simp only [Zb]
  have g1:(dg (a0/16+1).natAbs).length<=20:=Nat.le_trans (Qp _) (sz_le (by omega))
  have g2:(dg (Int.natAbs 100000000000)).length<=20:=Nat.le_trans (Qp _) (sz_le (by decide))
  have hb:((a0/16+1)*100000000000).natAbs=(a0/16+1).toNat*100000000000:=by omega
  have g3:(dg ((a0/16+1)*100000000000).natAbs).length<=40:=Nat.le_trans (Qp _) (sz_le (by omega))
  have g4:(txt ((a0/16+1)*100000000000).natAbs).length<=40:=Y2 (by omega) (by decide)
  rw [Qhi (by omega)]
  simp only [Zb]
  rw [Qkl (by omega) (by omega),if_neg (by omega)]
  simp only [Zb]
  refine ⟨_,hp 0 (txt ((a0/16+1)*100000000000).natAbs) ⟨_,rfl,by omega,by omega⟩,?_⟩
  rw [hrate]
 ·rw [Qa hc]
  have g3:(dg (a0/4+1).natAbs).length<=20:=Nat.le_trans (Qp _) (sz_le (by omega))
  have g4:(txt (a0/4+1).natAbs).length<=20:=Y2 (by omega) (by decide)
  rw [Qkl (by omega) (by omega),if_neg (by omega)]
  simp only [Zb]
  refine ⟨_,hp 0 (txt (a0/4+1).natAbs) ⟨_,rfl,by omega,by omega⟩,?_⟩
  rw [hrate]
def pv (x:D3×D3):List V:=[.int .i64 x.1.1,.int .i64 x.1.2.1,.int .i64 x.1.2.2,.int .i64 x.2.1,.int .i64 x.2.2.1,.int .i64 x.2.2.2]
def Qet:Tm:=⟨[],[],0,0,0,0,0,0,0,0⟩
theorem Qe8:mCheck Qet=5:=by decide +kernel
theorem Qiv {b r:Nat} (hb:0<b) (hs:sz b+sz r<=300000000):∀(f lo hi:Nat),hi-lo<=f->lo<=hi->hi<=9999->b*lo<=r->r<b*(hi+1) ->
  Runs (λrec x=>z115.l2P (dg b) (dg r) rec some x) ((lo:Int),(hi:Int)) (((r/b:Nat):Int),((r/b:Nat):Int))
 |
  0,lo,hi,hf,hl,hh,h1,h2=>by
  have:lo=hi:=by omega
  subst this
  have e:r/b=lo:=Nat.div_eq_of_lt_le (by rw [Nat.mul_comm];exact h1) (by rw [Nat.mul_comm];exact h2)
  rw [e]
  refine .done λrec=>?_
  unfold z115.l2P
  simp only
  rw [Qa (by omega)]
 |
  f+1,lo,hi,hf,hl,hh,h1,h2=>by
  by_cases h:lo<hi
  ·have e1:wr .i64 (Int.tdiv (wr .i64 (wr .i64 ((lo:Int)+(hi:Int))+1)) 2)=(((lo+hi+1)/2:Nat):Int):=by
    rw [Qc (n:=(lo:Int)+(hi:Int)) (by omega) (by omega),Qc (n:=(lo:Int)+(hi:Int)+1) (by omega) (by omega),Yd (by omega),Qc (by omega) (by omega)];omega
   obtain ⟨mid,hmid⟩:∃mid,(lo+hi+1)/2=mid:=⟨_,rfl⟩
   rw [hmid] at e1
   have sm:sz mid<=4:=sz_le (by omega)
   have sbm:=Q7 b mid
   have l1:=Qp b
   have l2:=Qp mid
   have l3:=Qp (b*mid)
   have step:∀rec:(Int×Int)->Option (Int×Int),z115.l2P (dg b) (dg r) rec some ((lo:Int),(hi:Int))=if b*mid<=r then rec ((mid:Int),(hi:Int)) else rec ((lo:Int),((mid-1:Nat):Int)):=λrec=>by
    unfold z115.l2P
    simp only
    rw [bif_t (by omega),e1,Qfk (by omega)]
    simp only [Zb]
    rw [Qdp (by omega)]
    simp only [Zb]
    rw [Qjy (by omega)]
    simp only [Zb]
    by_cases hc:b*mid<=r
    ·rw [if_pos hc,bif_t (by
      rcases Nat.lt_or_eq_of_le hc with h3|h3
      ·exact Int.le_of_lt (Q6.2 (by exact_mod_cast h3))
      ·exact Int.le_of_eq (Yt.2 (by exact_mod_cast h3)))]
    ·rw [if_neg hc,Qa (by
      have:=Wh (m:=((b*mid:Nat):Int)) (n:=(r:Int))
      have h4:=this.2 (by exact_mod_cast Nat.lt_of_not_le hc)
      omega),Qc (n:=(mid:Int)-1) (by omega) (by omega)]
     congr 2;omega
   by_cases hc:b*mid<=r
   ·refine .step (λrec=>?_) (Qiv hb hs f mid hi (by omega) (by omega) hh hc h2)
    rw [step,if_pos hc]
   ·refine .step (λrec=>?_) (Qiv hb hs f lo (mid-1) (by omega) (by omega) (by omega) h1 (by rw [show mid-1+1=mid by omega];omega))
    rw [step,if_neg hc]
  ·have:lo=hi:=by omega
   subst this
   have e:r/b=lo:=Nat.div_eq_of_lt_le (by rw [Nat.mul_comm];exact h1) (by rw [Nat.mul_comm];exact h2)
   rw [e]
   refine .done λrec=>?_
   unfold z115.l2P
   simp only
   rw [Qa (by omega)]
theorem Qn6 {a:List Int} {b N:Nat} (ha:inB 10000 a) (hb:0<b) (hs:sz b<=100000000) (hl:a.length<=800000000) (hN:(N:Int)=valB 10000 a) :
  ∀
   (k:Nat),k<=a.length->∀(m:Nat) (q:List Int),(m:Int)=valB 10000 (a.drop k)->q.length=a.length->inB 10000 q->valB 10000 (q.drop k)=((m/b:Nat):Int) ->
   ∃q',Runs (λrec x=>z115.l0aP a (dg b) rec some x) (dg (m%b),(k:Int)-1,q) (dg (N%b),(-1:Int),q')/\q'.length=a.length/\inB 10000 q'/\valB 10000 q'=((N/b:Nat):Int)
 |
  0,hk,m,q,hm,hq,hi,hv=>by
  have:m=N:=by rw [List.drop_zero] at hm;omega
  subst this
  refine ⟨q,.done λrec=>?_,hq,hi,by rwa [List.drop_zero] at hv⟩
  unfold z115.l0aP
  simp only
  rw [Qa (by omega)];rfl
 |
  k+1,hk,m,q,hm,hq,hi,hv=>by
  have hka:k<a.length:=by omega
  have hkq:k<q.length:=by omega
  have hd:=Q2 (B:=10000) (by decide) ha k
  obtain ⟨d,hd'⟩:∃d:Nat,a.getD k 0=(d:Int):=⟨(a.getD k 0).toNat,by omega⟩
  have hd2:d<10000:=by omega
  obtain ⟨r,hr⟩:∃r,m%b=r:=⟨_,rfl⟩
  have hrb:r<b:=hr▸Nat.mod_lt m hb
  obtain ⟨x,hx⟩:∃x,d+10000*r=x:=⟨_,rfl⟩
  have hxb:x<b*10000:=by omega
  have sx:sz x<=sz b+4:=sz_le (by
   have h1:=J6 b
   rw [Nat.pow_add]
   exact Nat.lt_of_lt_of_le hxb (Nat.mul_le_mul_right _ (Nat.le_of_lt h1)))
  have sr:sz r<=sz b:=Qu (by omega)
  have l1:=Qp x
  have l2:=Qp r
  have l3:=Qp b
  obtain ⟨z,hz⟩:∃z,x/b=z:=⟨_,rfl⟩
  obtain ⟨w,hw⟩:∃w,x%b=w:=⟨_,rfl⟩
  obtain ⟨y,hy⟩:∃y,m/b=y:=⟨_,rfl⟩
  have hq1:z<10000:=hz▸Nat.div_lt_of_lt_mul hxb
  have hdm:b*z+w=x:=by rw [<-hz,<-hw];exact Nat.div_add_mod x b
  have hmm:b*y+r=m:=by rw [<-hy,<-hr];exact Nat.div_add_mod m b
  have hm':((d+10000*m:Nat):Int)=valB 10000 (a.drop k):=by rw [Wb,hd',<-hm];omega
  have e:d+10000*m=x+b*(10000*y):=by
   have h4:b*(10000*y)=10000*(b*y):=by rw [<-Nat.mul_assoc,Nat.mul_comm b 10000,Nat.mul_assoc]
   omega
  have hdiv:(d+10000*m)/b=z+10000*y:=by rw [e,Nat.add_mul_div_left _ _ hb,hz]
  have hmod:(d+10000*m)%b=w:=by rw [e,Nat.add_mul_mod_self_left,hw]
  have hvq:valB 10000 ((q.set k (z:Int)).drop k)=(((d+10000*m)/b:Nat):Int):=by
   rw [Wb,Qfj,hv,hdiv,hy]
   have:(q.set k (z:Int)).getD k 0=(z:Int):=by simp [List.getD,hkq]
   rw [this];omega
  obtain ⟨q',r1,r2,r3,r4⟩:=Qn6 ha hb hs hl hN k (by omega) (d+10000*m) (q.set k (z:Int)) hm' (by simp [hq]) (Yc hi (by show (0:Int)<=(z:Int)/\(z:Int)<10000;omega)) hvq
  rw [hmod] at r1
  refine ⟨q',.step (λrec=>?_) r1,r2,r3,r4⟩
  have hsr:=Qiv (b:=b) (r:=x) hb (by omega) 9999 0 9999 (by omega) (by omega) (by omega) (by omega) (by omega)
  have es:z115.l2 (dg b) (dg x) ((0:Int),(9999:Int))=some (((x/b:Nat):Int),((x/b:Nat):Int)):=hsr.lfp
  rw [hz] at es
  have et:z14.F ([(d:Int)]++dg r)=some (dg x):=by
   rw [Qcf (Qkb.2 ⟨Wt.2 ⟨by omega,inB_nil _⟩,Qx b4 r⟩) (by show ([(d:Int)]++dg r).length<=1000000000;rw [List.length_append,List.length_singleton];omega)]
   have:valB 10000 ([(d:Int)]++dg r)=(x:Int):=by
    show (d:Int)+((10000:Nat):Int)*valB 10000 (dg r)=x
    rw [Q8 b4];omega
   rw [this];rfl
  have szz:sz z<=4:=sz_le (by omega)
  have l4:=Qp z
  have l5:=Qp (b*z)
  have sbz:=Q7 b z
  have ek:((k+1:Nat):Int)-1=(k:Int):=by omega
  unfold z115.l0aP
  simp only
  rw [ek,bif_t (by omega),if_pos (by omega),Zi,hd',hr,if_pos (by rw [List.length_singleton];omega),et]
  simp only [Zb]
  rw [es]
  simp only [Zb]
  rw [if_pos (by omega),if_pos hkq,Qfk (by omega)]
  simp only [Zb]
  rw [Qdp (by omega)]
  simp only [Zb]
  rw [Qh1 (by omega) (by omega)]
  simp only [Zb]
  rw [Qc (by omega) (by omega),show x-b*z=w by omega]
theorem Qd0 {a b:Nat} (hb:0<b) (ha:sz a<=700000000) (hs:sz b<=100000000):z115.F (dg a) (dg b)=some (dg (a/b),dg (a%b)):=by
 have l1:=Qp a
 obtain ⟨q',r1,r2,r3,r4⟩:=Qn6 (a:=dg a) (b:=b) (N:=a) (Qx b4 a) hb hs (by omega) (by rw [Q8 b4]) (dg a).length (Nat.le_refl _) 0 (List.replicate (dg a).length 0) (by rw [List.drop_length];rfl) (by simp) (Qa4 (by decide) _) (by rw [List.drop_eq_nil_of_le (by simp)];simp [valB])
 rw [Nat.zero_mod,Qcg] at r1
 have e:z115.l0a (dg a) (dg b) ([],((dg a).length:Int)-1,List.replicate (dg a).length 0)=some (dg (a%b),(-1:Int),q'):=r1.lfp
 unfold z115.F
 rw [if_pos (by omega),Zi,Qc (by omega) (by omega),e]
 simp only [Zb]
 rw [Qcf r3 (by show List.length _<=_;omega),r4]
 rfl
theorem Q10 {a b:Nat} (ha:sz a<=100000000) (hb:sz b<=100000000):z116.F (dg a) (dg b)=some (dg (Nat.gcd a b)):=by
 have key:∀(f a b:Nat),b<f->sz a<=100000000->sz b<=100000000->Runs (λrec x=>z116.l0P rec some x) (dg a,dg b) (dg (Nat.gcd a b),[]):=by
  intro f
  induction f with
  |zero=>intro a b h;omega
  |
   succ f ih=>
   intro a b h ha hb
   rcases Nat.eq_zero_or_pos b with h0|h0
   ·subst h0
    refine .done λrec=>?_
    unfold z116.l0P
    simp only
    rw [Qa (by rw [Qcg];simp),Nat.gcd_zero_right,Qcg]
   ·have hm:=Nat.mod_lt a h0
    have e:Nat.gcd a b=Nat.gcd b (a%b):=by rw [Nat.gcd_comm,Nat.gcd_rec,Nat.gcd_comm]
    have hsm:sz (a%b)<=sz b:=Qu (by omega)
    rw [e]
    refine .step (λrec=>?_) (ih b (a%b) (by omega) hb (by omega))
    unfold z116.l0P
    simp only
    rw [bif_t ((Qhn b).2 h0),Qd0 h0 (by omega) hb]
    rfl
 unfold z116.F
 have e:z116.l0 (dg a,dg b)=some (dg (Nat.gcd a b),[]):=(key (b+1) a b (by omega) ha hb).lfp
 rw [e];rfl
abbrev rf (q:Rat):List Int×Bool×List Int:=(dg q.num.natAbs,neg q.num,dg q.den)
theorem Qdt {num:Int} {den:Nat} (h0:0<den) (hn:sz num.natAbs<=100000000) (hd:sz den<=100000000):z117.F (dg num.natAbs) (neg num) (dg den)=some (rf (mkRat num den)):=by
 have hg:0<Nat.gcd num.natAbs den:=Nat.gcd_pos_of_pos_right _ h0
 have hgs:sz (Nat.gcd num.natAbs den)<=sz den:=Qu (Nat.gcd_le_right _ h0)
 obtain ⟨q1,q2⟩:=Qh0 (Nat.gcd_dvd_left num.natAbs den) hg
 unfold z117.F
 rw [Q10 hn hd]
 simp only [Zb]
 show _=some (dg (mkRat num den).num.natAbs,neg (mkRat num den).num,dg (mkRat num den).den)
 rw [Rat.num_mkRat,Rat.den_mkRat,if_neg (by omega),if_neg (by omega),Nat.gcd_comm den]
 generalize Nat.gcd num.natAbs den=g at *
 rw [Qd0 hg (by omega) (by omega)]
 simp only [Zb]
 rw [Qd0 hg (by omega) (by omega)]
 simp only [Zb]
 rw [Y5 (z:=num/(g:Int)) q1.symm (by
  have hz:num/(g:Int)<0↔num<0:=q2
  by_cases h:num<0
  ·exact .inl ⟨Zt h,by omega⟩
  ·exact .inr ⟨Zf h,by omega⟩)]
 rfl
theorem Qja {num den:Int} (h0:den≠0) (hn:sz num.natAbs<=100000000) (hd:sz den.natAbs<=100000000):z118.F (dg num.natAbs) (neg num) (dg den.natAbs) (neg den)=some (rf (Rat.divInt num den)):=by
 unfold z118.F
 by_cases h:den<0
 ·have e:Rat.divInt num den=mkRat (-num) den.natAbs:=by
   have:den = -((den.natAbs:Nat):Int):=by omega
   conv=>lhs;rw [this]
   rw [Rat.divInt_neg',Rat.divInt_ofNat]
  rw [bif_t h,Qkc]
  simp only [Zb]
  rw [Qdt (by omega) (by rw [Int.natAbs_neg];exact hn) hd,e]
  rfl
 ·have e:Rat.divInt num den=mkRat num den.natAbs:=by
   have:den=((den.natAbs:Nat):Int):=by omega
   conv=>lhs;rw [this]
   rw [Rat.divInt_ofNat]
  rw [Qa h,Qdt (by omega) hn hd,e]
  rfl
theorem Yf {a b:Int} (ha:-9223372036854775808<a/\a<9223372036854775808) (hb:-9223372036854775808<b/\b<9223372036854775808) (h0:b≠0):z119.F a b=some (rf (Rat.divInt a b)):=by
 have s1:sz a.natAbs<=20:=sz_le (by omega)
 have s2:sz b.natAbs<=20:=sz_le (by omega)
 unfold z119.F
 rw [Wk ha]
 simp only [Zb]
 rw [Wk hb]
 simp only [Zb]
 rw [Qja h0 (by omega) (by omega)]
 rfl
theorem Qee {q r:Rat} (hs:sz q.num.natAbs+sz r.den<=800000000) (a:List Int) (b:List Int) (c:Bool):z122.F (dg q.num.natAbs) (neg q.num) a b c (dg r.den)=some (dg (q.num*r.den).natAbs,neg (q.num*r.den)):=by
 have l1:=Qp q.num.natAbs
 have l2:=Qp r.den
 have l3:(dg (r.den:Int).natAbs).length=(dg r.den).length:=rfl
 unfold z122.F
 rw [Y5 (z:=(r.den:Int)) (n:=r.den) (by omega) (.inr ⟨rfl,by omega⟩)]
 simp only [Zb]
 rw [Qhi (by omega)]
 rfl
theorem Qxn {q r:Rat} (hs:sz q.num.natAbs+sz r.den<=300000000) (hs':sz r.num.natAbs+sz q.den<=300000000):z123.F (rf q).1 (rf q).2.1 (rf q).2.2 (rf r).1 (rf r).2.1 (rf r).2.2=some (cmpI (q.num*r.den) (r.num*q.den)):=by
 have m1:=Q7 q.num.natAbs (r.den:Int).natAbs
 have m2:=Q7 r.num.natAbs (q.den:Int).natAbs
 rw [<-Int.natAbs_mul] at m1 m2
 have e1:sz (r.den:Int).natAbs=sz r.den:=rfl
 have e2:sz (q.den:Int).natAbs=sz q.den:=rfl
 have l1:=Qp (q.num*r.den).natAbs
 have l2:=Qp (r.num*q.den).natAbs
 unfold z123.F
 rw [Qee (by omega)]
 simp only [Zb]
 rw [Qee (by omega)]
 simp only [Zb]
 rw [Qj2 (by omega)]
 rfl
theorem Qhd {q r:Rat} (h0:r≠0) (hs:sz q.num.natAbs+sz r.den<=90000000) (hs':sz r.num.natAbs+sz q.den<=90000000):z124.F (rf q).1 (rf q).2.1 (rf q).2.2 (rf r).1 (rf r).2.1 (rf r).2.2=some (rf (q/r)):=by
 have m1:=Q7 q.num.natAbs (r.den:Int).natAbs
 have m2:=Q7 r.num.natAbs (q.den:Int).natAbs
 rw [<-Int.natAbs_mul] at m1 m2
 have e1:sz (r.den:Int).natAbs=sz r.den:=rfl
 have e2:sz (q.den:Int).natAbs=sz q.den:=rfl
 have l1:=Qp r.num.natAbs
 have l2:=Qp (q.den:Int).natAbs
 have hr:r.num≠0:=λh=>h0 (Rat.num_eq_zero.1 h)
 have hqd:=q.den_nz
 unfold z124.F
 rw [Qee (by omega)]
 simp only [Zb]
 rw [Y5 (z:=(q.den:Int)) (n:=q.den) (by omega) (.inr ⟨rfl,by omega⟩)]
 simp only [Zb]
 rw [Qhi (by omega)]
 simp only [Zb]
 rw [Qja (Int.mul_ne_zero hr (by omega)) (by omega) (by omega),Qkh,Int.mul_comm (q.den:Int)]
 rfl
theorem Y4 {s:List UInt8} {i:Nat} (h:i<s.length):s.getD i 0=s[i]:=by simp [List.getD,h]
theorem Qqn {s:List UInt8} (hs:s.length<=1000000000):∀(f i:Nat),i+f=s.length ->
  ∃o,Runs (λrec x=>z103.l0b4P s rec some x) (i:Int) o/\(match o with | .inl _=>true | .inr q=>q)=digs (s.drop i)
 |
  0,i,hf=>by
  refine ⟨.inl (i:Int),.done λrec=>?_,?_⟩
  ·unfold z103.l0b4P
   rw [Qa (by omega)]
  ·rw [List.drop_eq_nil_of_le (by omega)];rfl
 |
  f+1,i,hf=>by
  have hi:i<s.length:=by omega
  rw [List.drop_eq_getElem_cons hi]
  have e:digs (s[i]::s.drop (i+1))=(isD s[i]&&digs (s.drop (i+1))):=rfl
  rw [e]
  by_cases h1:(s[i].toNat:Int)<48
  ·refine ⟨.inr false,.done λrec=>?_,?_⟩
   ·unfold z103.l0b4P
    rw [bif_t (by omega),if_pos (by omega),Zi,Y4 hi,bif_t h1]
   ·have:isD s[i]=false:=by unfold isD;rw [Zf (show ¬48<=s[i].toNat by omega)];rfl
    rw [this];rfl
  ·by_cases h2:(s[i].toNat:Int)>57
   ·refine ⟨.inr false,.done λrec=>?_,?_⟩
    ·unfold z103.l0b4P
     rw [bif_t (by omega),if_pos (by omega),Zi,Y4 hi,Qa h1,if_pos (by omega),bif_t h2]
    ·have:isD s[i]=false:=by unfold isD;rw [Zf (show ¬s[i].toNat<=57 by omega)];simp
     rw [this];rfl
   ·obtain ⟨o,r,ho⟩:=Qqn hs f (i+1) (by omega)
    refine ⟨o,.step (λrec=>?_) r,?_⟩
    ·unfold z103.l0b4P
     rw [bif_t (by omega),if_pos (by omega),Zi,Y4 hi,Qa h1,if_pos (by omega),Qa h2,Qc (by omega) (by omega)]
     rfl
    ·have:isD s[i]=true:=by unfold isD;rw [Zt (show 48<=s[i].toNat by omega),Zt (show s[i].toNat<=57 by omega)];rfl
     rw [ho,this];rfl
theorem Q0n {s:List UInt8} (hs:s.length<=1000000000):z103.F s=some (numOK s):=by
 obtain ⟨o,r,ho⟩:=Qqn hs s.length 0 (by omega)
 have e:z103.l0b4 s 0=some o:=r.lfp
 rw [List.drop_zero] at ho
 unfold z103.F numOK
 rw [e]
 simp only [Zb]
 by_cases h0:s=[]
 ·subst h0;rfl
 ·have hpos:=List.length_pos_iff.2 h0
  rw [Qa (by omega),Zf h0]
  by_cases h1:1<s.length
  ·rw [bif_t (by omega),if_pos (by omega),Zt h1]
   by_cases h2:(s.getD 0 0).toNat=48
   ·rw [bif_t (by omega),Zt h2];simp
   ·rw [Qa (by omega),Zf h2]
    simp only [Zo,Bool.true_and,Bool.and_true,Bool.and_false]
    cases o with
    |inl z=>exact congrArg some ho
    |inr q=>exact congrArg some ho
  ·rw [Qa (by omega),Zf h1]
   simp only [Zo,Bool.true_and,Bool.and_true,Bool.false_and]
   cases o with
   |inl z=>exact congrArg some ho
   |inr q=>exact congrArg some ho
theorem Qxp {s:List UInt8} (hs:Qv s) {b:UInt8} {t:List UInt8} (e:s=b::t) (hb:b.toNat≠48):0<tv 0 s:=by
 subst e
 have h1:=hs b (by simp)
 unfold digit at h1
 have h2:=Jh (s:=t) λx hx=>hs x (by simp [hx])
 have e:tv 0 (b::t)=((b.toNat:Int)-48)*(10^t.length:Nat)+tv 0 t:=by
  show tv (10*0+(b.toNat:Int)-48) t=_
  rw [Qc8];simp
 have h3:0<10^t.length:=Nat.pow_pos (by decide)
 have h4:1*((10^t.length:Nat):Int)<=((b.toNat:Int)-48)*(10^t.length:Nat):=Int.mul_le_mul_of_nonneg_right (by omega) (by omega)
 rw [e];omega
theorem Ql0 {s:List UInt8} (h:numOK s=true):Qv s/\s≠[]/\(1<s.length->(s.getD 0 0).toNat≠48):=by
 unfold numOK at h
 simp only [Bool.and_eq_true,Bool.not_eq_true',decide_eq_false_iff_not,Bool.and_eq_false_iff] at h
 exact ⟨Je.1 h.1.2,h.1.1,λh1 h2=>by rcases h.2 with h3|h3<;>omega⟩
theorem Qur {s:List UInt8} (h:numOK s=true):(tv 0 s).toNat=0↔s=[48]:=by
 obtain ⟨h1,h2,h3⟩:=Ql0 h
 constructor
 ·intro h0
  cases s with
  |nil=>exact absurd rfl h2
  |
   cons b t=>
   by_cases hb:b.toNat=48
   ·have:t=[]:=by
     cases t with
     |nil=>rfl
     |cons c t'=>exact absurd hb (h3 (by simp))
    subst this
    rw [show b=48 from UInt8.toNat_inj.1 hb]
   ·have:=Qxp h1 rfl hb;omega
 ·rintro rfl;rfl
abbrev wr4 (w:Int×Int):List Int×Bool×Int:=(dg w.1.natAbs,neg w.1,w.2)
theorem Qyy (s:List UInt8) (hs:s.length<=1000000):z104.F s=some (wr4 (mWhole s)):=by
 have key:∀(plain:List UInt8) (below:Bool),plain.length<=s.length->cutNeg s=(plain,below)->(below=true->s.length=plain.length+1/\s.drop 1=plain/\(s.getD 0 0).toNat=45)->(below=false->s=plain) ->
   z104.j3 plain (dg (Int.natAbs 0),neg 0) s=some (wr4 (mWhole s)):=λplain below hp hc hb hb'=>by
  have z0:∀e:Int,some (dg (Int.natAbs 0),neg 0,e)=some (wr4 (0,e)):=λe=>rfl
  unfold z104.j3 mWhole
  rw [hc]
  simp only
  by_cases h1:4096<plain.length
  ·have hm:mDigits plain=(0,7):=by unfold mDigits;rw [if_pos h1]
   rw [bif_t (by omega),hm,if_pos (by decide)]
  ·rw [Qa (by omega),Q0n (by omega)]
   simp only [Zb]
   cases hn:numOK plain with
   |
    false=>
    have hm:mDigits plain=(0,5):=by unfold mDigits;rw [if_neg h1,hn];rfl
    simp only [Zo,Zd]
    rw [hm,if_pos (by decide)]
   |
    true=>
    obtain ⟨d1,d2,d3⟩:=Ql0 hn
    have hm:mDigits plain=((tv 0 plain).toNat,0):=by unfold mDigits;rw [if_neg h1,hn];rfl
    have hz:=Qur hn
    obtain ⟨v,hv⟩:∃v:Nat,tv 0 plain=(v:Int):=⟨_,(Int.toNat_of_nonneg (Jh d1).1).symm⟩
    rw [hv,Zi] at hm hz
    simp only [Zn,Zc]
    rw [hm,if_neg (by simp)]
    simp only
    have hread:z102.F s=some (dg v,(below&&decide (0<v))):=by
     unfold z102.F
     have hpos:=List.length_pos_iff.2 d2
     rw [if_pos (by omega)]
     cases below with
     |
      true=>
      obtain ⟨g1,g2,g3⟩:=hb rfl
      rw [bif_t (by omega),if_pos (by omega),g2,Qfu d1 (by omega),hv]
      simp only [Zb]
      rw [Qem];rfl
     |
      false=>
      have g:=hb' rfl
      have hne:¬(((s.getD 0 0).toNat:Int)=45):=by
       rw [g,Y4 hpos]
       have:=d1 plain[0] (List.getElem_mem hpos)
       unfold digit at this;omega
      rw [Qa hne,g,Qfu d1 (by omega),hv]
      simp only [Zb]
      rw [Qem];rfl
    by_cases h48:plain=[48]
    ·have h0:=hz.2 h48
     rw [bif_t h48]
     cases below with
     |
      true=>
      obtain ⟨g1,g2,g3⟩:=hb rfl
      rw [bif_t (by rw [h48] at g1;simp at g1;omega),h0]
      rfl
     |
      false=>
      have g:=hb' rfl
      rw [Qa (by rw [g,h48];simp),hread,h0]
      rfl
    ·have h0:v≠0:=λhh=>h48 (hz.1 hh)
     rw [Qa h48,hread]
     simp only [Zb]
     have e:(below&&decide (v=0))=false:=by rw [Zf h0,Bool.and_false]
     rw [e]
     simp only [Bool.false_eq_true,if_false]
     cases below with
     |
      true=>
      have e1:(true&&decide (0<v))=neg (-(v:Int)):=by rw [Bool.true_and];exact decide_eq_decide.2 (by omega)
      rw [e1]
      show _=some (dg (-(v:Int)).natAbs,neg (-(v:Int)),0)
      rw [Int.natAbs_neg];rfl
     |
      false=>
      have e1:(false&&decide (0<v))=neg (v:Int):=by rw [Bool.false_and];symm;exact Zf (by omega)
      rw [e1];rfl
 unfold z104.F
 rw [Wk (by omega)]
 simp only [Zb]
 cases s with
 |
  nil=>
  rw [Qa (by simp)]
  exact key [] false (by simp) rfl (λh=>by simp at h) (λ_=>rfl)
 |
  cons b t=>
  rw [bif_t (by simp),if_pos (by simp)]
  by_cases h:b=45
  ·subst h
   rw [bif_t (by rfl),if_pos (by simp;omega)]
   exact key t true (by simp) rfl (λ_=>⟨by simp,rfl,rfl⟩) (λh=>by simp at h)
  ·have hb:¬((((b::t).getD 0 0).toNat:Int)=45):=λhh=>h (UInt8.toNat_inj.1 (by have e:(b::t).getD 0 0=b:=rfl;rw [e] at hh;show b.toNat=45;omega))
   rw [Qa hb]
   exact key (b::t) false (by simp) (by unfold cutNeg;simp [h]) (λh=>by simp at h) (λ_=>rfl)
theorem Qrl (t:Nat) (ht:t<=1000000):∀(f i:Nat),i+f=t->Runs (λrec x=>z105.l0P (t:Int) rec some x) ((49:UInt8)::List.replicate i 48,(i:Int)) ((49:UInt8)::List.replicate t 48,(t:Int))
 |
  0,i,hf=>by
  have:i=t:=by omega
  subst this
  refine .done λrec=>?_
  unfold z105.l0P
  simp only
  rw [Qa (by omega)]
 |
  f+1,i,hf=>by
  refine .step (λrec=>?_) (Qrl t ht f (i+1) (by omega))
  unfold z105.l0P
  simp only
  rw [bif_t (by omega),if_pos (by simp;omega),Qc (by omega) (by omega),List.replicate_succ']
  rfl
theorem Ql2:∀(t:Nat) (a:Int),tv a (List.replicate t 48)=a*(10^t:Nat)
 |0,a=>by simp [tv]
 |
  t+1,a=>by
  rw [List.replicate_succ]
  show tv (10*a+((48:UInt8).toNat:Int)-48) (List.replicate t 48)=_
  rw [Ql2 t,Nat.pow_succ,Int.natCast_mul]
  have:((48:UInt8).toNat:Int)=48:=rfl
  rw [this]
  generalize ((10^t:Nat):Int)=p
  grind
theorem Qos {t:Nat} (ht:t<=1000000):z105.F (t:Int)=some (dg (10^t)):=by
 have e:z105.l0 (t:Int) ([49],(0:Int))=some ((49:UInt8)::List.replicate t 48,(t:Int)):=(Qrl t ht t 0 (by omega)).lfp
 have hd:Qv ((49:UInt8)::List.replicate t 48):=λb hb=>by
  rcases List.mem_cons.1 hb with h|h
  ·subst h;unfold digit;decide
  ·rw [List.eq_of_mem_replicate h];unfold digit;decide
 have hv:tv 0 ((49:UInt8)::List.replicate t 48)=((10^t:Nat):Int):=by
  show tv 1 (List.replicate t 48)=_
  rw [Ql2];simp
 unfold z105.F
 rw [e]
 simp only [Zb]
 rw [Qfu hd (by simp;omega),hv]
 rfl
theorem Qeu (s:List UInt8) (hs:s.length<=1000000):z114.F s=some (wr4 (mMoney s)):=by
 have hz:=Qnp s
 unfold z114.F mMoney
 rw [Wk (by omega)]
 simp only [Zb]
 rw [Qyy s hs]
 simp only [Zb,wr4]
 generalize mWhole s=w at *
 by_cases h:w.2=0
 ·rw [Zt h,if_neg (by omega)]
  simp only [Zn,Zc]
  have h30:=Qos (t:=30) (by decide)
  rw [show ((30:Nat):Int)=30 from rfl] at h30
  rw [h30]
  simp only [Zb]
  rw [Y5 (z:=10^30) (by decide) (.inr ⟨rfl,by decide⟩)]
  simp only [Zb]
  have l1:=Qp w.1.natAbs
  have l2:(dg (Int.natAbs (10^30))).length<=31:=Nat.le_trans (Qp _) (sz_le (by decide))
  rw [Qj2 (by omega)]
  simp only [Zb]
  by_cases h1:w.1<0
  ·rw [bif_t h1,if_pos (.inl h1)]
  ·rw [Qa h1]
   by_cases h2:10^30<w.1
   ·rw [bif_t (Wh.2 h2),if_pos (.inr h2)]
   ·rw [Qa (λh=>h2 (Wh.1 h)),if_neg (by omega)]
 ·rw [Zf h,if_pos h];rfl
def scan:List UInt8->List UInt8->Int->Int->Bool->Option (List UInt8×Int×Int×Bool)
 |[],all,ah,bh,z=>some (all,ah,bh,z)
 |
  b::t,all,ah,bh,z=>
  if b.toNat=46/\bh<0 then scan t all ah 0 z
  else if isD b=false then none
  else if bh<0 then scan t (all++[b]) (ah+1) bh (z&&decide (b.toNat=48))
  else scan t (all++[b]) ah (bh+1) (z&&decide (b.toNat=48))
def Qec (n:Int):Option (List UInt8×Int×Int×Bool)->(Int×List UInt8×Int×Int×Bool)⊕Int
 |none=>.inr 5
 |some r=>.inl (n,r.1,r.2.1,r.2.2.1,r.2.2.2)
theorem Qsv {s:List UInt8} (hs:s.length<=1000000) {i:Nat} (hi:i<s.length) (all:List UInt8) (ha:all.length<=1000000) (z:Bool) (x y:Int) {R:Type} (rec:(Int×List UInt8×Int×Int×Bool)->Option R) (done:((Int×List UInt8×Int×Int×Bool)⊕Int)->Option R) :
  z120.j11016a rec done z (i:Int) s all x y=rec (((i+1:Nat):Int),all++[s[i]],x,y,(z&&decide (s[i].toNat=48))):=by
 have e1:wr .i64 ((i:Int)+1)=((i+1:Nat):Int):=by rw [Qc (by omega) (by omega)];rfl
 have e2:(s.drop i).take (i+1-i)=[s[i]]:=by
  rw [show i+1-i=1 by omega,List.drop_eq_getElem_cons hi];rfl
 have e3:decide ((s[i].toNat:Int)=48)=decide (s[i].toNat=48):=decide_eq_decide.2 (by omega)
 unfold z120.j11016a
 simp only [e1,Zi,e2,Y4 hi,e3]
 cases z with
 |true=>simp only [Zd,Bool.true_and];rw [if_pos (by omega),if_pos (by omega),if_pos (by simp;omega)]
 |false=>simp only [Zc,Bool.false_and];rw [if_pos (by omega),if_pos (by simp;omega)]
theorem Qfv {s:List UInt8} (hs:s.length<=1000000):∀(f i:Nat) (all:List UInt8) (ah bh:Int) (z:Bool),i+f=s.length->all.length<=i->(0<=ah/\ah<=i)->(-1<=bh/\bh<=i) ->
  Runs (λrec x=>z120.l0b10P s rec some x) ((i:Int),all,ah,bh,z) (Qec (s.length:Int) (scan (s.drop i) all ah bh z))
 |
  0,i,all,ah,bh,z,hf,_,_,_=>by
  refine .done λrec=>?_
  unfold z120.l0b10P
  simp only
  rw [Qa (by omega),List.drop_eq_nil_of_le (by omega),show (i:Int)=(s.length:Int) by omega];rfl
 |
  f+1,i,all,ah,bh,z,hf,ha,hah,hbh=>by
  have hi:i<s.length:=by omega
  have c1:(0:Int)<=(i:Int)/\(i:Int)<(s.length:Int):=by omega
  have e1:wr .i64 ((i:Int)+1)=((i+1:Nat):Int):=by rw [Qc (by omega) (by omega)];rfl
  rw [List.drop_eq_getElem_cons hi]
  by_cases hdot:s[i].toNat=46/\bh<0
  ·have ih:=Qfv hs f (i+1) all ah 0 z (by omega) (by omega) (by omega) (by omega)
   have es:scan (s[i]::s.drop (i+1)) all ah bh z=scan (s.drop (i+1)) all ah 0 z:=by rw [scan];rw [if_pos hdot]
   rw [es]
   refine .step (λrec=>?_) ih
   unfold z120.l0b10P
   simp only
   rw [bif_t (by omega),if_pos c1,Zi,Y4 hi,bif_t (by omega),bif_t hdot.2,e1]
  ·by_cases hd:isD s[i]=true
   ·have hd':48<=s[i].toNat/\s[i].toNat<=57:=by unfold isD at hd;simpa using hd
    have hnd:¬((s[i].toNat:Int)=46):=by omega
    by_cases hb:bh<0
    ·have ih:=Qfv hs f (i+1) (all++[s[i]]) (ah+1) bh (z&&decide (s[i].toNat=48)) (by omega) (by simp;omega) (by omega) (by omega)
     have es:scan (s[i]::s.drop (i+1)) all ah bh z=scan (s.drop (i+1)) (all++[s[i]]) (ah+1) bh (z&&decide (s[i].toNat=48)):=by rw [scan];rw [if_neg hdot,if_neg (by rw [hd];simp),if_pos hb]
     rw [es]
     refine .step (λrec=>?_) ih
     unfold z120.l0b10P
     simp only
     rw [bif_t (by omega),if_pos c1,Zi,Y4 hi,Qa hnd,if_pos c1,Qa (by omega),if_pos c1,Qa (by omega),bif_t hb,Qc (n:=ah+1) (by omega) (by omega)]
     exact Qsv hs hi all (by omega) z _ _ rec some
    ·have ih:=Qfv hs f (i+1) (all++[s[i]]) ah (bh+1) (z&&decide (s[i].toNat=48)) (by omega) (by simp;omega) (by omega) (by omega)
     have es:scan (s[i]::s.drop (i+1)) all ah bh z=scan (s.drop (i+1)) (all++[s[i]]) ah (bh+1) (z&&decide (s[i].toNat=48)):=by rw [scan];rw [if_neg hdot,if_neg (by rw [hd];simp),if_neg hb]
     rw [es]
     refine .step (λrec=>?_) ih
     unfold z120.l0b10P
     simp only
     rw [bif_t (by omega),if_pos c1,Zi,Y4 hi,Qa hnd,if_pos c1,Qa (by omega),if_pos c1,Qa (by omega),Qa hb,Qc (n:=bh+1) (by omega) (by omega)]
     exact Qsv hs hi all (by omega) z _ _ rec some
   ·have hd2:isD s[i]=false:=by simpa using hd
    have hd':s[i].toNat<48\/57<s[i].toNat:=by
     unfold isD at hd2
     simp at hd2
     omega
    have es:scan (s[i]::s.drop (i+1)) all ah bh z=none:=by rw [scan];rw [if_neg hdot,if_pos hd2]
    rw [es]
    refine .done λrec=>?_
    unfold z120.l0b10P
    simp only
    rw [bif_t (by omega),if_pos c1,Zi,Y4 hi]
    by_cases h46:(s[i].toNat:Int)=46
    ·rw [bif_t h46,Qa (by omega),if_pos c1,bif_t (by omega)];rfl
    ·rw [Qa h46,if_pos c1]
     by_cases h48:(s[i].toNat:Int)<48
     ·rw [bif_t h48];rfl
     ·rw [Qa h48,if_pos c1,bif_t (by omega)];rfl
theorem Qkv (b:UInt8) (t:List UInt8):zeros (b::t)=(decide (b.toNat=48)&&zeros t):=by
 show ((b == 48)&&zeros t)=_
 rw [Qml];rfl
theorem Qlt:∀(t all:List UInt8) (ah bh:Int) (z:Bool),0<=bh->scan t all ah bh z=if digs t then some (all++t,ah,bh+t.length,z&&zeros t) else none
 |[],all,ah,bh,z,h=>by simp [scan,digs,zeros]
 |
  b::t,all,ah,bh,z,h=>by
  have e:digs (b::t)=(isD b&&digs t):=rfl
  rw [scan,if_neg (by omega),e,Qkv]
  by_cases hd:isD b=true
  ·rw [if_neg (by rw [hd];simp),if_neg (by omega),Qlt t _ _ _ _ (by omega),hd,Bool.true_and,Bool.and_assoc,List.append_assoc]
   congr 3
   simp;omega
  ·have hd2:isD b=false:=by simpa using hd
   rw [if_pos hd2,hd2];rfl
theorem Qq2:∀(t all:List UInt8) (ah:Int) (z:Bool),scan t all ah (-1) z =
  if digs (cutDot t).1 then (match (cutDot t).2 with
   |none=>some (all++(cutDot t).1,ah+(cutDot t).1.length,(-1:Int),z&&zeros (cutDot t).1)
   |some b=>if digs b then some (all++(cutDot t).1++b,ah+(cutDot t).1.length,(b.length:Int),z&&zeros (cutDot t).1&&zeros b) else none) else none
 |[],all,ah,z=>by simp [scan,cutDot,digs,zeros]
 |
  b::t,all,ah,z=>by
  by_cases h46:b=46
  ·subst h46
   rw [scan,if_pos ⟨rfl,by decide⟩,Qlt _ _ _ _ _ (Int.le_refl 0)]
   have:cutDot (46::t)=([],some t):=by rw [cutDot,if_pos rfl]
   rw [this]
   simp [digs,zeros]
  ·have hc:cutDot (b::t)=(b::(cutDot t).1,(cutDot t).2):=by rw [cutDot,if_neg h46]
   have h46':¬(b.toNat=46/\(-1:Int)<0):=λhh=>h46 (UInt8.toNat_inj.1 hh.1)
   have e:∀x,digs (b::x)=(isD b&&digs x):=λx=>rfl
   rw [scan,if_neg h46',hc,e]
   by_cases hd:isD b=true
   ·rw [if_neg (by rw [hd];simp),if_pos (by decide),Qq2 t,hd,Bool.true_and]
    split
    ·cases (cutDot t).2 with
     |
      none=>
      simp only [Qkv,List.append_assoc,List.singleton_append,Bool.and_assoc,List.length_cons]
      congr 3
      omega
     |
      some c=>
      simp only [Qkv,List.append_assoc,List.singleton_append,Bool.and_assoc,List.length_cons,List.cons_append]
      split
      ·congr 3;omega
      ·rfl
    ·rfl
   ·have hd2:isD b=false:=by simpa using hd
    rw [if_pos hd2,hd2];rfl
abbrev decD (m:Int×Nat×Int):List Int×Bool×Int×Int:=(dg m.1.natAbs,neg m.1,(m.2.1:Int),m.2.2)
theorem decD0 (e:Int):decD (0,0,e)=([],false,0,e):=by unfold decD;simp [Qcg]
theorem Qi8 {s t:List UInt8} {below:Bool} {i:Nat} (hs:s.length<=4096) (hi:i<=1) (hil:i<=s.length) (ht:s.drop i=t) :
  z120.j3 s (i:Int) below=some (decD (Jk below (cutDot t).1 (cutDot t).2)):=by
 have r:=Qfv (s:=s) (by omega) (s.length-i) i [] 0 (-1) true (by omega) (by simp) (by omega) (by omega)
 have e:z120.l0b10 s ((i:Int),[],(0:Int),(-1:Int),true)=some (Qec (s.length:Int) (scan t [] 0 (-1) true)):=by rw [<-ht];exact r.lfp
 have htl:t.length<=4096:=by rw [<-ht,List.length_drop];omega
 unfold z120.j3
 rw [e,Qq2]
 simp only [Zb,List.nil_append,Int.zero_add,Bool.true_and]
 have fin:∀(all:List UInt8) (n ah bh:Int) (z:Bool) (sc:Nat),Qv all->all.length<=4096->(sc:Int)=max bh 0 ->
   z120.j7 (n,all,ah,bh,z) below=some (decD (if 64<bh then (0,0,10) else (if below then -tv 0 all else tv 0 all,sc,0))):=λall n ah bh z sc hd hl hsc=>by
  unfold z120.j7
  simp only
  by_cases h64:64<bh
  ·rw [bif_t h64,if_pos h64,decD0]
  ·obtain ⟨v,hv⟩:∃v:Nat,tv 0 all=(v:Int):=⟨_,(Int.toNat_of_nonneg (Jh hd).1).symm⟩
   rw [Qa h64,if_neg h64,Qfu hd (by omega),hv]
   simp only [Zb,Zi]
   have em:(if (0:Int)>bh then (0:Int) else bh)=(sc:Int):=by split<;>omega
   rw [em]
   cases below with
   |true=>rw [Y5 (z:=-(v:Int)) (by omega) (.inl ⟨rfl,by omega⟩)];rfl
   |false=>rw [Y5 (z:=(v:Int)) (by omega) (.inr ⟨rfl,by omega⟩)];rfl
 unfold Jk plainB
 cases hda:digs (cutDot t).1 with
 |
  false=>
  simp only [Bool.false_eq_true,if_false,Bool.and_false,Zo,Bool.true_or,if_true]
  rw [decD0];rfl
 |
  true=>
  have hdd:=Je.1 hda
  simp only [if_true,Bool.and_true,Bool.not_not]
  cases ho:(cutDot t).2 with
  |
   none=>
   have hct:=Qgg ho
   rw [hct] at hdd ⊢
   simp only [Qec,Option.isSome_none,Bool.false_and,Bool.or_false,Option.getD_none,List.append_nil,List.length_nil]
   by_cases h0:t=[]
   ·subst h0
    rw [bif_t (p:=((([]:List UInt8).length:Nat):Int)=0) rfl,Zt (p:=([]:List UInt8)=[]) rfl]
    simp only [Bool.true_or,if_true]
    rw [decD0]
   ·have hpos:=List.length_pos_iff.2 h0
    rw [Qa (by omega),Qa (by omega),Zf h0]
    simp only [Bool.false_or]
    have hfin:=fin t (s.length:Int) (t.length:Int) (-1) (zeros t) 0 hdd htl (by omega)
    rw [if_neg (by decide)] at hfin
    have rest:(bif below then bif zeros t then some ([],false,0,5) else z120.j7 ((s.length:Int),t,(t.length:Int),-1,zeros t) below else z120.j7 ((s.length:Int),t,(t.length:Int),-1,zeros t) below)=some (decD (if (below&&zeros t)=true then (0,0,5) else (if below then -tv 0 t else tv 0 t,0,0))):=by
     rw [hfin]
     cases below<;>cases zeros t<;>first|rfl|(simp only [Zd,Bool.true_and,if_true];rw [decD0])
    by_cases h1:1<t.length
    ·rw [bif_t (by omega),if_pos (by omega),Zt h1]
     by_cases h48:(t.getD 0 0).toNat=48
     ·rw [bif_t (by omega),Zt h48]
      simp only [Bool.true_and,if_true]
      rw [decD0]
     ·rw [Qa (by omega),Zf h48]
      simp only [Bool.and_false,Bool.false_eq_true,if_false]
      exact rest
    ·rw [Qa (by omega),Zf h1]
     simp only [Bool.false_and,Bool.false_eq_true,if_false]
     exact rest
  |
   some b=>
   have hct:=Qg6 ho
   generalize (cutDot t).1=a at *
   have hlen:t.length=a.length+(b.length+1):=by rw [hct];simp
   simp only [Option.isSome_some,Bool.true_and,Option.getD_some]
   cases hdb:digs b with
   |
    false=>
    simp only [Qec,Bool.false_eq_true,if_false,Bool.and_false,Zo,Bool.or_true,Bool.true_or,if_true]
    rw [decD0]
   |
    true=>
    have hdd2:=Je.1 hdb
    simp only [Qec,if_true,Bool.and_true,Bool.not_not]
    have hdall:Qv (a++b):=λx hx=>(List.mem_append.1 hx).elim (hdd x) (hdd2 x)
    by_cases h0:a=[]
    ·subst h0
     rw [bif_t (p:=((([]:List UInt8).length:Nat):Int)=0) rfl,Zt (p:=([]:List UInt8)=[]) rfl]
     simp only [Bool.true_or,if_true]
     rw [decD0]
    ·have hpos:=List.length_pos_iff.2 h0
     rw [Qa (by omega),Zf h0]
     by_cases hb0:b=[]
     ·subst hb0
      rw [bif_t (p:=((([]:List UInt8).length:Nat):Int)=0) rfl,Zt (p:=([]:List UInt8)=[]) rfl]
      simp only [Bool.true_or,Bool.or_true,if_true]
      rw [decD0]
     ·have hbpos:=List.length_pos_iff.2 hb0
      rw [Qa (by omega),Zf hb0]
      simp only [Bool.false_or]
      have hz:zeros (a++b)=(zeros a&&zeros b):=by simp [zeros]
      have hg:(a++b).getD 0 0=a.getD 0 0:=by
       rw [Y4 (by simp;omega),Y4 hpos,List.getElem_append_left hpos]
      have hfin:=fin (a++b) (s.length:Int) (a.length:Int) (b.length:Int) (zeros a&&zeros b) b.length hdall (by rw [List.length_append];omega) (by omega)
      have e64:(64<(b.length:Int))=(64<b.length):=by apply propext;omega
      simp only [e64] at hfin
      have rest:(bif below then bif (zeros a&&zeros b) then some ([],false,0,5) else z120.j7 ((s.length:Int),a++b,(a.length:Int),(b.length:Int),(zeros a&&zeros b)) below else z120.j7 ((s.length:Int),a++b,(a.length:Int),(b.length:Int),(zeros a&&zeros b)) below)=some (decD (if (below&&zeros (a++b))=true then (0,0,5) else if 64<b.length then (0,0,10) else (if below then -tv 0 (a++b) else tv 0 (a++b),b.length,0))):=by
       rw [hfin,hz]
       cases below<;>cases (zeros a&&zeros b)<;>first|rfl|(simp only [Zd,Bool.true_and,if_true];rw [decD0])
      rw [hg]
      by_cases h1:1<a.length
      ·rw [bif_t (by omega),if_pos (by rw [List.length_append];omega),Zt h1]
       by_cases h48:(a.getD 0 0).toNat=48
       ·rw [bif_t (by omega),Zt h48]
        simp only [Bool.true_and,if_true]
        rw [decD0]
       ·rw [Qa (by omega),Zf h48]
        simp only [Bool.and_false,Bool.false_eq_true,if_false]
        exact rest
      ·rw [Qa (by omega),Zf h1]
       simp only [Bool.false_and,Bool.false_eq_true,if_false]
       exact rest
theorem Qul {s:List UInt8} (hs:s.length<=4096):z120.F s=some (decD (mDec s)):=by
 have h4:¬4096<s.length:=by omega
 unfold z120.F mDec
 rw [if_neg h4]
 cases s with
 |
  nil=>
  rw [Qa (by simp)]
  exact Qi8 (s:=[]) (t:=[]) (below:=false) (i:=0) (by simp) (by omega) (by simp) rfl
 |
  cons b t=>
  rw [bif_t (by simp),if_pos (by simp)]
  by_cases h:b=45
  ·subst h
   rw [bif_t (by rfl)]
   exact Qi8 (s:=45::t) (t:=t) (below:=true) (i:=1) hs (by omega) (by simp) rfl
  ·have hb:¬((((b::t).getD 0 0).toNat:Int)=45):=λhh=>h (UInt8.toNat_inj.1 (by have e:(b::t).getD 0 0=b:=rfl;rw [e] at hh;show b.toNat=45;omega))
   rw [Qa hb]
   have hc:cutNeg (b::t)=(b::t,false):=by unfold cutNeg;simp [h]
   rw [hc]
   exact Qi8 (s:=b::t) (t:=b::t) (below:=false) (i:=0) hs (by omega) (by simp) rfl
theorem Qzs {c:Int} {s:Nat} (hs:s<=4096) (hc:sz c.natAbs<=100000000):z121.F (dg c.natAbs) (neg c) (s:Int)=some (rf (mkRat c (10^s))):=by
 have hp:0<10^s:=Nat.pow_pos (by decide)
 have l:=Qdh s
 unfold z121.F
 rw [Qos (by omega)]
 simp only [Zb]
 rw [Qdt hp hc (by omega)]
 rfl
theorem Qy9 {n:Int} {d:Nat} (hd:0<d) (k:Int):k*(mkRat n d).den<(mkRat n d).num↔k*d<n:=by
 have hg:0<Nat.gcd d n.natAbs:=Nat.gcd_pos_of_pos_left _ hd
 have e1:(mkRat n d).num*(Nat.gcd d n.natAbs:Nat)=n:=by
  rw [Rat.num_mkRat,if_neg (by omega)]
  exact Int.ediv_mul_cancel (Int.ofNat_dvd_left.2 (Nat.gcd_dvd_right _ _))
 have e2:((mkRat n d).den:Int)*(Nat.gcd d n.natAbs:Nat)=d:=by
  rw [Rat.den_mkRat,if_neg (by omega)]
  exact_mod_cast Nat.div_mul_cancel (Nat.gcd_dvd_left _ _)
 generalize Nat.gcd d n.natAbs=g at *
 have hg':(0:Int)<(g:Int):=by omega
 have e3:k*(d:Int)=k*(mkRat n d).den*g:=by rw [<-e2,Int.mul_assoc]
 constructor
 ·intro h
  have:=Int.mul_lt_mul_of_pos_right h hg'
  rw [e1] at this
  rw [e3];exact this
 ·intro h
  refine Int.lt_of_mul_lt_mul_right ?_ (Int.le_of_lt hg')
  rw [e1,<-e3];exact h
theorem Qkz (n:Int):Rat.divInt n 1=(n:Rat):=by
 rw [show (1:Int)=((1:Nat):Int) from rfl,Rat.divInt_ofNat,Rat.mkRat_eq_div]
 have:(n:Rat)/((1:Nat):Rat)=(n:Rat):=by
  rw [Rat.div_def]
  have:(((1:Nat):Rat))⁻¹=1:=by decide +kernel
  rw [this,Rat.mul_one]
 exact this
theorem Qe7 (s:List UInt8):z125.F s=some ((rf (mRate s).1).1,(rf (mRate s).1).2.1,(rf (mRate s).1).2.2,(mRate s).2):=by
 have s0:z119.F 0 1=some (rf 0):=by
  rw [Yf (by omega) (by omega) (by omega),Qkz];rfl
 have s1000:z119.F 1000 1=some (rf 1000):=by
  rw [Yf (by omega) (by omega) (by omega),Qkz];rfl
 have s100:z119.F 100 1=some (rf 100):=by
  rw [Yf (by omega) (by omega) (by omega),Qkz];rfl
 obtain ⟨hb1,hb2⟩:=Qjk s
 unfold z125.F mRate
 rw [s0]
 simp only [Zb]
 by_cases hl:4096<s.length
 ·have hm:mDec s=(0,0,7):=by unfold mDec;rw [if_pos hl]
  rw [bif_t (by omega),hm,if_pos (by decide)]
 ·rw [Qa (by omega),Qul (by omega)]
  simp only [Zb,decD]
  generalize mDec s=d at *
  obtain ⟨c,sc,e⟩:=d
  simp only at *
  by_cases h:e=0
  ·rw [Zt h,if_neg (by omega)]
   simp only [Zn,Zc]
   have hp0:0<10^sc:=Nat.pow_pos (by decide)
   have n1:=Qu (Qbb c hp0)
   have n2:=Qu (Qbf c hp0)
   have l:=Qdh sc
   have k1:sz (Rat.num 1000).natAbs<=4:=sz_le (by decide)
   have k2:sz (Rat.den 1000)<=1:=sz_le (by decide)
   have k3:sz (Rat.num 100).natAbs<=3:=sz_le (by decide)
   have k4:sz (Rat.den 100)<=1:=sz_le (by decide)
   rw [Qzs (by omega) (by omega)]
   simp only [Zb]
   rw [s1000]
   simp only [Zb]
   have hcmp:=Qxn (q:=mkRat c (10^sc)) (r:=1000) (by omega) (by omega)
   rw [hcmp]
   simp only [Zb]
   have hgt:=Qy9 (n:=c) hp0 1000
   have e1:(mkRat c (10^sc)).num*((Rat.den 1000:Nat):Int)=(mkRat c (10^sc)).num:=by
    show _*((1:Nat):Int)=_
    simp
   have e2:Rat.num 1000=1000:=rfl
   rw [e1,e2]
   by_cases h1:c<0
   ·rw [bif_t h1,if_pos (.inl h1)]
   ·rw [Qa h1]
    by_cases h2:1000*((10^sc:Nat):Int)<c
    ·rw [bif_t (Wh.2 (hgt.2 h2)),if_pos (.inr (.inl h2))]
    ·rw [Qa (λh=>h2 (hgt.1 (Wh.1 h)))]
     by_cases h3:12<sc
     ·rw [bif_t (by omega),if_pos (.inr (.inr h3))]
     ·rw [Qa (by omega),if_neg (by omega)]
      unfold z125.j6
      rw [s100]
      simp only [Zb]
      rw [Qhd (q:=mkRat c (10^sc)) (r:=100) (by decide) (by omega) (by omega)]
      rfl
  ·rw [Zf h,if_pos h];rfl
theorem Qgt (t:Tm) (hp:t.p.length<=1000000):z128.F t.p t.r t.kind t.basis t.mode t.y t.m t.d t.every t.count=some (mCheck t):=by
 unfold z128.F mCheck
 rw [Qeu _ hp]
 simp only [Zb,wr4]
 by_cases h1:(mMoney t.p).2=0
 ·rw [Zt h1,if_neg (λhh=>hh h1)]
  simp only [Zn,Zc]
  by_cases h2:(mMoney t.p).1=0
  ·rw [bif_t ((dg_len0 _).2 (by omega)),if_pos h2]
  ·rw [Qa (λhh=>h2 (by have:=(dg_len0 _).1 hh;omega)),if_neg h2,Qe7]
   simp only [Zb]
   by_cases h3:(mRate t.r).2=0
   ·rw [Zt h3,if_neg (λhh=>hh h3)]
    simp only [Zn,Zc]
    have fin:∀b:Bool,(b=true↔Qbo t.every)->z128.j3 t.kind t.basis t.mode b t.count t.y t.m t.d t.every=some (if ¬kindsOK t then 2 else if t.count<1\/1200<t.count then 6 else if right t.y t.m t.d/\okM t.y t.m (t.every*t.count) then 0 else 11):=λb hb=>by
     unfold z128.j3 z128.j4 z128.j5
     by_cases g1:t.kind<0
     ·rw [bif_t g1,if_pos (λhh=>by have:=hh.1;omega)]
     ·rw [Qa g1]
      by_cases g2:t.kind>2
      ·rw [bif_t g2,if_pos (λhh=>by have:=hh.1;omega)]
      ·rw [Qa g2]
       by_cases g3:t.basis<0
       ·rw [bif_t g3,if_pos (λhh=>by have:=hh.2.1;omega)]
       ·rw [Qa g3]
        by_cases g4:t.basis>2
        ·rw [bif_t g4,if_pos (λhh=>by have:=hh.2.1;omega)]
        ·rw [Qa g4]
         by_cases g5:t.mode<0
         ·rw [bif_t g5,if_pos (λhh=>by have:=hh.2.2.1;omega)]
         ·rw [Qa g5]
          by_cases g6:t.mode>4
          ·rw [bif_t g6,if_pos (λhh=>by have:=hh.2.2.1;omega)]
          ·rw [Qa g6]
           cases b with
           |
            false=>
            simp only [Zo,Zd]
            rw [if_pos (λhh=>by have:=hb.2 hh.2.2.2;simp at this)]
           |
            true=>
            have he:=hb.1 rfl
            simp only [Zn,Zc]
            rw [if_neg (λhh=>hh ⟨by omega,by omega,by omega,he⟩)]
            by_cases g7:t.count<1
            ·rw [bif_t g7,if_pos (.inl g7)]
            ·rw [Qa g7]
             by_cases g8:t.count>1200
             ·rw [bif_t g8,if_pos (.inr g8)]
             ·have hbd:=Qe5 (e:=t.every) (c:=t.count) he (by omega)
              rw [Qa g8,if_neg (by omega),Y3]
              simp only [Zb]
              by_cases g9:right t.y t.m t.d
              ·rw [Zt g9]
               simp only [Zn,Zc]
               rw [Qc (by omega) (by omega),Qqf g9]
               simp only [Zb]
               by_cases g10:okM t.y t.m (t.every*t.count)
               ·rw [if_pos g10,if_pos ⟨g9,g10⟩];rfl
               ·rw [if_neg g10,if_neg (λhh=>g10 hh.2)];rfl
              ·rw [Zf g9,if_neg (λhh=>g9 hh.1)];rfl
    by_cases e1:t.every=1
    ·rw [bif_t e1];exact fin true ⟨λ_=>by omega,λ_=>rfl⟩
    ·rw [Qa e1]
     by_cases e2:t.every=2
     ·rw [bif_t e2];exact fin true ⟨λ_=>by omega,λ_=>rfl⟩
     ·rw [Qa e2]
      by_cases e3:t.every=3
      ·rw [bif_t e3];exact fin true ⟨λ_=>by omega,λ_=>rfl⟩
      ·rw [Qa e3]
       by_cases e4:t.every=4
       ·rw [bif_t e4];exact fin true ⟨λ_=>by omega,λ_=>rfl⟩
       ·rw [Qa e4]
        by_cases e6:t.every=6
        ·rw [bif_t e6];exact fin true ⟨λ_=>by omega,λ_=>rfl⟩
        ·rw [Qa e6];exact fin _ ⟨λhh=>by have:=of_decide_eq_true hh;omega,λhh=>Zt (by omega)⟩
   ·rw [Zf h3,if_pos h3];rfl
 ·rw [Zf h1,if_pos h1];rfl
theorem Good.plen {t:Tm} {most:Int} (h:Good t most):t.p.length<=1000000:=by
 obtain ⟨n,e,h1,h2⟩:=h.money
 have:(txt n).length<=31:=Y2 (by omega) (by decide)
 rw [e];omega
def qtxt (q:Rat):List UInt8:=if q.den=1 then itxt q.num else itxt q.num++[47]++txt q.den
theorem Qs6 (z:Int):(itxt z).length<=sz z.natAbs+2:=by
 have:=Qc9 z.natAbs
 unfold itxt;split
 ·simp only [List.length_cons];omega
 ·omega
theorem Qmr {q:Rat} (hn:sz q.num.natAbs<=100000000) (hd:sz q.den<=100000000):z136.F (fr q).1 (fr q).2.1 (fr q).2.2=some (qtxt q):=by
 have h1:=Qs6 q.num
 have h2:=Qc9 q.den
 show z136.F (lb q.num.natAbs) (neg q.num) (lb (q.den-1))=_
 have hp:=q.den_pos
 unfold z136.F qtxt
 rw [Wy,W4 hn]
 simp only [Zb]
 by_cases h:q.den=1
 ·rw [bif_t (by omega),if_pos h]
 ·rw [Qa (by omega),if_neg h,if_pos (by simp only [List.length_singleton];omega),Yy q _ _ (by omega)]
  simp only [Zb]
  rw [digits_Print hd]
  simp only [Zb]
  rw [if_pos (by simp only [List.length_append,List.length_singleton];omega)]
def w0:List UInt8:=[97,110,110,117,105,116,121]
def wIdx (s:List UInt8):Int:=if s=w0 then 0 else if s=w1 then 1 else if s=w2 then 2 else -1
theorem Q17 (s:List UInt8):z137.F [w0,w1,w2] s=some (wIdx s):=by
 have step:∀(i:Nat) (w:List UInt8),([w0,w1,w2]:List (List UInt8))[i]? = some w->∀rec:Int->Option (Int⊕Int),z137.l0P [w0,w1,w2] s 3 rec some (i:Int)=if s=w then some (.inr (i:Int)) else rec ((i+1:Nat):Int):=λi w hw rec=>by
  have hi:i<3:=by
   rcases Nat.lt_or_ge i 3 with h|h
   ·exact h
   ·rw [List.getElem?_eq_none (by simpa using h)] at hw;simp at hw
  unfold z137.l0P
  rw [bif_t (by omega),if_pos (by simp;omega),Zi,Zl,hw]
  simp only [Option.getD_some]
  rw [Qc (by omega) (by omega)]
  by_cases h:s=w
  ·rw [bif_t h,if_pos h]
  ·rw [Qa h,if_neg h];rfl
 have hend:∀rec:Int->Option (Int⊕Int),z137.l0P [w0,w1,w2] s 3 rec some 3=some (.inl 3):=λrec=>by
  unfold z137.l0P
  rw [Qa (by omega)]
 have key:∃o,z137.l0 [w0,w1,w2] s 3 0=some o/\(match o with | .inl _=>(-1:Int) | .inr q=>q)=wIdx s:=by
  unfold wIdx
  by_cases h0:s=w0
  ·exact ⟨.inr 0,(Runs.done λrec=>by have:=step 0 w0 rfl rec;rw [if_pos h0] at this;exact this:Runs (λrec x=>z137.l0P [w0,w1,w2] s 3 rec some x) 0 _).lfp,by rw [if_pos h0]⟩
  ·by_cases h1:s=w1
   ·exact ⟨.inr 1,(Runs.step (y:=1) (λrec=>by have:=step 0 w0 rfl rec;rw [if_neg h0] at this;exact this) (Runs.done λrec=>by have:=step 1 w1 rfl rec;rw [if_pos h1] at this;exact this):Runs (λrec x=>z137.l0P [w0,w1,w2] s 3 rec some x) 0 _).lfp,by rw [if_neg h0,if_pos h1]⟩
   ·by_cases h2:s=w2
    ·exact ⟨.inr 2,(Runs.step (y:=1) (λrec=>by have:=step 0 w0 rfl rec;rw [if_neg h0] at this;exact this) (Runs.step (y:=2) (λrec=>by have:=step 1 w1 rfl rec;rw [if_neg h1] at this;exact this) (Runs.done λrec=>by have:=step 2 w2 rfl rec;rw [if_pos h2] at this;exact this)):Runs (λrec x=>z137.l0P [w0,w1,w2] s 3 rec some x) 0 _).lfp,by rw [if_neg h0,if_neg h1,if_pos h2]⟩
    ·exact ⟨.inl 3,(Runs.step (y:=1) (λrec=>by have:=step 0 w0 rfl rec;rw [if_neg h0] at this;exact this) (Runs.step (y:=2) (λrec=>by have:=step 1 w1 rfl rec;rw [if_neg h1] at this;exact this) (Runs.step (y:=3) (λrec=>by have:=step 2 w2 rfl rec;rw [if_neg h2] at this;exact this) (Runs.done hend))):Runs (λrec x=>z137.l0P [w0,w1,w2] s 3 rec some x) 0 _).lfp,by rw [if_neg h0,if_neg h1,if_neg h2]⟩
 obtain ⟨o,h1,h2⟩:=key
 unfold z137.F
 show ((z137.l0 [w0,w1,w2] s 3 0).bind _)=_
 rw [h1]
 simp only [Zb]
 rw [<-h2]
 cases o<;>rfl
theorem terms_Of (s:List UInt8):z138.F s=some ((if (0:Int)>wIdx s then (0:Int) else wIdx s),decide (wIdx s>=0)):=by
 unfold z138.F
 show ((z137.F [w0,w1,w2] s).bind _)=_
 rw [Q17]
 rfl
def t12:Tm:=⟨[49,48,48],[53],0,0,0,2024,1,1,1,12⟩
theorem Qz4:mCheck t12=0:=by decide +kernel
theorem Qpg:mRate [52,46,50,53]=(mkRat 17 400,0):=by decide +kernel
theorem Qwu:(mRate [49,48,48,48,46,49]).2=18:=by decide +kernel
theorem Qyh:(mMoney [45,49]).2=19:=by decide +kernel
theorem Qk4 {n:Nat} (h0:10<=n) (h:n<100):txt n=[ch ((n/10:Nat):Int),ch ((n%10:Nat):Int)]:=by
 unfold txt
 rw [if_neg (by omega),Wg b10 (by omega),Wg b10 (by omega),Nat.div_eq_of_lt (by omega:n/10<10),toB_zero,Nat.mod_eq_of_lt (by omega:n/10<10)];rfl
theorem Qwq {n:Nat} (h0:100<=n) (h:n<1000):txt n=[ch ((n/10/10:Nat):Int),ch ((n/10%10:Nat):Int),ch ((n%10:Nat):Int)]:=by
 unfold txt
 rw [if_neg (by omega),Wg b10 (by omega),Wg b10 (by omega),Wg b10 (by omega),Nat.div_eq_of_lt (by omega:n/10/10<10),toB_zero,Nat.mod_eq_of_lt (by omega:n/10/10<10)];rfl
theorem q425:qtxt (mkRat 17 400)=[49,55,47,52,48,48]:=by
 have e1:(mkRat 17 400).num=17:=by decide +kernel
 have e2:(mkRat 17 400).den=400:=by decide +kernel
 unfold qtxt itxt
 rw [e1,e2,if_neg (by decide),if_neg (by decide),show Int.natAbs 17=17 from rfl,Qk4 (by decide) (by decide),Qwq (by decide) (by decide)]
 rfl
theorem Qtj:z139.F=some true:=by
 have r1:=terms_Rate [52,46,50,53]
 have r2:=terms_Rate [49,48,48,48,46,49]
 have r3:=terms_Money [45,49]
 have r4:=terms_Of w1
 have r6:=terms_Check t12
 have r7:=terms_Check Qet
 rw [Qz4] at r6
 rw [Qe8] at r7
 rw [Qpg] at r1
 rw [Qwu] at r2
 rw [Qyh] at r3
 have hz:=Qhj [52,46,50,53]
 rw [Qpg] at hz
 have r5:=Qmr (q:=mkRat 17 400) (Nat.le_trans hz.1 (by decide)) (Nat.le_trans hz.2 (by decide))
 rw [q425] at r5
 unfold t12 at r6
 unfold Qet at r7
 simp only at r6 r7
 unfold z139.F
 rw [r1]
 simp only [Zb]
 rw [r2]
 simp only [Zb]
 rw [r3]
 simp only [Zb]
 rw [show ([108,105,110,101,97,114]:List UInt8)=w1 from rfl,r4]
 simp only [Zb]
 rw [r5]
 simp only [Zb,decide_true,Zd]
 rw [r6]
 simp only [Zb,decide_true,Zd]
 rw [r7]
 rfl
theorem Qsw (m:Int) (hm:0<=m) (s:List UInt8):((0:Int)<=(if m<(s.length:Int) then m else (s.length:Int))/\(if m<(s.length:Int) then m else (s.length:Int))<=((s).length:Int))/\(if m<(s.length:Int) then m else (s.length:Int)).toNat<=m.toNat:=by
 split<;>omega
theorem Yr {α:Type} {c:Bool} {x y z:α} (hx:x=z) (hy:y=z):(bif c then x else y)=z:=by cases c<;>assumption
theorem checks_j {g:Tm} (hg:mCheck g=0) {p r:List UInt8} {k b m y mo d e c:Int} (hp:(p.take ((if (100:Int)<(p.length:Int) then (100:Int) else (p.length:Int))).toNat).length<=1000000) (x:Tm) (hx:x.p.length<=1000000) (hm:x.m=g.m) :
  z141.j10 (g.p,g.r,g.kind,g.basis,g.mode,g.y,g.m,g.d,g.every,g.count) p r k b m y mo d e c x.p x.r x.kind x.basis x.mode x.y x.d x.every x.count=some true:=by
 have e1:=terms_Check g
 rw [hg] at e1
 have e2:=terms_Check ⟨p.take ((if (100:Int)<(p.length:Int) then (100:Int) else (p.length:Int))).toNat,r.take ((if (100:Int)<(r.length:Int) then (100:Int) else (r.length:Int))).toNat,k,b,m,y,mo,d,e,c⟩
 have e3:=Qgt ⟨p.take ((if (100:Int)<(p.length:Int) then (100:Int) else (p.length:Int))).toNat,r.take ((if (100:Int)<(r.length:Int) then (100:Int) else (r.length:Int))).toNat,k,b,m,y,mo,d,e,c⟩ hp
 have e4:=terms_Check x
 have e5:=Qgt x hx
 rw [hm] at e4 e5
 simp only at e2 e3
 unfold z141.j10
 rw [Qtj]
 simp only [Zb,Zd]
 rw [e1]
 simp only [Zb,Zd,decide_true]
 rw [e2,e3]
 simp only [Zb,Zd,decide_true]
 rw [e4,e5]
 simp only [Zb,decide_true]
theorem Qw7 {a0 a1:List UInt8} {a2 a3 a4 a5 a6 a7 a8 a9 a10 a11 a12 a13 a14 a15 a16 a17 a18 a19 a20 a21 a22 a23:Int} (h10:(Lit.int .u64 a10).wf=true) (h11:(Lit.int .u16 a11).wf=true) (h12:(Lit.int .u32 a12).wf=true) (h13:(Lit.int .u8 a13).wf=true) (h14:(Lit.int .u8 a14).wf=true) (h15:(Lit.int .u8 a15).wf=true)
  (h16:(Lit.int .u8 a16).wf=true) (h17:(Lit.int .u8 a17).wf=true) (h18:(Lit.int .u8 a18).wf=true):z141.F a0 a1 a2 a3 a4 a5 a6 a7 a8 a9 a10 a11 a12 a13 a14 a15 a16 a17 a18 a19 a20 a21 a22 a23=some true:=by
 obtain ⟨t,g,e⟩:=Qgx (a9:=a19) (a10:=a20) (a11:=a21) (most:=40) (Qhl h10) (Qb9 h11) (Qc4 h12) (Qs h13) (Qs h14) (Qs h15) (Qs h16) (Qs h17) (Qs h18) (by decide)
 have hb:=Qe5 g.kinds.2.2.2 (c:=t.count) ⟨g.count.1,by have:=g.count.2;omega⟩
 have hc:=g.count
 have hev:=g.kinds.2.2.2
 have hok:mCheck t=0:=g.check (by
  have h1:t.every<=12:=by rcases hev with h|h|h|h|h|h<;>omega
  have h2:t.every*t.count<=12*t.count:=Int.mul_le_mul_of_nonneg_right h1 (by omega)
  omega) (by decide)
 have hm0:=Qsw 100 (by decide) a0
 have hm1:=Qsw 100 (by decide) a1
 have hp:(a0.take ((if (100:Int)<(a0.length:Int) then (100:Int) else (a0.length:Int))).toNat).length<=1000000:=by
  have:(if (100:Int)<(a0.length:Int) then (100:Int) else (a0.length:Int)).toNat<=100:=hm0.2
  rw [List.length_take];omega
 have hgp:=g.plen
 unfold z141.F
 rw [if_pos hm0.1,if_pos hm1.1,e]
 simp only [Zb]
 refine Yr (checks_j hok hp {t with p:=a0.take ((if (100:Int)<(a0.length:Int) then (100:Int) else (a0.length:Int))).toNat} hp rfl) ?_
 refine Yr (checks_j hok hp {t with r:=a1.take ((if (100:Int)<(a1.length:Int) then (100:Int) else (a1.length:Int))).toNat} hgp rfl) ?_
 refine Yr (checks_j hok hp {t with kind:=a23} hgp rfl) ?_
 refine Yr (checks_j hok hp {t with basis:=a23} hgp rfl) ?_
 refine Yr (checks_j hok hp {t with mode:=a23} hgp rfl) ?_
 refine Yr (checks_j hok hp {t with every:=a23} hgp rfl) ?_
 refine Yr (checks_j hok hp {t with count:=a23} hgp rfl) ?_
 exact Yr (checks_j hok hp {t with d:=a23} hgp rfl) (checks_j hok hp {t with y:=a23} hgp rfl)
end Go.Proofs.YtgjncgiekniniaaGreatDoor.A
end
