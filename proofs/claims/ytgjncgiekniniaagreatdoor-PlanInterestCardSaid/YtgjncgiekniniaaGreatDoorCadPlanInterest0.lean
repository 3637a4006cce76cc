/- PlanInterest: part 0 of what is its own. -/
import Derived.Test.YtgjncgiekniniaaGreatDoorCad3
import Derived.Test.YtgjncgiekniniaaGreatDoorRows
import Derived.WalkKit
import Derived.ProofKit
import Derived.OpenShut
import Derived.Carry
import Derived.ChangeSame
import Derived.Deep.Slices
import Derived.Test.YtgjncgiekniniaaGreatDoorCards
import Derived.Test.YtgjncgiekniniaaGreatDoorTie
import Derived.KernelRfl
import Derived.JoinedCond
set_option linter.unusedVariables false
set_option linter.unusedSimpArgs false
section
namespace Go.Proofs.YtgjncgiekniniaaGreatDoor.A
open Go Go.RowKit
section
variable {P:Program} {C:Ctx}
theorem Qyw (hT:C.T.check P=true) (hm:P.follows .mixedOrders=true) (hp:C.prim=λ_=>none) (hi:C.inl=λ_=>none) (hc:C.clone=λ_=>none) (hl:C.L=λ_ _ _ _=>none)
  (call:∀g vs p,C.call g vs=some p->SoundC P g vs p) (hmt:∀t m g,C.meth t m=some g->MethOK P t m g) {g:Nat} {f:Func} {c:Code} (hf:FunOK P g f c) {vs vs0:List V} {p:Pack} {dec:V->Option p.ρ}
  (hvs:vs.map Qax=vs0) (link:C.evTop g (ifun f) vs0 dec=p.m) (hdec:Qg9 dec p.enc):SoundC P g vs p:=
 Qfx ⟨hT,hm,λg vs p _ _ h=>call g vs p h,λg e _ h=>by rw [hc] at h;simp at h,hmt⟩
  ⟨λg h hh=>by rw [hp] at hh;simp at hh,λg fn h=>by rw [hi] at h;simp at h,λg fn h=>by rw [hi] at h;simp at h⟩ hf
  (λid b _ st p hp=>by rw [hl] at hp;simp at hp) hvs link hdec
end
end Go.Proofs.YtgjncgiekniniaaGreatDoor.A
end
section
namespace Go.Proofs.YtgjncgiekniniaaGreatDoor.A
open Go
noncomputable section
def z5.l2P {R:Type} (rec done:((List UInt8)×Int×Int)->Option R):((List UInt8)×Int×Int)->Option R:=λx=>match x with
 |(a,b,c)=>(bif (decide (c<4)) then (if ([(wr .u8 (wr .i64 ((48:Int)+(Int.tmod b 10))))].map λn=>UInt8.ofNat n.toNat).length+a.length<=9223372036854775807 then (rec ((([(wr .u8 (wr .i64 ((48:Int)+(Int.tmod b 10))))].map λn=>UInt8.ofNat n.toNat)++a),(wr .i64 (Int.tdiv b 10)),(wr .i64 (c+1)))) else none) else (done (a,b,c)))
def z5.l2 (x:((List UInt8)×Int×Int)):Option (((List UInt8)×Int×Int)):=lfp (λrec x=>z5.l2P rec some x) x
def z5.l0P (a:List Int) {R:Type} (rec done:((List UInt8)×Int)->Option R):((List UInt8)×Int)->Option R:=λx=>match x with
 |(b,c)=>(bif (decide (c<(((a).length:Nat):Int))) then (if 0<=c/\c<(a.length:Int) then ((z5.l2 (b,(a.getD (c).toNat 0),(0:Int))).bind λd=>(rec (d.1,(wr .i64 (c+1))))) else none) else (done (b,c)))
def z5.l0 (a:List Int) (x:((List UInt8)×Int)):Option (((List UInt8)×Int)):=lfp (λrec x=>z5.l0P a rec some x) x
def z5.l4P (a:List UInt8) {R:Type} (rec:Int->Option R) (done:(Int)->Option R):Int->Option R:=λb=>(if 0<=b/\b<(a.length:Int) then (bif (decide (((a.getD (b).toNat 0).toNat:Int)=48)) then (rec (wr .i64 (b+1))) else (done b)) else none)
def z5.l4 (a:List UInt8) (x:Int):Option ((Int)):=lfp (λrec x=>z5.l4P a rec some x) x
def z5.F (a0:List Int):Option ((List UInt8)):=
 (bif (decide ((((a0).length:Nat):Int)=0)) then (some ([48]:List UInt8)) else ((z5.l0 a0 (([]:List UInt8),(0:Int))).bind λo1=>((z5.l4 o1.1 0).bind λo2=>(if 0<=o2/\o2<=((o1.1).length:Int) then (some (o1.1.drop (o2).toNat)) else none))))
def z5.enc (r:(List UInt8)):V:=(.str r)
def z5.pack:List V->Option Pack
 |[(.ints _ .i64 a0)]=>some ⟨(List UInt8),z5.F a0,z5.enc⟩
 |_=>none
def z6.F (a0:List Int) (a1:Bool):Option ((List UInt8)):=
 ((z5.F a0).bind λr1=>(bif a1 then (if ([45]:List UInt8).length+r1.length<=9223372036854775807 then (some (([45]:List UInt8)++r1)) else none) else (some r1)))
def z6.enc (r:(List UInt8)):V:=(.str r)
def z6.pack:List V->Option Pack
 |[(.agg [(.ints _ .i64 a0),(.bool a1)])]=>some ⟨(List UInt8),z6.F a0 a1,z6.enc⟩
 |_=>none
def z7.F (a0:List Int) (a1:Bool):Option ((List Int)×Bool):=
 (bif a1 then (some (a0,(decide ((((a0).length:Nat):Int)>0)))) else (some (a0,false)))
def z7.enc (r:(List Int)×Bool):V:=(.agg [(.ints false .i64 r.1),(.bool r.2)])
def z7.pack:List V->Option Pack
 |[(.ints _ .i64 a0),(.bool a1)]=>some ⟨(List Int)×Bool,z7.F a0 a1,z7.enc⟩
 |_=>none
def z8.l0P {R:Type} (rec done:(Int×(List Int))->Option R):(Int×(List Int))->Option R:=λx=>match x with
 |(a,b)=>(bif (decide (a>0)) then (if ((b).length+([(Int.tmod a 10000)]).length)*8<=140737488355328 then (rec ((wr .i64 (Int.tdiv a 10000)),(b++[(Int.tmod a 10000)]))) else none) else (done (a,b)))
def z8.l0 (x:(Int×(List Int))):Option ((Int×(List Int))):=lfp (λrec x=>z8.l0P rec some x) x
def z8.F (a0:Int):Option ((List Int)):=
 ((z8.l0 (a0,[])).bind λo1=>(some o1.2))
def z8.enc (r:(List Int)):V:=(.ints false .i64 r)
def z8.pack:List V->Option Pack
 |[(.int .i64 a0)]=>some ⟨(List Int),z8.F a0,z8.enc⟩
 |_=>none
def z9.F (a0:Int):Option ((List Int)×Bool):=
 (bif (decide (a0<0)) then ((z8.F (wr .i64 (0-a0))).bind λr1=>((z7.F r1 true).bind λr2=>(some (r2.1,r2.2)))) else ((z8.F a0).bind λr3=>((z7.F r3 false).bind λr4=>(some (r4.1,r4.2)))))
def z9.enc (r:(List Int)×Bool):V:=(.agg [(.ints false .i64 r.1),(.bool r.2)])
def z9.pack:List V->Option Pack
 |[(.int .i64 a0)]=>some ⟨(List Int)×Bool,z9.F a0,z9.enc⟩
 |_=>none
def z10.j1 (a0:Int):Option (Bool):=
 (bif (decide ((Int.tmod a0 400)=0)) then (some true) else (bif (decide ((Int.tmod a0 4)=0)) then (some (!decide ((Int.tmod a0 100)=0))) else (some false)))
def z10.F (a0:Int):Option (Bool):=
 (bif (decide (a0<1)) then (some false) else (bif (decide (a0>9999)) then (some false) else (z10.j1 a0)))
def z10.enc (r:Bool):V:=(.bool r)
def z10.pack:List V->Option Pack
 |[(.int .i64 a0)]=>some ⟨Bool,z10.F a0,z10.enc⟩
 |_=>none
def z11.j1 (a1 a0:Int):Option (Int):=
 (bif (decide (a1=2)) then ((z10.F a0).bind λr2=>(bif r2 then (some 29) else (some 28))) else (bif (decide (a1=4)) then (some 30) else (bif (decide (a1=6)) then (some 30) else (bif (decide (a1=9)) then (some 30) else (bif (decide (a1=11)) then (some 30) else (some 31))))))
def z11.F (a0 a1:Int):Option (Int):=
 (bif (decide (a0<1)) then (some 0) else (bif (decide (a0>9999)) then (some 0) else (bif (decide (a1<1)) then (some 0) else (bif (decide (a1>12)) then (some 0) else (z11.j1 a1 a0)))))
def z11.enc (r:Int):V:=(.int .i64 r)
def z11.pack:List V->Option Pack
 |[(.int .i64 a0),(.int .i64 a1)]=>some ⟨Int,z11.F a0 a1,z11.enc⟩
 |_=>none
def z12.j7 (a0 a3 j5 j7:Int):Option (Int×Int×Int):=
 (some ((wr .i64 ((wr .i64 ((Int.tmod a0 a3)+a3))+1)),(wr .i64 (j5+1)),(wr .i64 (j7+1))))
def z12.j5 (a0 a3 j5 a2:Int):Option (Int×Int×Int):=
 ((z11.F (wr .i64 ((wr .i64 ((Int.tmod a0 a3)+a3))+1)) (wr .i64 (j5+1))).bind λr6=>(if r6=0 then none else (bif (decide ((Int.tmod a2 r6)<0)) then (z12.j7 a0 a3 j5 (wr .i64 ((Int.tmod a2 r6)+r6))) else (z12.j7 a0 a3 j5 (Int.tmod a2 r6)))))
def z12.j8 (a0 a3 j8 a2:Int):Option (Int×Int×Int):=
 ((z11.F (wr .i64 ((Int.tmod a0 a3)+1)) (wr .i64 (j8+1))).bind λr9=>(if r9=0 then none else (bif (decide ((Int.tmod a2 r9)<0)) then (some ((wr .i64 ((Int.tmod a0 a3)+1)),(wr .i64 (j8+1)),(wr .i64 ((wr .i64 ((Int.tmod a2 r9)+r9))+1)))) else (some ((wr .i64 ((Int.tmod a0 a3)+1)),(wr .i64 (j8+1)),(wr .i64 ((Int.tmod a2 r9)+1)))))))
def z12.F (a0 a1 a2 a3:Int):Option (Int×Int×Int):=
 (if a3=0 then none else (bif (decide ((Int.tmod a0 a3)<0)) then (bif (decide ((Int.tmod a1 12)<0)) then (z12.j5 a0 a3 (wr .i64 ((Int.tmod a1 12)+12)) a2) else (z12.j5 a0 a3 (Int.tmod a1 12) a2)) else (bif (decide ((Int.tmod a1 12)<0)) then (z12.j8 a0 a3 (wr .i64 ((Int.tmod a1 12)+12)) a2) else (z12.j8 a0 a3 (Int.tmod a1 12) a2))))
def z12.enc (r:Int×Int×Int):V:=(.agg [(.int .i64 r.1),(.int .i64 r.2.1),(.int .i64 r.2.2)])
def z12.pack:List V->Option Pack
 |[(.agg [(.int .i64 a0),(.int .i64 a1),(.int .i64 a2)]),(.int .i64 a3)]=>some ⟨Int×Int×Int,z12.F a0 a1 a2 a3,z12.enc⟩
 |_=>none
def z13.F (a0:List Int) (a1:Int):Option (Int):=
 (bif (decide (a1>=(((a0).length:Nat):Int))) then (some 0) else (if 0<=a1/\a1<(a0.length:Int) then (some (a0.getD (a1).toNat 0)) else none))
def z13.enc (r:Int):V:=(.int .i64 r)
def z13.pack:List V->Option Pack
 |[(.ints _ .i64 a0),(.int .i64 a1)]=>some ⟨Int,z13.F a0 a1,z13.enc⟩
 |_=>none
def z14.enc (r:(List Int)):V:=(.ints false .i64 r)
def z14.pack:List V->Option Pack
 |[(.ints _ .i64 a0)]=>some ⟨(List Int),z14.F a0,z14.enc⟩
 |_=>none
def z15.l2aaP (a b:List Int) (c:Int) {R:Type} (rec done:(Int×Int×(List Int))->Option R):(Int×Int×(List Int))->Option R:=λx=>match x with
 |(d,e,g)=>(bif (decide (e<(((b).length:Nat):Int))) then ((z13.F b e).bind λh=>(if 0<=(wr .i64 (c+e))/\(wr .i64 (c+e))<(g.length:Int) then (if ((wr .i64 (c+e))).toNat<g.length then (if 0<=c/\c<(a.length:Int) then (if 0<=(wr .i64 (c+e))/\(wr .i64 (c+e))<(g.length:Int) then (if ((wr .i64 (c+e))).toNat<g.length then (rec ((wr .i64 (Int.tdiv (wr .i64 ((wr .i64 ((g.getD ((wr .i64 (c+e))).toNat 0)+(wr .i64 ((a.getD (c).toNat 0)*h))))+d)) 10000)),(wr .i64 (e+1)),(g.set ((wr .i64 (c+e))).toNat (Int.tmod (wr .i64 ((wr .i64 ((g.getD ((wr .i64 (c+e))).toNat 0)+(wr .i64 ((a.getD (c).toNat 0)*h))))+d)) 10000)))) else none) else none) else none) else none) else none)) else (bif (decide (d>0)) then ((z13.F b e).bind λj=>(if 0<=(wr .i64 (c+e))/\(wr .i64 (c+e))<(g.length:Int) then (if ((wr .i64 (c+e))).toNat<g.length then (if 0<=c/\c<(a.length:Int) then (if 0<=(wr .i64 (c+e))/\(wr .i64 (c+e))<(g.length:Int) then (if ((wr .i64 (c+e))).toNat<g.length then (rec ((wr .i64 (Int.tdiv (wr .i64 ((wr .i64 ((g.getD ((wr .i64 (c+e))).toNat 0)+(wr .i64 ((a.getD (c).toNat 0)*j))))+d)) 10000)),(wr .i64 (e+1)),(g.set ((wr .i64 (c+e))).toNat (Int.tmod (wr .i64 ((wr .i64 ((g.getD ((wr .i64 (c+e))).toNat 0)+(wr .i64 ((a.getD (c).toNat 0)*j))))+d)) 10000)))) else none) else none) else none) else none) else none)) else (done (d,e,g))))
def z15.l2aa (a b:List Int) (c:Int) (x:(Int×Int×(List Int))):Option ((Int×Int×(List Int))):=lfp (λrec x=>z15.l2aaP a b c rec some x) x
def z15.l0P (a b:List Int) {R:Type} (rec done:(Int×(List Int))->Option R):(Int×(List Int))->Option R:=λx=>match x with
 |(c,d)=>(bif (decide (c<(((a).length:Nat):Int))) then ((z15.l2aa a b c ((0:Int),(0:Int),d)).bind λe=>(rec ((wr .i64 (c+1)),e.2.2))) else (done (c,d)))
def z15.l0 (a b:List Int) (x:(Int×(List Int))):Option ((Int×(List Int))):=lfp (λrec x=>z15.l0P a b rec some x) x
def z15.F (a0 a1:List Int):Option ((List Int)):=
 (if 0<=(wr .i64 ((wr .i64 ((((a0).length:Nat):Int)+(((a1).length:Nat):Int)))+1))/\(wr .i64 ((wr .i64 ((((a0).length:Nat):Int)+(((a1).length:Nat):Int)))+1))*8<=140737488355328 then ((z15.l0 a0 a1 ((0:Int),(List.replicate ((wr .i64 ((wr .i64 ((((a0).length:Nat):Int)+(((a1).length:Nat):Int)))+1))).toNat (0:Int)))).bind λo1=>((z14.F o1.2).bind λr2=>(some r2))) else none)
def z15.enc (r:(List Int)):V:=(.ints false .i64 r)
def z15.pack:List V->Option Pack
 |[(.ints _ .i64 a0),(.ints _ .i64 a1)]=>some ⟨(List Int),z15.F a0 a1,z15.enc⟩
 |_=>none
def z16.F (a0:List Int) (a1:Bool) (a2:List Int) (a3:Bool):Option ((List Int)×Bool):=
 ((z15.F a0 a2).bind λr1=>((z7.F r1 (!decide (a1=a3))).bind λr2=>(some (r2.1,r2.2))))
def z16.enc (r:(List Int)×Bool):V:=(.agg [(.ints false .i64 r.1),(.bool r.2)])
def z16.pack:List V->Option Pack
 |[(.agg [(.ints _ .i64 a0),(.bool a1)]),(.agg [(.ints _ .i64 a2),(.bool a3)])]=>some ⟨(List Int)×Bool,z16.F a0 a1 a2 a3,z16.enc⟩
 |_=>none
def z17.l0P (a:Int) {R:Type} (rec done:((List UInt8))->Option R):((List UInt8))->Option R:=λb=>(bif (decide ((b.length:Int)<=a)) then (if ([48]:List UInt8).length+b.length<=9223372036854775807 then (rec (([48]:List UInt8)++b)) else none) else (done b))
def z17.l0 (a:Int) (x:((List UInt8))):Option (((List UInt8))):=lfp (λrec x=>z17.l0P a rec some x) x
def z17.j3 (a1:Bool) (j3:List UInt8):Option ((List UInt8)):=
 (bif a1 then (if ([45]:List UInt8).length+j3.length<=9223372036854775807 then (some (([45]:List UInt8)++j3)) else none) else (some j3))
def z17.F (a0:List Int) (a1:Bool) (a2:Int):Option ((List UInt8)):=
 ((z5.F a0).bind λr1=>((z17.l0 a2 r1).bind λo2=>(bif (decide (a2>0)) then (if 0<=(wr .i64 ((o2.length:Int)-a2))/\(wr .i64 ((o2.length:Int)-a2))<=((o2).length:Int) then (if (o2.take ((wr .i64 ((o2.length:Int)-a2))).toNat).length+([46]:List UInt8).length<=9223372036854775807 then (if 0<=(wr .i64 ((o2.length:Int)-a2))/\(wr .i64 ((o2.length:Int)-a2))<=((o2).length:Int) then (if ((o2.take ((wr .i64 ((o2.length:Int)-a2))).toNat)++([46]:List UInt8)).length+(o2.drop ((wr .i64 ((o2.length:Int)-a2))).toNat).length<=9223372036854775807 then (z17.j3 a1 (((o2.take ((wr .i64 ((o2.length:Int)-a2))).toNat)++([46]:List UInt8))++(o2.drop ((wr .i64 ((o2.length:Int)-a2))).toNat))) else none) else none) else none) else none) else (z17.j3 a1 o2))))
def z17.enc (r:(List UInt8)):V:=(.str r)
def z17.pack:List V->Option Pack
 |[(.agg [(.ints _ .i64 a0),(.bool a1),(.int .i64 a2)])]=>some ⟨(List UInt8),z17.F a0 a1 a2,z17.enc⟩
 |_=>none
def z18.F (a0 a1 a2 a3 a4 a5 a6 a7 a8 a9 a10 a11 a12:Int):Option ((List UInt8)×(List UInt8)×Int×Int×Int×Int×Int×Int×Int×Int):=
 (if 0<=(Int.tmod (wr .i64 a8) 7)/\(Int.tmod (wr .i64 a8) 7)<([(1:Int),(1:Int),(2:Int),(3:Int),(4:Int),(6:Int),(12:Int)].length:Int) then (if a12=0 then none else ((z12.F a9 a10 a11 9000).bind λr1=>((z9.F (wr .i64 ((wr .i64 (Int.fdiv a0 (2^(min 2 (64:Nat)))))+1))).bind λr2=>(bif (decide (a1>60000)) then ((z9.F 100000000000).bind λr3=>((z9.F (wr .i64 ((wr .i64 (Int.fdiv a0 (2^(min 4 (64:Nat)))))+1))).bind λr4=>((z16.F r4.1 r4.2 r3.1 r3.2).bind λr5=>((z6.F r5.1 r5.2).bind λr6=>((z9.F (Int.tmod (wr .i64 a2) 100000)).bind λr7=>((z17.F r7.1 r7.2 (wr .i64 ((Int.tmod (wr .i64 a3) 7)+2))).bind λr8=>(some (r6,r8,(Int.tmod (wr .i64 a4) 3),(Int.tmod (wr .i64 a5) 3),(Int.tmod (wr .i64 a6) 5),r1.1,r1.2.1,r1.2.2,([(1:Int),(1:Int),(2:Int),(3:Int),(4:Int),(6:Int),(12:Int)].getD ((Int.tmod (wr .i64 a8) 7)).toNat 0),(wr .i64 ((1:Int)+(Int.tmod (wr .i64 a7) a12))))))))))) else ((z6.F r2.1 r2.2).bind λr9=>((z9.F (Int.tmod (wr .i64 a2) 100000)).bind λr10=>((z17.F r10.1 r10.2 (wr .i64 ((Int.tmod (wr .i64 a3) 7)+2))).bind λr11=>(some (r9,r11,(Int.tmod (wr .i64 a4) 3),(Int.tmod (wr .i64 a5) 3),(Int.tmod (wr .i64 a6) 5),r1.1,r1.2.1,r1.2.2,([(1:Int),(1:Int),(2:Int),(3:Int),(4:Int),(6:Int),(12:Int)].getD ((Int.tmod (wr .i64 a8) 7)).toNat 0),(wr .i64 ((1:Int)+(Int.tmod (wr .i64 a7) a12)))))))))))) else none)
def z18.enc (r:(List UInt8)×(List UInt8)×Int×Int×Int×Int×Int×Int×Int×Int):V:=(.agg [(.str r.1),(.str r.2.1),(.int .i64 r.2.2.1),(.int .i64 r.2.2.2.1),(.int .i64 r.2.2.2.2.1),(.int .i64 r.2.2.2.2.2.1),(.int .i64 r.2.2.2.2.2.2.1),(.int .i64 r.2.2.2.2.2.2.2.1),(.int .i64 r.2.2.2.2.2.2.2.2.1),(.int .i64 r.2.2.2.2.2.2.2.2.2)])
def z18.pack:List V->Option Pack
 |[(.agg [(.int .u64 a0),(.int .u16 a1),(.int .u32 a2),(.int .u8 a3),(.int .u8 a4),(.int .u8 a5),(.int .u8 a6),(.int .u8 a7),(.int .u8 a8),(.int .i64 a9),(.int .i64 a10),(.int .i64 a11)]),(.int .i64 a12)]=>some ⟨(List UInt8)×(List UInt8)×Int×Int×Int×Int×Int×Int×Int×Int,z18.F a0 a1 a2 a3 a4 a5 a6 a7 a8 a9 a10 a11 a12,z18.enc⟩
 |_=>none
def z77.F:Option ((List (List UInt8))):=
 (some [([97,110,110,117,105,116,121]:List UInt8),([108,105,110,101,97,114]:List UInt8),([98,117,108,108,101,116]:List UInt8)])
def z77.enc (r:(List (List UInt8))):V:=(.strs false r)
def z77.pack:List V->Option Pack
 |[]=>some ⟨(List (List UInt8)),z77.F,z77.enc⟩
 |_=>none
def z78.j1 (a0:Int):Option ((List UInt8)):=
 (z77.F.bind λr2=>(if 0<=a0/\a0<(r2.length:Int) then (some (r2.getD (a0).toNat [])) else none))
def z78.F (a0:Int):Option ((List UInt8)):=
 (bif (decide (a0<0)) then (some ([]:List UInt8)) else (bif (decide (a0>=3)) then (some ([]:List UInt8)) else (z78.j1 a0)))
def z78.enc (r:(List UInt8)):V:=(.str r)
def z78.pack:List V->Option Pack
 |[(.int .i64 a0)]=>some ⟨(List UInt8),z78.F a0,z78.enc⟩
 |_=>none
def z85.F (a0 a1:List UInt8) (a2 a3 a4 a5 a6 a7 a8 a9:Int):Option (Bool):=
 ((z78.F a2).bind λr1=>(bif (decide (r1=([]:List UInt8))) then (some true) else ((z84.F a3).bind λr2=>(bif (decide (r2=([]:List UInt8))) then (some true) else ((z81.F a4).bind λr3=>(bif (decide (r3=([]:List UInt8))) then (some true) else (bif (decide (a8<1)) then (some true) else (bif (decide (a8=5)) then (some true) else (if a8=0 then none else (some (!decide ((Int.tmod 12 a8)=0))))))))))))
def z85.enc (r:Bool):V:=(.bool r)
def z85.pack:List V->Option Pack
 |[(.agg [(.str a0),(.str a1),(.int .i64 a2),(.int .i64 a3),(.int .i64 a4),(.int .i64 a5),(.int .i64 a6),(.int .i64 a7),(.int .i64 a8),(.int .i64 a9)])]=>some ⟨Bool,z85.F a0 a1 a2 a3 a4 a5 a6 a7 a8 a9,z85.enc⟩
 |_=>none
def z90.j3 (a0 a1 a3 a2:Int):Option (Int×Int×Int×Int):=
 ((z88.F (wr .i64 (Int.tdiv (wr .i64 ((wr .i64 ((wr .i64 ((wr .i64 ((12:Int)*a0))+a1))-1))+a3)) 12)) (wr .i64 ((Int.tmod (wr .i64 ((wr .i64 ((wr .i64 ((wr .i64 ((12:Int)*a0))+a1))-1))+a3)) 12)+1))).bind λr4=>(some ((wr .i64 (Int.tdiv (wr .i64 ((wr .i64 ((wr .i64 ((wr .i64 ((12:Int)*a0))+a1))-1))+a3)) 12)),(wr .i64 ((Int.tmod (wr .i64 ((wr .i64 ((wr .i64 ((wr .i64 ((12:Int)*a0))+a1))-1))+a3)) 12)+1)),(if r4<a2 then r4 else a2),(0:Int))))
def z90.j2 (a0 a1 a3 a2:Int):Option (Int×Int×Int×Int):=
 (bif (decide ((wr .i64 ((wr .i64 ((wr .i64 ((wr .i64 ((12:Int)*a0))+a1))-1))+a3))<12)) then (some ((0:Int),(0:Int),(0:Int),(11:Int))) else (bif (decide ((wr .i64 (Int.tdiv (wr .i64 ((wr .i64 ((wr .i64 ((wr .i64 ((12:Int)*a0))+a1))-1))+a3)) 12))>9999)) then (some ((0:Int),(0:Int),(0:Int),(11:Int))) else (z90.j3 a0 a1 a3 a2)))
def z90.F (a0 a1 a2 a3:Int):Option (Int×Int×Int×Int):=
 ((z89.F a0 a1 a2).bind λr1=>(bif (!decide (r1=0)) then (some ((0:Int),(0:Int),(0:Int),r1)) else (bif (decide (a3<(-119988:Int))) then (some ((0:Int),(0:Int),(0:Int),(11:Int))) else (bif (decide (a3>119988)) then (some ((0:Int),(0:Int),(0:Int),(11:Int))) else (z90.j2 a0 a1 a3 a2)))))
def z90.enc (r:Int×Int×Int×Int):V:=(.tup [(.agg [(.int .i64 r.1),(.int .i64 r.2.1),(.int .i64 r.2.2.1)]),(.int .i64 r.2.2.2)])
def z90.pack:List V->Option Pack
 |[(.agg [(.int .i64 a0),(.int .i64 a1),(.int .i64 a2)]),(.int .i64 a3)]=>some ⟨Int×Int×Int×Int,z90.F a0 a1 a2 a3,z90.enc⟩
 |_=>none
def z91.F (a0 a1:List UInt8) (a2 a3 a4 a5 a6 a7 a8 a9:Int):Option (Int):=
 ((z46.F a0).bind λr1=>(bif (!decide (r1.2.2=0)) then (some r1.2.2) else ((z20.F r1.1 r1.2.1).bind λr2=>(bif (decide (r2=0)) then (some 19) else ((z76.F a1).bind λr3=>(bif (!decide (r3.2.2.2=0)) then (some r3.2.2.2) else ((z85.F a0 a1 a2 a3 a4 a5 a6 a7 a8 a9).bind λr4=>(bif r4 then (some 2) else (bif (decide (a9<1)) then (some 6) else (bif (decide (a9>1200)) then (some 6) else ((z90.F a5 a6 a7 (wr .i64 (a8*a9))).bind λr8=>(some r8.2.2.2))))))))))))
def z91.enc (r:Int):V:=(.int .i64 r)
def z91.pack:List V->Option Pack
 |[(.agg [(.str a0),(.str a1),(.int .i64 a2),(.int .i64 a3),(.int .i64 a4),(.int .i64 a5),(.int .i64 a6),(.int .i64 a7),(.int .i64 a8),(.int .i64 a9)])]=>some ⟨Int,z91.F a0 a1 a2 a3 a4 a5 a6 a7 a8 a9,z91.enc⟩
 |_=>none
def z92.l0P (a b c d e:Int) {R:Type} (rec:(Int×(List (List V)))->Option R) (done:((Int×(List (List V)))⊕((List (List V))×Int×(List (List V))))->Option R):(Int×(List (List V)))->Option R:=λx=>match x with
 |(g,h)=>(bif (decide (g<=b)) then ((z90.F c d e (wr .i64 (g*(if 119989<a then 119989 else a)))).bind λj=>(bif (!decide (j.2.2.2=0)) then (done (.inr ([],j.2.2.2,h))) else (if ((h).length+(([[(.int .i64 j.1),(.int .i64 j.2.1),(.int .i64 j.2.2.1)]]:List (List V))).length)*24<=140737488355328 then (rec ((wr .i64 (g+1)),(h++([[(.int .i64 j.1),(.int .i64 j.2.1),(.int .i64 j.2.2.1)]]:List (List V))))) else none))) else (done (.inl (g,h))))
def z92.l0 (a b c d e:Int) (x:(Int×(List (List V)))):Option (((Int×(List (List V)))⊕((List (List V))×Int×(List (List V))))):=lfp (λrec x=>z92.l0P a b c d e rec some x) x
def z92.j1 (a0 a1 a2 a3 a4:Int):Option ((List (List V))×Int):=
 ((z89.F a0 a1 a2).bind λr2=>(bif (!decide (r2=0)) then (some ([],r2)) else ((z92.l0 a3 a4 a0 a1 a2 ((1:Int),[])).bind λo3=>match o3 with | .inl p4=>(some (p4.2,(0:Int))) | .inr q5=>(some (q5.1,q5.2.1)))))
def z92.F (a0 a1 a2 a3 a4:Int):Option ((List (List V))×Int):=
 (bif (decide (a3<1)) then (some ([],(2:Int))) else (bif (decide (a4<0)) then (some ([],(2:Int))) else (bif (decide (a4>1200)) then (some ([],(2:Int))) else (z92.j1 a0 a1 a2 a3 a4))))
def z92.enc (r:(List (List V))×Int):V:=(.tup [(.recs false 3 r.1),(.int .i64 r.2)])
def z92.pack:List V->Option Pack
 |[(.agg [(.int .i64 a0),(.int .i64 a1),(.int .i64 a2)]),(.int .i64 a3),(.int .i64 a4)]=>some ⟨(List (List V))×Int,z92.F a0 a1 a2 a3 a4,z92.enc⟩
 |_=>none
def z93.F (a0 a1:List UInt8) (a2 a3 a4 a5 a6 a7 a8 a9:Int):Option ((List (List V))×Int):=
 ((z91.F a0 a1 a2 a3 a4 a5 a6 a7 a8 a9).bind λr1=>(bif (!decide (r1=0)) then (some ([],r1)) else ((z92.F a5 a6 a7 a8 a9).bind λr2=>(some (r2.1,r2.2)))))
def z93.enc (r:(List (List V))×Int):V:=(.tup [(.recs false 3 r.1),(.int .i64 r.2)])
def z93.pack:List V->Option Pack
 |[(.agg [(.str a0),(.str a1),(.int .i64 a2),(.int .i64 a3),(.int .i64 a4),(.int .i64 a5),(.int .i64 a6),(.int .i64 a7),(.int .i64 a8),(.int .i64 a9)])]=>some ⟨(List (List V))×Int,z93.F a0 a1 a2 a3 a4 a5 a6 a7 a8 a9,z93.enc⟩
 |_=>none
def z94.l0P (a:List (List V)) (b:Int) {R:Type} (rec done:(Int×(List (List V))×Int×Int×Int)->Option R):(Int×(List (List V))×Int×Int×Int)->Option R:=λx=>match x with
 |(c,d,e,g,h)=>(bif (decide (c<b)) then (if 0<=c/\c<(a.length:Int) then (V.asInt .i64 (((a.getD (c).toNat [])).getD 0 .undef) λj=>(V.asInt .i64 (((a.getD (c).toNat [])).getD 1 .undef) λk=>(V.asInt .i64 (((a.getD (c).toNat [])).getD 2 .undef) λm=>(if ((d).length+(([[(.int .i64 e),(.int .i64 g),(.int .i64 h),(.int .i64 j),(.int .i64 k),(.int .i64 m)]]:List (List V))).length)*48<=140737488355328 then (rec ((wr .i64 (c+1)),(d++([[(.int .i64 e),(.int .i64 g),(.int .i64 h),(.int .i64 j),(.int .i64 k),(.int .i64 m)]]:List (List V))),j,k,m)) else none)))) else none) else (done (c,d,e,g,h)))
def z94.l0 (a:List (List V)) (b:Int) (x:(Int×(List (List V))×Int×Int×Int)):Option ((Int×(List (List V))×Int×Int×Int)):=lfp (λrec x=>z94.l0P a b rec some x) x
def z94.F (a0 a1:List UInt8) (a2 a3 a4 a5 a6 a7 a8 a9:Int):Option ((List (List V))×Int):=
 ((z93.F a0 a1 a2 a3 a4 a5 a6 a7 a8 a9).bind λr1=>(bif (!decide (r1.2=0)) then (some ([],r1.2)) else ((z94.l0 r1.1 (((r1.1).length:Nat):Int) ((0:Int),[],a5,a6,a7)).bind λo2=>(some (o2.2.1,(0:Int))))))
def z94.enc (r:(List (List V))×Int):V:=(.tup [(.recs false 6 r.1),(.int .i64 r.2)])
def z94.pack:List V->Option Pack
 |[(.agg [(.str a0),(.str a1),(.int .i64 a2),(.int .i64 a3),(.int .i64 a4),(.int .i64 a5),(.int .i64 a6),(.int .i64 a7),(.int .i64 a8),(.int .i64 a9)])]=>some ⟨(List (List V))×Int,z94.F a0 a1 a2 a3 a4 a5 a6 a7 a8 a9,z94.enc⟩
 |_=>none
def z95.enc (r:Int):V:=(.int .i64 r)
def z95.pack:List V->Option Pack
 |[(.ints _ .i64 a0)]=>some ⟨Int,z95.F a0,z95.enc⟩
 |_=>none
def z96.enc (r:Int):V:=(.int .i64 r)
def z96.pack:List V->Option Pack
 |[(.agg [(.int .i64 a0),(.int .i64 a1),(.int .i64 a2)]),(.agg [(.int .i64 a3),(.int .i64 a4),(.int .i64 a5)])]=>some ⟨Int,z96.F a0 a1 a2 a3 a4 a5,z96.enc⟩
 |_=>none
def z97.enc (r:Int):V:=(.int .i64 r)
def z97.pack:List V->Option Pack
 |[(.int .i64 a0)]=>some ⟨Int,z97.F a0,z97.enc⟩
 |_=>none
def z98.enc (r:Int×Int):V:=(.tup [(.int .i64 r.1),(.int .i64 r.2)])
def z98.pack:List V->Option Pack
 |[(.agg [(.int .i64 a0),(.int .i64 a1),(.int .i64 a2)])]=>some ⟨Int×Int,z98.F a0 a1 a2,z98.enc⟩
 |_=>none
def z101.l2P (a:List UInt8) (b:Int) {R:Type} (rec done:(Int×Int)->Option R):(Int×Int)->Option R:=λx=>match x with
 |(c,d)=>(bif (decide (d<b)) then (if 0<=d/\d<(a.length:Int) then (rec ((wr .i64 ((wr .i64 ((wr .i64 ((10:Int)*c))+(wr .i64 ((a.getD (d).toNat 0).toNat:Int))))-48)),(wr .i64 (d+1)))) else none) else (done (c,d)))
def z101.l2 (a:List UInt8) (b:Int) (x:(Int×Int)):Option ((Int×Int)):=lfp (λrec x=>z101.l2P a b rec some x) x
def z101.l0P (a:List UInt8) {R:Type} (rec done:(Int×(List Int))->Option R):(Int×(List Int))->Option R:=λx=>match x with
 |(b,c)=>(bif (decide (b>0)) then ((z101.l2 a b ((0:Int),(if (wr .i64 (b-4))>0 then (wr .i64 (b-4)) else 0))).bind λd=>(if ((c).length+([d.1]).length)*8<=140737488355328 then (rec ((wr .i64 (b-4)),(c++[d.1]))) else none)) else (done (b,c)))
def z101.l0 (a:List UInt8) (x:(Int×(List Int))):Option ((Int×(List Int))):=lfp (λrec x=>z101.l0P a rec some x) x
def z101.F (a0:List UInt8):Option ((List Int)):=
 ((z101.l0 a0 ((a0.length:Int),[])).bind λo1=>((z14.F o1.2).bind λr2=>(some r2)))
def z101.enc (r:(List Int)):V:=(.ints false .i64 r)
def z101.pack:List V->Option Pack
 |[(.str a0)]=>some ⟨(List Int),z101.F a0,z101.enc⟩
 |_=>none
def z105.l0P (a:Int) {R:Type} (rec done:((List UInt8)×Int)->Option R):((List UInt8)×Int)->Option R:=λx=>match x with
 |(b,c)=>(bif (decide (c<a)) then (if b.length+([48]:List UInt8).length<=9223372036854775807 then (rec ((b++([48]:List UInt8)),(wr .i64 (c+1)))) else none) else (done (b,c)))
def z105.l0 (a:Int) (x:((List UInt8)×Int)):Option (((List UInt8)×Int)):=lfp (λrec x=>z105.l0P a rec some x) x
def z105.F (a0:Int):Option ((List Int)):=
 ((z105.l0 a0 (([49]:List UInt8),(0:Int))).bind λo1=>((z101.F o1.1).bind λr2=>(some r2)))
def z105.enc (r:(List Int)):V:=(.ints false .i64 r)
def z105.pack:List V->Option Pack
 |[(.int .i64 a0)]=>some ⟨(List Int),z105.F a0,z105.enc⟩
 |_=>none
def z106.F (a0:List Int) (a1:Bool):Option ((List Int)×Bool):=
 ((z7.F a0 (!a1)).bind λr1=>(some (r1.1,r1.2)))
def z106.enc (r:(List Int)×Bool):V:=(.agg [(.ints false .i64 r.1),(.bool r.2)])
def z106.pack:List V->Option Pack
 |[(.agg [(.ints _ .i64 a0),(.bool a1)])]=>some ⟨(List Int)×Bool,z106.F a0 a1,z106.enc⟩
 |_=>none
def z107.l0b6P (a b:List Int) {R:Type} (rec done:(Int×Int×(List Int))->Option R):(Int×Int×(List Int))->Option R:=λx=>match x with
 |(c,d,e)=>(bif (decide (d<(((a).length:Nat):Int))) then ((z13.F a d).bind λg=>((z13.F b d).bind λh=>(if ((e).length+([(Int.tmod (wr .i64 ((wr .i64 (g+h))+c)) 10000)]).length)*8<=140737488355328 then (rec ((wr .i64 (Int.tdiv (wr .i64 ((wr .i64 (g+h))+c)) 10000)),(wr .i64 (d+1)),(e++[(Int.tmod (wr .i64 ((wr .i64 (g+h))+c)) 10000)]))) else none))) else (bif (decide (d<(((b).length:Nat):Int))) then ((z13.F a d).bind λj=>((z13.F b d).bind λk=>(if ((e).length+([(Int.tmod (wr .i64 ((wr .i64 (j+k))+c)) 10000)]).length)*8<=140737488355328 then (rec ((wr .i64 (Int.tdiv (wr .i64 ((wr .i64 (j+k))+c)) 10000)),(wr .i64 (d+1)),(e++[(Int.tmod (wr .i64 ((wr .i64 (j+k))+c)) 10000)]))) else none))) else (bif (decide (c>0)) then ((z13.F a d).bind λm=>((z13.F b d).bind λn=>(if ((e).length+([(Int.tmod (wr .i64 ((wr .i64 (m+n))+c)) 10000)]).length)*8<=140737488355328 then (rec ((wr .i64 (Int.tdiv (wr .i64 ((wr .i64 (m+n))+c)) 10000)),(wr .i64 (d+1)),(e++[(Int.tmod (wr .i64 ((wr .i64 (m+n))+c)) 10000)]))) else none))) else (done (c,d,e)))))
def z107.l0b6 (a b:List Int) (x:(Int×Int×(List Int))):Option ((Int×Int×(List Int))):=lfp (λrec x=>z107.l0b6P a b rec some x) x
def z107.F (a0 a1:List Int):Option ((List Int)):=
 ((z107.l0b6 a0 a1 ((0:Int),(0:Int),[])).bind λo1=>((z14.F o1.2.2).bind λr2=>(some r2)))
def z107.enc (r:(List Int)):V:=(.ints false .i64 r)
def z107.pack:List V->Option Pack
 |[(.ints _ .i64 a0),(.ints _ .i64 a1)]=>some ⟨(List Int),z107.F a0 a1,z107.enc⟩
 |_=>none
def z108.l0P (a b:List Int) {R:Type} (rec:Int->Option R) (done:((Int)⊕(Int))->Option R):Int->Option R:=λc=>(bif (decide (c>=0)) then (if 0<=c/\c<(a.length:Int) then (if 0<=c/\c<(b.length:Int) then (bif (decide ((a.getD (c).toNat 0)<(b.getD (c).toNat 0))) then (done (.inr (-1:Int))) else (if 0<=c/\c<(a.length:Int) then (if 0<=c/\c<(b.length:Int) then (bif (decide ((a.getD (c).toNat 0)>(b.getD (c).toNat 0))) then (done (.inr 1)) else (rec (wr .i64 (c-1)))) else none) else none)) else none) else none) else (done (.inl c)))
def z108.l0 (a b:List Int) (x:Int):Option (((Int)⊕(Int))):=lfp (λrec x=>z108.l0P a b rec some x) x
def z108.F (a0 a1:List Int):Option (Int):=
 (bif (!decide ((((a0).length:Nat):Int)=(((a1).length:Nat):Int))) then (bif (decide ((((a0).length:Nat):Int)<(((a1).length:Nat):Int))) then (some (-1:Int)) else (some 1)) else ((z108.l0 a0 a1 (wr .i64 ((((a0).length:Nat):Int)-1))).bind λo1=>match o1 with | .inl p2=>(some 0) | .inr q3=>(some q3)))
def z108.enc (r:Int):V:=(.int .i64 r)
def z108.pack:List V->Option Pack
 |[(.ints _ .i64 a0),(.ints _ .i64 a1)]=>some ⟨Int,z108.F a0 a1,z108.enc⟩
 |_=>none
def z109.l0P (a b:List Int) {R:Type} (rec done:(Int×Int×(List Int))->Option R):(Int×Int×(List Int))->Option R:=λx=>match x with
 |(c,d,e)=>(bif (decide (d<(((a).length:Nat):Int))) then ((z13.F b d).bind λg=>(if 0<=d/\d<(a.length:Int) then (bif (decide ((wr .i64 ((wr .i64 ((a.getD (d).toNat 0)-g))-c))<0)) then (if ((e).length+([(wr .i64 ((wr .i64 ((wr .i64 ((a.getD (d).toNat 0)-g))-c))+10000))]).length)*8<=140737488355328 then (rec ((1:Int),(wr .i64 (d+1)),(e++[(wr .i64 ((wr .i64 ((wr .i64 ((a.getD (d).toNat 0)-g))-c))+10000))]))) else none) else (if ((e).length+([(wr .i64 ((wr .i64 ((a.getD (d).toNat 0)-g))-c))]).length)*8<=140737488355328 then (rec ((0:Int),(wr .i64 (d+1)),(e++[(wr .i64 ((wr .i64 ((a.getD (d).toNat 0)-g))-c))]))) else none)) else none)) else (done (c,d,e)))
def z109.l0 (a b:List Int) (x:(Int×Int×(List Int))):Option ((Int×Int×(List Int))):=lfp (λrec x=>z109.l0P a b rec some x) x
def z109.F (a0 a1:List Int):Option ((List Int)):=
 ((z109.l0 a0 a1 ((0:Int),(0:Int),[])).bind λo1=>((z14.F o1.2.2).bind λr2=>(some r2)))
def z109.enc (r:(List Int)):V:=(.ints false .i64 r)
def z109.pack:List V->Option Pack
 |[(.ints _ .i64 a0),(.ints _ .i64 a1)]=>some ⟨(List Int),z109.F a0 a1,z109.enc⟩
 |_=>none
def z110.F (a0:List Int) (a1:Bool) (a2:List Int) (a3:Bool):Option ((List Int)×Bool):=
 (bif (decide (a1=a3)) then ((z107.F a0 a2).bind λr1=>((z7.F r1 a1).bind λr2=>(some (r2.1,r2.2)))) else ((z108.F a0 a2).bind λr3=>(bif (decide (r3>=0)) then ((z109.F a0 a2).bind λr4=>((z7.F r4 a1).bind λr5=>(some (r5.1,r5.2)))) else ((z109.F a2 a0).bind λr6=>((z7.F r6 a3).bind λr7=>(some (r7.1,r7.2)))))))
def z110.enc (r:(List Int)×Bool):V:=(.agg [(.ints false .i64 r.1),(.bool r.2)])
def z110.pack:List V->Option Pack
 |[(.agg [(.ints _ .i64 a0),(.bool a1)]),(.agg [(.ints _ .i64 a2),(.bool a3)])]=>some ⟨(List Int)×Bool,z110.F a0 a1 a2 a3,z110.enc⟩
 |_=>none
def z111.F (a0:List Int) (a1:Bool) (a2:List Int) (a3:Bool):Option ((List Int)×Bool):=
 ((z106.F a2 a3).bind λr1=>((z110.F a0 a1 r1.1 r1.2).bind λr2=>(some (r2.1,r2.2))))
def z111.enc (r:(List Int)×Bool):V:=(.agg [(.ints false .i64 r.1),(.bool r.2)])
def z111.pack:List V->Option Pack
 |[(.agg [(.ints _ .i64 a0),(.bool a1)]),(.agg [(.ints _ .i64 a2),(.bool a3)])]=>some ⟨(List Int)×Bool,z111.F a0 a1 a2 a3,z111.enc⟩
 |_=>none
def z112.F (a0:List Int) (a1:Bool):Option (Int):=
 (bif (decide ((((a0).length:Nat):Int)=0)) then (some 0) else (bif a1 then (some (-1:Int)) else (some 1)))
def z112.enc (r:Int):V:=(.int .i64 r)
def z112.pack:List V->Option Pack
 |[(.agg [(.ints _ .i64 a0),(.bool a1)])]=>some ⟨Int,z112.F a0 a1,z112.enc⟩
 |_=>none
def z113.F (a0:List Int) (a1:Bool) (a2:List Int) (a3:Bool):Option (Int):=
 ((z111.F a0 a1 a2 a3).bind λr1=>((z112.F r1.1 r1.2).bind λr2=>(some r2)))
def z113.enc (r:Int):V:=(.int .i64 r)
def z113.pack:List V->Option Pack
 |[(.agg [(.ints _ .i64 a0),(.bool a1)]),(.agg [(.ints _ .i64 a2),(.bool a3)])]=>some ⟨Int,z113.F a0 a1 a2 a3,z113.enc⟩
 |_=>none
def z115.l2P (a b:List Int) {R:Type} (rec done:(Int×Int)->Option R):(Int×Int)->Option R:=λx=>match x with
 |(c,d)=>(bif (decide (c<d)) then ((z8.F (wr .i64 (Int.tdiv (wr .i64 ((wr .i64 (c+d))+1)) 2))).bind λe=>((z15.F a e).bind λg=>((z108.F g b).bind λh=>(bif (decide (h<=0)) then (rec ((wr .i64 (Int.tdiv (wr .i64 ((wr .i64 (c+d))+1)) 2)),d)) else (rec (c,(wr .i64 ((wr .i64 (Int.tdiv (wr .i64 ((wr .i64 (c+d))+1)) 2))-1)))))))) else (done (c,d)))
def z115.l2 (a b:List Int) (x:(Int×Int)):Option ((Int×Int)):=lfp (λrec x=>z115.l2P a b rec some x) x
def z115.l0aP (a b:List Int) {R:Type} (rec done:((List Int)×Int×(List Int))->Option R):((List Int)×Int×(List Int))->Option R:=λx=>match x with
 |(c,d,e)=>(bif (decide (d>=0)) then (if 0<=d/\d<(a.length:Int) then (if (([(a.getD (d).toNat 0)]).length+(c).length)*8<=140737488355328 then ((z14.F ([(a.getD (d).toNat 0)]++c)).bind λg=>((z115.l2 b g ((0:Int),(9999:Int))).bind λh=>(if 0<=d/\d<(e.length:Int) then (if (d).toNat<e.length then ((z8.F h.1).bind λj=>((z15.F b j).bind λk=>((z109.F g k).bind λm=>(rec (m,(wr .i64 (d-1)),(e.set (d).toNat h.1)))))) else none) else none))) else none) else none) else (done (c,d,e)))
def z115.l0a (a b:List Int) (x:((List Int)×Int×(List Int))):Option (((List Int)×Int×(List Int))):=lfp (λrec x=>z115.l0aP a b rec some x) x
def z115.F (a0 a1:List Int):Option ((List Int)×(List Int)):=
 (if 0<=(((a0).length:Nat):Int)/\(((a0).length:Nat):Int)*8<=140737488355328 then ((z115.l0a a0 a1 ([],(wr .i64 ((((a0).length:Nat):Int)-1)),(List.replicate ((((a0).length:Nat):Int)).toNat (0:Int)))).bind λo1=>((z14.F o1.2.2).bind λr2=>(some (r2,o1.1)))) else none)
def z115.enc (r:(List Int)×(List Int)):V:=(.tup [(.ints false .i64 r.1),(.ints false .i64 r.2)])
def z115.pack:List V->Option Pack
 |[(.ints _ .i64 a0),(.ints _ .i64 a1)]=>some ⟨(List Int)×(List Int),z115.F a0 a1,z115.enc⟩
 |_=>none
def z116.l0P {R:Type} (rec done:((List Int)×(List Int))->Option R):((List Int)×(List Int))->Option R:=λx=>match x with
 |(a,b)=>(bif (decide ((((b).length:Nat):Int)>0)) then ((z115.F a b).bind λc=>(rec (b,c.2))) else (done (a,b)))
def z116.l0 (x:((List Int)×(List Int))):Option (((List Int)×(List Int))):=lfp (λrec x=>z116.l0P rec some x) x
def z116.F (a0 a1:List Int):Option ((List Int)):=
 ((z116.l0 (a0,a1)).bind λo1=>(some o1.1))
def z116.enc (r:(List Int)):V:=(.ints false .i64 r)
def z116.pack:List V->Option Pack
 |[(.ints _ .i64 a0),(.ints _ .i64 a1)]=>some ⟨(List Int),z116.F a0 a1,z116.enc⟩
 |_=>none
def z117.F (a0:List Int) (a1:Bool) (a2:List Int):Option ((List Int)×Bool×(List Int)):=
 ((z116.F a0 a2).bind λr1=>((z115.F a0 r1).bind λr2=>((z115.F a2 r1).bind λr3=>((z7.F r2.1 a1).bind λr4=>(some (r4.1,r4.2,r3.1))))))
def z117.enc (r:(List Int)×Bool×(List Int)):V:=(.agg [(.ints false .i64 r.1),(.bool r.2.1),(.ints false .i64 r.2.2)])
def z117.pack:List V->Option Pack
 |[(.agg [(.ints _ .i64 a0),(.bool a1)]),(.ints _ .i64 a2)]=>some ⟨(List Int)×Bool×(List Int),z117.F a0 a1 a2,z117.enc⟩
 |_=>none
def z118.F (a0:List Int) (a1:Bool) (a2:List Int) (a3:Bool):Option ((List Int)×Bool×(List Int)):=
 (bif a3 then ((z106.F a0 a1).bind λr1=>((z117.F r1.1 r1.2 a2).bind λr5=>(some (r5.1,r5.2.1,r5.2.2)))) else ((z117.F a0 a1 a2).bind λr6=>(some (r6.1,r6.2.1,r6.2.2))))
def z118.enc (r:(List Int)×Bool×(List Int)):V:=(.agg [(.ints false .i64 r.1),(.bool r.2.1),(.ints false .i64 r.2.2)])
def z118.pack:List V->Option Pack
 |[(.agg [(.ints _ .i64 a0),(.bool a1)]),(.agg [(.ints _ .i64 a2),(.bool a3)])]=>some ⟨(List Int)×Bool×(List Int),z118.F a0 a1 a2 a3,z118.enc⟩
 |_=>none
def z119.F (a0 a1:Int):Option ((List Int)×Bool×(List Int)):=
 ((z9.F a0).bind λr1=>((z9.F a1).bind λr2=>((z118.F r1.1 r1.2 r2.1 r2.2).bind λr3=>(some (r3.1,r3.2.1,r3.2.2)))))
def z119.enc (r:(List Int)×Bool×(List Int)):V:=(.agg [(.ints false .i64 r.1),(.bool r.2.1),(.ints false .i64 r.2.2)])
def z119.pack:List V->Option Pack
 |[(.int .i64 a0),(.int .i64 a1)]=>some ⟨(List Int)×Bool×(List Int),z119.F a0 a1,z119.enc⟩
 |_=>none
def z120.j11016a {R:Type} (rec:(Int×(List UInt8)×Int×Int×Bool)->Option R) (done:((Int×(List UInt8)×Int×Int×Bool)⊕(Int))->Option R) (a:Bool) (b:Int) (c d:List UInt8) (e g:Int):Option R:=
 (bif a then (if 0<=b/\b<(c.length:Int) then (if 0<=b/\b<=(wr .i64 (b+1))/\(wr .i64 (b+1))<=((c).length:Int) then (if d.length+((c.drop (b).toNat).take (((wr .i64 (b+1))).toNat-(b).toNat)).length<=9223372036854775807 then (rec ((wr .i64 (b+1)),(d++((c.drop (b).toNat).take (((wr .i64 (b+1))).toNat-(b).toNat))),e,g,(decide (((c.getD (b).toNat 0).toNat:Int)=48)))) else none) else none) else none) else (if 0<=b/\b<=(wr .i64 (b+1))/\(wr .i64 (b+1))<=((c).length:Int) then (if d.length+((c.drop (b).toNat).take (((wr .i64 (b+1))).toNat-(b).toNat)).length<=9223372036854775807 then (rec ((wr .i64 (b+1)),(d++((c.drop (b).toNat).take (((wr .i64 (b+1))).toNat-(b).toNat))),e,g,false)) else none) else none))
def z120.j11018a {R:Type} (rec:(Int×(List UInt8)×Int×Int×Bool)->Option R) (done:((Int×(List UInt8)×Int×Int×Bool)⊕(Int))->Option R) (a:Bool) (b:Int) (c d:List UInt8) (e g:Int):Option R:=
 (bif a then (if 0<=b/\b<(c.length:Int) then (if 0<=b/\b<=(wr .i64 (b+1))/\(wr .i64 (b+1))<=((c).length:Int) then (if d.length+((c.drop (b).toNat).take (((wr .i64 (b+1))).toNat-(b).toNat)).length<=9223372036854775807 then (rec ((wr .i64 (b+1)),(d++((c.drop (b).toNat).take (((wr .i64 (b+1))).toNat-(b).toNat))),e,g,(decide (((c.getD (b).toNat 0).toNat:Int)=48)))) else none) else none) else none) else (if 0<=b/\b<=(wr .i64 (b+1))/\(wr .i64 (b+1))<=((c).length:Int) then (if d.length+((c.drop (b).toNat).take (((wr .i64 (b+1))).toNat-(b).toNat)).length<=9223372036854775807 then (rec ((wr .i64 (b+1)),(d++((c.drop (b).toNat).take (((wr .i64 (b+1))).toNat-(b).toNat))),e,g,false)) else none) else none))
def z120.l0b10P (a:List UInt8) {R:Type} (rec:(Int×(List UInt8)×Int×Int×Bool)->Option R) (done:((Int×(List UInt8)×Int×Int×Bool)⊕(Int))->Option R):(Int×(List UInt8)×Int×Int×Bool)->Option R:=λx=>match x with
 |(b,c,d,e,g)=>(bif (decide (b<(a.length:Int))) then (if 0<=b/\b<(a.length:Int) then (bif (decide (((a.getD (b).toNat 0).toNat:Int)=46)) then (bif (decide (e<0)) then (rec ((wr .i64 (b+1)),c,d,(0:Int),g)) else (if 0<=b/\b<(a.length:Int) then (bif (decide (((a.getD (b).toNat 0).toNat:Int)<48)) then (done (.inr 5)) else (if 0<=b/\b<(a.length:Int) then (bif (decide (((a.getD (b).toNat 0).toNat:Int)>57)) then (done (.inr 5)) else (bif (decide (e<0)) then (z120.j11016a rec done g b a c (wr .i64 (d+1)) e) else (z120.j11016a rec done g b a c d (wr .i64 (e+1))))) else none)) else none)) else (if 0<=b/\b<(a.length:Int) then (bif (decide (((a.getD (b).toNat 0).toNat:Int)<48)) then (done (.inr 5)) else (if 0<=b/\b<(a.length:Int) then (bif (decide (((a.getD (b).toNat 0).toNat:Int)>57)) then (done (.inr 5)) else (bif (decide (e<0)) then (z120.j11018a rec done g b a c (wr .i64 (d+1)) e) else (z120.j11018a rec done g b a c d (wr .i64 (e+1))))) else none)) else none)) else none) else (done (.inl (b,c,d,e,g))))
def z120.l0b10 (a:List UInt8) (x:(Int×(List UInt8)×Int×Int×Bool)):Option (((Int×(List UInt8)×Int×Int×Bool)⊕(Int))):=lfp (λrec x=>z120.l0b10P a rec some x) x
def z120.j7 (p5:Int×(List UInt8)×Int×Int×Bool) (j2:Bool):Option ((List Int)×Bool×Int×Int):=
 (bif (decide (p5.2.2.2.1>64)) then (some ([],false,(0:Int),(10:Int))) else ((z101.F p5.2.1).bind λr8=>((z7.F r8 j2).bind λr9=>(some (r9.1,r9.2,(if 0>p5.2.2.2.1 then 0 else p5.2.2.2.1),(0:Int))))))
def z120.j3 (a0:List UInt8) (j3:Int) (j2:Bool):Option ((List Int)×Bool×Int×Int):=
 ((z120.l0b10 a0 (j3,([]:List UInt8),(0:Int),(-1:Int),true)).bind λo4=>match o4 with | .inl p5=>(bif (decide (p5.2.2.1=0)) then (some ([],false,(0:Int),(5:Int))) else (bif (decide (p5.2.2.2.1=0)) then (some ([],false,(0:Int),(5:Int))) else (bif (decide (p5.2.2.1>1)) then (if (0:Int)<=(0:Int)/\(0:Int)<(p5.2.1.length:Int) then (bif (decide (((p5.2.1.getD 0 0).toNat:Int)=48)) then (some ([],false,(0:Int),(5:Int))) else (bif j2 then (bif p5.2.2.2.2 then (some ([],false,(0:Int),(5:Int))) else (z120.j7 p5 j2)) else (z120.j7 p5 j2))) else none) else (bif j2 then (bif p5.2.2.2.2 then (some ([],false,(0:Int),(5:Int))) else (z120.j7 p5 j2)) else (z120.j7 p5 j2))))) | .inr q6=>(some ([],false,(0:Int),q6)))
def z120.F (a0:List UInt8):Option ((List Int)×Bool×Int×Int):=
 (bif (decide ((a0.length:Int)>0)) then (if (0:Int)<=(0:Int)/\(0:Int)<(a0.length:Int) then (bif (decide (((a0.getD 0 0).toNat:Int)=45)) then (z120.j3 a0 1 true) else (z120.j3 a0 0 false)) else none) else (z120.j3 a0 0 false))
def z120.enc (r:(List Int)×Bool×Int×Int):V:=(.tup [(.agg [(.ints false .i64 r.1),(.bool r.2.1),(.int .i64 r.2.2.1)]),(.int .i64 r.2.2.2)])
def z120.pack:List V->Option Pack
 |[(.str a0)]=>some ⟨(List Int)×Bool×Int×Int,z120.F a0,z120.enc⟩
 |_=>none
def z121.F (a0:List Int) (a1:Bool) (a2:Int):Option ((List Int)×Bool×(List Int)):=
 ((z105.F a2).bind λr1=>((z117.F a0 a1 r1).bind λr2=>(some (r2.1,r2.2.1,r2.2.2))))
def z121.enc (r:(List Int)×Bool×(List Int)):V:=(.agg [(.ints false .i64 r.1),(.bool r.2.1),(.ints false .i64 r.2.2)])
def z121.pack:List V->Option Pack
 |[(.agg [(.ints _ .i64 a0),(.bool a1),(.int .i64 a2)])]=>some ⟨(List Int)×Bool×(List Int),z121.F a0 a1 a2,z121.enc⟩
 |_=>none
def z122.F (a0:List Int) (a1:Bool) (a2 a3:List Int) (a4:Bool) (a5:List Int):Option ((List Int)×Bool):=
 ((z7.F a5 false).bind λr1=>((z16.F a0 a1 r1.1 r1.2).bind λr2=>(some (r2.1,r2.2))))
def z122.enc (r:(List Int)×Bool):V:=(.agg [(.ints false .i64 r.1),(.bool r.2)])
def z122.pack:List V->Option Pack
 |[(.agg [(.ints _ .i64 a0),(.bool a1),(.ints _ .i64 a2)]),(.agg [(.ints _ .i64 a3),(.bool a4),(.ints _ .i64 a5)])]=>some ⟨(List Int)×Bool,z122.F a0 a1 a2 a3 a4 a5,z122.enc⟩
 |_=>none
def z123.F (a0:List Int) (a1:Bool) (a2 a3:List Int) (a4:Bool) (a5:List Int):Option (Int):=
 ((z122.F a0 a1 a2 a3 a4 a5).bind λr1=>((z122.F a3 a4 a5 a0 a1 a2).bind λr2=>((z113.F r1.1 r1.2 r2.1 r2.2).bind λr3=>(some r3))))
def z123.enc (r:Int):V:=(.int .i64 r)
def z123.pack:List V->Option Pack
 |[(.agg [(.ints _ .i64 a0),(.bool a1),(.ints _ .i64 a2)]),(.agg [(.ints _ .i64 a3),(.bool a4),(.ints _ .i64 a5)])]=>some ⟨Int,z123.F a0 a1 a2 a3 a4 a5,z123.enc⟩
 |_=>none
def z124.F (a0:List Int) (a1:Bool) (a2 a3:List Int) (a4:Bool) (a5:List Int):Option ((List Int)×Bool×(List Int)):=
 ((z122.F a0 a1 a2 a3 a4 a5).bind λr1=>((z7.F a2 false).bind λr2=>((z16.F a3 a4 r2.1 r2.2).bind λr3=>((z118.F r1.1 r1.2 r3.1 r3.2).bind λr4=>(some (r4.1,r4.2.1,r4.2.2))))))
def z124.enc (r:(List Int)×Bool×(List Int)):V:=(.agg [(.ints false .i64 r.1),(.bool r.2.1),(.ints false .i64 r.2.2)])
def z124.pack:List V->Option Pack
 |[(.agg [(.ints _ .i64 a0),(.bool a1),(.ints _ .i64 a2)]),(.agg [(.ints _ .i64 a3),(.bool a4),(.ints _ .i64 a5)])]=>some ⟨(List Int)×Bool×(List Int),z124.F a0 a1 a2 a3 a4 a5,z124.enc⟩
 |_=>none
def z125.j6 (r3:(List Int)×Bool×(List Int)):Option ((List Int)×Bool×(List Int)×Int):=
 ((z119.F 100 1).bind λr7=>((z124.F r3.1 r3.2.1 r3.2.2 r7.1 r7.2.1 r7.2.2).bind λr8=>(some (r8.1,r8.2.1,r8.2.2,(0:Int)))))
def z125.F (a0:List UInt8):Option ((List Int)×Bool×(List Int)×Int):=
 ((z119.F 0 1).bind λr1=>(bif (decide ((a0.length:Int)>4096)) then (some (r1.1,r1.2.1,r1.2.2,(7:Int))) else ((z120.F a0).bind λr2=>(bif (!decide (r2.2.2.2=0)) then (some (r1.1,r1.2.1,r1.2.2,r2.2.2.2)) else ((z121.F r2.1 r2.2.1 r2.2.2.1).bind λr3=>((z119.F 1000 1).bind λr4=>((z123.F r3.1 r3.2.1 r3.2.2 r4.1 r4.2.1 r4.2.2).bind λr5=>(bif r2.2.1 then (some (r1.1,r1.2.1,r1.2.2,(18:Int))) else (bif (decide (r5>0)) then (some (r1.1,r1.2.1,r1.2.2,(18:Int))) else (bif (decide (r2.2.2.1>12)) then (some (r1.1,r1.2.1,r1.2.2,(18:Int))) else (z125.j6 r3)))))))))))
def z125.enc (r:(List Int)×Bool×(List Int)×Int):V:=(.tup [(.agg [(.ints false .i64 r.1),(.bool r.2.1),(.ints false .i64 r.2.2.1)]),(.int .i64 r.2.2.2)])
def z125.pack:List V->Option Pack
 |[(.str a0)]=>some ⟨(List Int)×Bool×(List Int)×Int,z125.F a0,z125.enc⟩
 |_=>none
def z126.F (a0 a1 a2:Int):Option (Bool):=
 ((z11.F a0 a1).bind λr1=>(bif (decide (a2>=1)) then (some (decide (a2<=r1))) else (some false)))
def z126.enc (r:Bool):V:=(.bool r)
def z126.pack:List V->Option Pack
 |[(.agg [(.int .i64 a0),(.int .i64 a1),(.int .i64 a2)])]=>some ⟨Bool,z126.F a0 a1 a2,z126.enc⟩
 |_=>none
def z132.l0P (a b:List Int) {R:Type} (rec:Int->Option R) (done:((Int)⊕(Int))->Option R):Int->Option R:=λc=>(bif (decide (c<3)) then (if 0<=c/\c<(a.length:Int) then (if 0<=c/\c<(b.length:Int) then (bif (decide ((a.getD (c).toNat 0)<(b.getD (c).toNat 0))) then (done (.inr (-1:Int))) else (if 0<=c/\c<(a.length:Int) then (if 0<=c/\c<(b.length:Int) then (bif (decide ((a.getD (c).toNat 0)>(b.getD (c).toNat 0))) then (done (.inr 1)) else (rec (wr .i64 (c+1)))) else none) else none)) else none) else none) else (done (.inl c)))
def z132.l0 (a b:List Int) (x:Int):Option (((Int)⊕(Int))):=lfp (λrec x=>z132.l0P a b rec some x) x
def z132.F (a0 a1 a2 a3 a4 a5:Int):Option (Int):=
 ((z132.l0 [a0,a1,a2] [a3,a4,a5] 0).bind λo1=>match o1 with | .inl p2=>(some 0) | .inr q3=>(some q3))
def z132.enc (r:Int):V:=(.int .i64 r)
def z132.pack:List V->Option Pack
 |[(.agg [(.int .i64 a0),(.int .i64 a1),(.int .i64 a2)]),(.agg [(.int .i64 a3),(.int .i64 a4),(.int .i64 a5)])]=>some ⟨Int,z132.F a0 a1 a2 a3 a4 a5,z132.enc⟩
 |_=>none
def z147.F (a0:List Int) (a1:Bool) (a2:List Int):Option (Int):=
 ((z20.F a0 a1).bind λr1=>(some r1))
def z147.enc (r:Int):V:=(.int .i64 r)
def z147.pack:List V->Option Pack
 |[(.agg [(.ints _ .u64 a0),(.bool a1),(.ints _ .u64 a2)])]=>some ⟨Int,z147.F a0 a1 a2,z147.enc⟩
 |_=>none
def z148.F (a0:List Int) (a1:Bool) (a2:List Int):Option ((List Int)×Bool):=
 (some (a0,a1))
def z148.enc (r:(List Int)×Bool):V:=(.agg [(.ints false .u64 r.1),(.bool r.2)])
def z148.pack:List V->Option Pack
 |[(.agg [(.ints _ .u64 a0),(.bool a1),(.ints _ .u64 a2)])]=>some ⟨(List Int)×Bool,z148.F a0 a1 a2,z148.enc⟩
 |_=>none
def z149.F (a0:Int) (a1 a2 a3:List Int):Option (Bool):=
 ((z24.F a2 a2).bind λr1=>((z29.F r1 a3).bind λr2=>(bif (decide (a0=1)) then (some true) else (bif (decide (a0=2)) then (some (decide (r2>=0))) else (bif (decide (a0=3)) then (some (decide (r2>0))) else (bif (decide (a0=4)) then ((z60.F a1).bind λr3=>(bif (decide ((((r3).length:Nat):Int)>0)) then ((z60.F a1).bind λr4=>(if (0:Int)<=(0:Int)/\(0:Int)<(r4.length:Int) then (bif (decide (r2>0)) then (some true) else (bif (decide (r2=0)) then (some (decide ((wr .u64 ((BitVec.ofInt (IntKind.bits .u64) (r4.getD 0 0) &&& BitVec.ofInt (IntKind.bits .u64) 1).toNat:Int))=1))) else (some false))) else none)) else (bif (decide (r2>0)) then (some true) else (bif (decide (r2=0)) then (some false) else (some false))))) else (some false)))))))
def z149.enc (r:Bool):V:=(.bool r)
def z149.pack:List V->Option Pack
 |[(.int .i64 a0),(.agg [(.ints _ .u64 a1)]),(.agg [(.ints _ .u64 a2)]),(.agg [(.ints _ .u64 a3)])]=>some ⟨Bool,z149.F a0 a1 a2 a3,z149.enc⟩
 |_=>none
def z150.j14 (a0:List Int) (a1:Bool) (a2 j14:List Int):Option ((List Int)×Bool×Int):=
 ((z147.F a0 a1 a2).bind λr15=>((z21.F j14 (decide (r15<0))).bind λr16=>(some (r16.1,r16.2,(0:Int)))))
def z150.F (a0:List Int) (a1:Bool) (a2:List Int) (a3:Int):Option ((List Int)×Bool×Int):=
 ((z79.F a3).bind λr1=>(bif (!r1) then (some ([],false,(2:Int))) else ((z148.F a0 a1 a2).bind λr2=>((z59.F r2.1 r2.2).bind λr3=>((z73.F a0 a1 a2).bind λr4=>((z68.F r3 r4).bind λr5=>((z19.F r5.2.1).bind λr6=>(bif (!r6) then ((z73.F a0 a1 a2).bind λr7=>((z149.F a3 r5.1 r5.2.1 r7).bind λr8=>(bif r8 then ((z38.F [(1:Int)]).bind λr12=>((z24.F r5.1 r12).bind λr13=>(z150.j14 a0 a1 a2 r13))) else (z150.j14 a0 a1 a2 r5.1)))) else (z150.j14 a0 a1 a2 r5.1)))))))))
def z150.enc (r:(List Int)×Bool×Int):V:=(.tup [(.agg [(.ints false .u64 r.1),(.bool r.2.1)]),(.int .i64 r.2.2)])
def z150.pack:List V->Option Pack
 |[(.agg [(.ints _ .u64 a0),(.bool a1),(.ints _ .u64 a2)]),(.int .i64 a3)]=>some ⟨(List Int)×Bool×Int,z150.F a0 a1 a2 a3,z150.enc⟩
 |_=>none
def z151.enc (r:(List Int)×Bool×(List Int)):V:=(.agg [(.ints false .u64 r.1),(.bool r.2.1),(.ints false .u64 r.2.2)])
def z151.pack:List V->Option Pack
 |[(.agg [(.ints _ .u64 a0),(.bool a1),(.ints _ .u64 a2)]),(.agg [(.ints _ .u64 a3),(.bool a4),(.ints _ .u64 a5)])]=>some ⟨(List Int)×Bool×(List Int),z151.F a0 a1 a2 a3 a4 a5,z151.enc⟩
 |_=>none
def z152.enc (r:(List Int)×Bool×(List Int)):V:=(.agg [(.ints false .u64 r.1),(.bool r.2.1),(.ints false .u64 r.2.2)])
def z152.pack:List V->Option Pack
 |[(.agg [(.ints _ .u64 a0),(.bool a1),(.ints _ .u64 a2)]),(.agg [(.ints _ .u64 a3),(.bool a4),(.ints _ .u64 a5)])]=>some ⟨(List Int)×Bool×(List Int),z152.F a0 a1 a2 a3 a4 a5,z152.enc⟩
 |_=>none
def z153.enc (r:(List Int)×Bool×(List Int)):V:=(.agg [(.ints false .u64 r.1),(.bool r.2.1),(.ints false .u64 r.2.2)])
def z153.pack:List V->Option Pack
 |[(.int .i64 a0),(.int .i64 a1)]=>some ⟨(List Int)×Bool×(List Int),z153.F a0 a1,z153.enc⟩
 |_=>none
def z154.enc (r:(List Int)×Bool×(List Int)):V:=(.agg [(.ints false .u64 r.1),(.bool r.2.1),(.ints false .u64 r.2.2)])
def z154.pack:List V->Option Pack
 |[(.agg [(.int .i64 a0),(.int .i64 a1),(.int .i64 a2)]),(.agg [(.int .i64 a3),(.int .i64 a4),(.int .i64 a5)])]=>some ⟨(List Int)×Bool×(List Int),z154.F a0 a1 a2 a3 a4 a5,z154.enc⟩
 |_=>none
def z155.enc (r:Int×Int):V:=(.tup [(.int .i64 r.1),(.int .i64 r.2)])
def z155.pack:List V->Option Pack
 |[(.agg [(.int .i64 a0),(.int .i64 a1),(.int .i64 a2)]),(.agg [(.int .i64 a3),(.int .i64 a4),(.int .i64 a5)])]=>some ⟨Int×Int,z155.F a0 a1 a2 a3 a4 a5,z155.enc⟩
 |_=>none
def z156.enc (r:Int):V:=(.int .i64 r)
def z156.pack:List V->Option Pack
 |[(.agg [(.int .i64 a0),(.int .i64 a1),(.int .i64 a2)]),(.agg [(.int .i64 a3),(.int .i64 a4),(.int .i64 a5)])]=>some ⟨Int,z156.F a0 a1 a2 a3 a4 a5,z156.enc⟩
 |_=>none
def z157.enc (r:Int):V:=(.int .i64 r)
def z157.pack:List V->Option Pack
 |[(.int .i64 a0)]=>some ⟨Int,z157.F a0,z157.enc⟩
 |_=>none
def z158.enc (r:(List Int)×Bool×(List Int)):V:=(.agg [(.ints false .u64 r.1),(.bool r.2.1),(.ints false .u64 r.2.2)])
def z158.pack:List V->Option Pack
 |[(.agg [(.int .i64 a0),(.int .i64 a1),(.int .i64 a2)]),(.agg [(.int .i64 a3),(.int .i64 a4),(.int .i64 a5)])]=>some ⟨(List Int)×Bool×(List Int),z158.F a0 a1 a2 a3 a4 a5,z158.enc⟩
 |_=>none
def z159.enc (r:(List Int)×Bool×(List Int)×Int):V:=(.tup [(.agg [(.ints false .u64 r.1),(.bool r.2.1),(.ints false .u64 r.2.2.1)]),(.int .i64 r.2.2.2)])
def z159.pack:List V->Option Pack
 |[(.int .i64 a0),(.agg [(.int .i64 a1),(.int .i64 a2),(.int .i64 a3)]),(.agg [(.int .i64 a4),(.int .i64 a5),(.int .i64 a6)])]=>some ⟨(List Int)×Bool×(List Int)×Int,z159.F a0 a1 a2 a3 a4 a5 a6,z159.enc⟩
 |_=>none
def z163.F (a0:List Int) (a1:Bool) (a2 a3:List Int) (a4:Bool) (a5:List Int):Option ((List Int)×Bool×(List Int)):=
 ((z122.F a0 a1 a2 a3 a4 a5).bind λr1=>((z122.F a3 a4 a5 a0 a1 a2).bind λr2=>((z110.F r1.1 r1.2 r2.1 r2.2).bind λr3=>((z15.F a2 a5).bind λr4=>((z117.F r3.1 r3.2 r4).bind λr5=>(some (r5.1,r5.2.1,r5.2.2)))))))
def z163.enc (r:(List Int)×Bool×(List Int)):V:=(.agg [(.ints false .i64 r.1),(.bool r.2.1),(.ints false .i64 r.2.2)])
def z163.pack:List V->Option Pack
 |[(.agg [(.ints _ .i64 a0),(.bool a1),(.ints _ .i64 a2)]),(.agg [(.ints _ .i64 a3),(.bool a4),(.ints _ .i64 a5)])]=>some ⟨(List Int)×Bool×(List Int),z163.F a0 a1 a2 a3 a4 a5,z163.enc⟩
 |_=>none
def z164.l0P (a:Int) {R:Type} (rec done:(Int×Int)->Option R):(Int×Int)->Option R:=λx=>match x with
 |(b,c)=>(bif (decide (c<a)) then ((z10.F c).bind λd=>(bif d then (rec ((wr .i64 ((wr .i64 (b+365))+1)),(wr .i64 (c+1)))) else (rec ((wr .i64 (b+365)),(wr .i64 (c+1)))))) else (done (b,c)))
def z164.l0 (a:Int) (x:(Int×Int)):Option ((Int×Int)):=lfp (λrec x=>z164.l0P a rec some x) x
def z164.l2P (a b:Int) {R:Type} (rec done:(Int×Int)->Option R):(Int×Int)->Option R:=λx=>match x with
 |(c,d)=>(bif (decide (d<b)) then ((z11.F a d).bind λe=>(rec ((wr .i64 (c+e)),(wr .i64 (d+1))))) else (done (c,d)))
def z164.l2 (a b:Int) (x:(Int×Int)):Option ((Int×Int)):=lfp (λrec x=>z164.l2P a b rec some x) x
def z164.F (a0 a1 a2:Int):Option (Int):=
 ((z164.l0 a0 ((0:Int),(1:Int))).bind λo1=>((z164.l2 a0 a1 (o1.1,(1:Int))).bind λo2=>(some (wr .i64 (o2.1+a2)))))
def z164.enc (r:Int):V:=(.int .i64 r)
def z164.pack:List V->Option Pack
 |[(.agg [(.int .i64 a0),(.int .i64 a1),(.int .i64 a2)])]=>some ⟨Int,z164.F a0 a1 a2,z164.enc⟩
 |_=>none
def z165.j6 (a4 a1 a5 a2 j6:Int):Option ((List Int)×Bool×(List Int)):=
 ((z119.F (wr .i64 ((wr .i64 ((wr .i64 ((wr .i64 ((360:Int)*(wr .i64 (a4-a1))))+(wr .i64 ((30:Int)*(wr .i64 (a5-a2))))))+j6))-30)) 360).bind λr7=>(some (r7.1,r7.2.1,r7.2.2)))
def z165.j9 (a4 a1 a5 a2 j9 a3:Int):Option ((List Int)×Bool×(List Int)):=
 ((z119.F (wr .i64 ((wr .i64 ((wr .i64 ((wr .i64 ((360:Int)*(wr .i64 (a4-a1))))+(wr .i64 ((30:Int)*(wr .i64 (a5-a2))))))+j9))-a3)) 360).bind λr10=>(some (r10.1,r10.2.1,r10.2.2)))
def z165.j1015a {R:Type} (rec done:(Int×(List Int)×Bool×(List Int))->Option R) (a b c d:Int) (e:List Int) (g:Bool) (h:List Int) (j:Int):Option R:=
 ((z119.F (wr .i64 ((if a<(wr .i64 (b+c)) then a else (wr .i64 (b+c)))-(if d>b then d else b))) c).bind λk=>((z163.F e g h k.1 k.2.1 k.2.2).bind λm=>(rec ((wr .i64 (j+1)),m.1,m.2.1,m.2.2))))
def z165.l0P (a b c:Int) {R:Type} (rec done:(Int×(List Int)×Bool×(List Int))->Option R):(Int×(List Int)×Bool×(List Int))->Option R:=λx=>match x with
 |(d,e,g,h)=>(bif (decide (d<=c)) then ((z164.F d 1 1).bind λj=>((z10.F d).bind λk=>(bif k then (z165.j1015a rec done b j 366 a e g h d) else (z165.j1015a rec done b j 365 a e g h d)))) else (done (d,e,g,h)))
def z165.l0 (a b c:Int) (x:(Int×(List Int)×Bool×(List Int))):Option ((Int×(List Int)×Bool×(List Int))):=lfp (λrec x=>z165.l0P a b c rec some x) x
def z165.F (a0 a1 a2 a3 a4 a5 a6:Int):Option ((List Int)×Bool×(List Int)):=
 (bif (decide (a0=0)) then (bif (decide (a3=31)) then (bif (decide (a6=31)) then (z165.j6 a4 a1 a5 a2 30) else (z165.j6 a4 a1 a5 a2 a6)) else (bif (decide (a6=31)) then (bif (decide (a3=30)) then (z165.j9 a4 a1 a5 a2 30 a3) else (z165.j9 a4 a1 a5 a2 a6 a3)) else (z165.j9 a4 a1 a5 a2 a6 a3))) else ((z164.F a1 a2 a3).bind λr11=>((z164.F a4 a5 a6).bind λr12=>(bif (decide (a0=1)) then ((z119.F (wr .i64 (r12-r11)) 365).bind λr13=>(some (r13.1,r13.2.1,r13.2.2))) else ((z119.F 0 1).bind λr14=>((z165.l0 r11 r12 a4 (a1,r14.1,r14.2.1,r14.2.2)).bind λo15=>(some (o15.2.1,o15.2.2.1,o15.2.2.2))))))))
def z165.enc (r:(List Int)×Bool×(List Int)):V:=(.agg [(.ints false .i64 r.1),(.bool r.2.1),(.ints false .i64 r.2.2)])
def z165.pack:List V->Option Pack
 |[(.int .i64 a0),(.agg [(.int .i64 a1),(.int .i64 a2),(.int .i64 a3)]),(.agg [(.int .i64 a4),(.int .i64 a5),(.int .i64 a6)])]=>some ⟨(List Int)×Bool×(List Int),z165.F a0 a1 a2 a3 a4 a5 a6,z165.enc⟩
 |_=>none
def z166.F (a0:List Int) (a1:Bool):Option ((List Int)×Bool×(List Int)):=
 (some (a0,a1,[(1:Int)]))
def z166.enc (r:(List Int)×Bool×(List Int)):V:=(.agg [(.ints false .i64 r.1),(.bool r.2.1),(.ints false .i64 r.2.2)])
def z166.pack:List V->Option Pack
 |[(.agg [(.ints _ .i64 a0),(.bool a1)])]=>some ⟨(List Int)×Bool×(List Int),z166.F a0 a1,z166.enc⟩
 |_=>none
def z167.F (a0:List Int) (a1:Bool) (a2 a3:List Int) (a4:Bool) (a5:List Int):Option ((List Int)×Bool×(List Int)):=
 ((z16.F a0 a1 a3 a4).bind λr1=>((z15.F a2 a5).bind λr2=>((z117.F r1.1 r1.2 r2).bind λr3=>(some (r3.1,r3.2.1,r3.2.2)))))
def z167.enc (r:(List Int)×Bool×(List Int)):V:=(.agg [(.ints false .i64 r.1),(.bool r.2.1),(.ints false .i64 r.2.2)])
def z167.pack:List V->Option Pack
 |[(.agg [(.ints _ .i64 a0),(.bool a1),(.ints _ .i64 a2)]),(.agg [(.ints _ .i64 a3),(.bool a4),(.ints _ .i64 a5)])]=>some ⟨(List Int)×Bool×(List Int),z167.F a0 a1 a2 a3 a4 a5,z167.enc⟩
 |_=>none
def z169.j11 (j11:Bool) (r2:(List Int)) (a1:Bool) (r1:(List Int)×(List Int)):Option ((List Int)×Bool):=
 (bif j11 then ((z7.F r2 a1).bind λr12=>(some (r12.1,r12.2))) else ((z7.F r1.1 a1).bind λr13=>(some (r13.1,r13.2))))
def z169.j9 (a3 r4:Int) (r2:(List Int)) (a1:Bool) (r1 r5:(List Int)×(List Int)) (j9:Bool):Option ((List Int)×Bool):=
 (bif (decide (a3=4)) then (bif (decide (r4>0)) then (z169.j11 true r2 a1 r1) else (bif (decide (r4=0)) then (z169.j11 (decide ((((r5.2).length:Nat):Int)>0)) r2 a1 r1) else (z169.j11 false r2 a1 r1))) else (z169.j11 j9 r2 a1 r1))
def z169.j10 (a3 r4:Int) (r2:(List Int)) (a1:Bool) (r1 r5:(List Int)×(List Int)) (j10:Bool):Option ((List Int)×Bool):=
 (bif (decide (a3=4)) then (bif (decide (r4>0)) then (z169.j11 true r2 a1 r1) else (bif (decide (r4=0)) then (z169.j11 (decide ((((r5.2).length:Nat):Int)>0)) r2 a1 r1) else (z169.j11 false r2 a1 r1))) else (z169.j11 j10 r2 a1 r1))
def z169.j6 (a3 r4:Int) (r2:(List Int)) (a1:Bool) (r1 r5:(List Int)×(List Int)) (j6:Bool):Option ((List Int)×Bool):=
 (bif (decide (a3=2)) then (bif (decide (a3=3)) then (z169.j9 a3 r4 r2 a1 r1 r5 (decide (r4>0))) else (z169.j9 a3 r4 r2 a1 r1 r5 (decide (r4>=0)))) else (bif (decide (a3=3)) then (z169.j10 a3 r4 r2 a1 r1 r5 (decide (r4>0))) else (z169.j10 a3 r4 r2 a1 r1 r5 j6)))
def z169.F (a0:List Int) (a1:Bool) (a2:List Int) (a3:Int):Option ((List Int)×Bool):=
 ((z115.F a0 a2).bind λr1=>((z107.F r1.1 [(1:Int)]).bind λr2=>((z15.F r1.2 [(2:Int)]).bind λr3=>((z108.F r3 a2).bind λr4=>((z115.F r1.1 [(2:Int)]).bind λr5=>(bif (decide ((((r1.2).length:Nat):Int)>0)) then (bif (decide (a3=1)) then (z169.j6 a3 r4 r2 a1 r1 r5 true) else (z169.j6 a3 r4 r2 a1 r1 r5 false)) else (z169.j11 false r2 a1 r1)))))))
def z169.enc (r:(List Int)×Bool):V:=(.agg [(.ints false .i64 r.1),(.bool r.2)])
def z169.pack:List V->Option Pack
 |[(.agg [(.ints _ .i64 a0),(.bool a1),(.ints _ .i64 a2)]),(.int .i64 a3)]=>some ⟨(List Int)×Bool,z169.F a0 a1 a2 a3,z169.enc⟩
 |_=>none
def z185.F (a0:List Int) (a1:Bool) (a2 a3:List UInt8) (a4 a5 a6 a7 a8 a9 a10 a11 a12 a13 a14 a15 a16 a17:Int):Option ((List Int)×Bool×Int):=
 ((z91.F a2 a3 a4 a5 a6 a7 a8 a9 a10 a11).bind λr1=>(bif (!decide (r1=0)) then (some ([],false,r1)) else ((z159.F a5 a12 a13 a14 a15 a16 a17).bind λr2=>(bif (!decide (r2.2.2.2=0)) then (some ([],false,r2.2.2.2)) else ((z76.F a3).bind λr3=>((z47.F a0 a1).bind λr4=>((z152.F r4.1 r4.2.1 r4.2.2 r3.1 r3.2.1 r3.2.2.1).bind λr5=>((z152.F r5.1 r5.2.1 r5.2.2 r2.1 r2.2.1 r2.2.2.1).bind λr6=>((z150.F r6.1 r6.2.1 r6.2.2 a6).bind λr7=>(some (r7.1,r7.2.1,r7.2.2)))))))))))
def z185.enc (r:(List Int)×Bool×Int):V:=(.tup [(.agg [(.ints false .u64 r.1),(.bool r.2.1)]),(.int .i64 r.2.2)])
def z185.pack:List V->Option Pack
 |[(.agg [(.ints _ .u64 a0),(.bool a1)]),(.agg [(.str a2),(.str a3),(.int .i64 a4),(.int .i64 a5),(.int .i64 a6),(.int .i64 a7),(.int .i64 a8),(.int .i64 a9),(.int .i64 a10),(.int .i64 a11)]),(.agg [(.int .i64 a12),(.int .i64 a13),(.int .i64 a14)]),(.agg [(.int .i64 a15),(.int .i64 a16),(.int .i64 a17)])]=>some ⟨(List Int)×Bool×Int,z185.F a0 a1 a2 a3 a4 a5 a6 a7 a8 a9 a10 a11 a12 a13 a14 a15 a16 a17,z185.enc⟩
 |_=>none
def z186.F (a0:List Int) (a1:Bool) (a2 a3:List UInt8) (a4 a5 a6 a7 a8 a9 a10 a11 a12 a13 a14 a15 a16 a17:Int):Option ((List Int)×Bool):=
 ((z125.F a3).bind λr1=>((z165.F a5 a12 a13 a14 a15 a16 a17).bind λr2=>((z166.F a0 a1).bind λr3=>((z167.F r3.1 r3.2.1 r3.2.2 r1.1 r1.2.1 r1.2.2.1).bind λr4=>((z167.F r4.1 r4.2.1 r4.2.2 r2.1 r2.2.1 r2.2.2).bind λr5=>((z169.F r5.1 r5.2.1 r5.2.2 a6).bind λr6=>(some (r6.1,r6.2))))))))
def z186.enc (r:(List Int)×Bool):V:=(.agg [(.ints false .i64 r.1),(.bool r.2)])
def z186.pack:List V->Option Pack
 |[(.agg [(.ints _ .i64 a0),(.bool a1)]),(.agg [(.str a2),(.str a3),(.int .i64 a4),(.int .i64 a5),(.int .i64 a6),(.int .i64 a7),(.int .i64 a8),(.int .i64 a9),(.int .i64 a10),(.int .i64 a11)]),(.agg [(.int .i64 a12),(.int .i64 a13),(.int .i64 a14)]),(.agg [(.int .i64 a15),(.int .i64 a16),(.int .i64 a17)])]=>some ⟨(List Int)×Bool,z186.F a0 a1 a2 a3 a4 a5 a6 a7 a8 a9 a10 a11 a12 a13 a14 a15 a16 a17,z186.enc⟩
 |_=>none
def z187.l0P (a:List (List V)) (b:Int) {R:Type} (rec:(Int×(List Int)×Bool×(List Int)×Bool)->Option R) (done:((Int×(List Int)×Bool×(List Int)×Bool)⊕(Int×(List Int)×Bool×(List Int)×Bool×(List Int)×Bool×(List Int)×Bool))->Option R):(Int×(List Int)×Bool×(List Int)×Bool)->Option R:=λx=>match x with
 |(c,d,e,g,h)=>(bif (decide (c<b)) then (if 0<=c/\c<(a.length:Int) then (V.asInt .i64 (((a.getD (c).toNat [])).getD 0 .undef) λj=>(V.asInt .i64 (((a.getD (c).toNat [])).getD 1 .undef) λk=>(V.asInt .i64 (((a.getD (c).toNat [])).getD 2 .undef) λm=>(V.asStr (((a.getD (c).toNat [])).getD 3 .undef) λn=>(V.asStr (((a.getD (c).toNat [])).getD 4 .undef) λo=>(V.asStr (((a.getD (c).toNat [])).getD 5 .undef) λp=>(V.asStr (((a.getD (c).toNat [])).getD 6 .undef) λq=>(V.asStr (((a.getD (c).toNat [])).getD 7 .undef) λr=>((z46.F o).bind λs=>(bif (!decide (s.2.2=0)) then (done (.inr (s.2.2,[],false,[],false,d,e,g,h))) else ((z46.F p).bind λt=>(bif (!decide (t.2.2=0)) then (done (.inr (t.2.2,[],false,[],false,d,e,g,h))) else ((z31.F d e s.1 s.2.1).bind λu=>((z31.F g h t.1 t.2.1).bind λv=>(rec ((wr .i64 (c+1)),u.1,u.2,v.1,v.2)))))))))))))))) else none) else (done (.inl (c,d,e,g,h))))
def z187.l0 (a:List (List V)) (b:Int) (x:(Int×(List Int)×Bool×(List Int)×Bool)):Option (((Int×(List Int)×Bool×(List Int)×Bool)⊕(Int×(List Int)×Bool×(List Int)×Bool×(List Int)×Bool×(List Int)×Bool))):=lfp (λrec x=>z187.l0P a b rec some x) x
def z187.F (a0:List (List V)):Option ((List Int)×Bool×(List Int)×Bool×Int):=
 ((z187.l0 a0 (((a0).length:Nat):Int) ((0:Int),[],false,[],false)).bind λo1=>match o1 with | .inl p2=>(some (p2.2.1,p2.2.2.1,p2.2.2.2.1,p2.2.2.2.2,(0:Int))) | .inr q3=>(some (q3.2.1,q3.2.2.1,q3.2.2.2.1,q3.2.2.2.2.1,q3.1)))
def z187.enc (r:(List Int)×Bool×(List Int)×Bool×Int):V:=(.tup [(.agg [(.ints false .u64 r.1),(.bool r.2.1)]),(.agg [(.ints false .u64 r.2.2.1),(.bool r.2.2.2.1)]),(.int .i64 r.2.2.2.2)])
def z187.pack:List V->Option Pack
 |[(.recs _ 8 a0)]=>some ⟨(List Int)×Bool×(List Int)×Bool×Int,z187.F a0,z187.enc⟩
 |_=>none
def z188.j2 (a1:Int) (r1:(List Int)×Bool×(List Int)×Int):Option ((List Int)×Bool×(List Int)×Int):=
 ((z48.F a1).bind λr3=>((z48.F 12).bind λr4=>((z71.F r3.1 r3.2 r4.1 r4.2).bind λr5=>((z152.F r1.1 r1.2.1 r1.2.2.1 r5.1 r5.2.1 r5.2.2.1).bind λr6=>(some (r6.1,r6.2.1,r6.2.2,(0:Int)))))))
def z188.F (a0:List UInt8) (a1:Int):Option ((List Int)×Bool×(List Int)×Int):=
 ((z76.F a0).bind λr1=>(bif (!decide (r1.2.2.2=0)) then (some ([],false,[],r1.2.2.2)) else (bif (decide (a1<1)) then (some ([],false,[],(2:Int))) else (bif (decide (a1>12)) then (some ([],false,[],(2:Int))) else (z188.j2 a1 r1)))))
def z188.enc (r:(List Int)×Bool×(List Int)×Int):V:=(.tup [(.agg [(.ints false .u64 r.1),(.bool r.2.1),(.ints false .u64 r.2.2.1)]),(.int .i64 r.2.2.2)])
def z188.pack:List V->Option Pack
 |[(.str a0),(.int .i64 a1)]=>some ⟨(List Int)×Bool×(List Int)×Int,z188.F a0 a1,z188.enc⟩
 |_=>none
def z189.F (a0:List Int):Option (Int):=
 ((z19.F a0).bind λr1=>(bif r1 then (some 0) else (if 0<=(wr .i64 ((((a0).length:Nat):Int)-1))/\(wr .i64 ((((a0).length:Nat):Int)-1))<(a0.length:Int) then ((z61.F (a0.getD ((wr .i64 ((((a0).length:Nat):Int)-1))).toNat 0)).bind λr2=>(some (wr .i64 ((wr .i64 ((64:Int)*(wr .i64 ((((a0).length:Nat):Int)-1))))+r2)))) else none)))
def z189.enc (r:Int):V:=(.int .i64 r)
def z189.pack:List V->Option Pack
 |[(.agg [(.ints _ .u64 a0)])]=>some ⟨Int,z189.F a0,z189.enc⟩
 |_=>none
def z190.F (a0:List Int) (a1:Int):Option ((List Int)×Int):=
 (bif (decide (a1<0)) then (some ([],(2:Int))) else (bif (decide (a1>1200)) then (some ([],(6:Int))) else ((z189.F a0).bind λr1=>(bif (decide ((wr .i64 (r1*a1))>262144)) then (some ([],(6:Int))) else ((z43.F a0 a1).bind λr5=>(some (r5,(0:Int))))))))
def z190.enc (r:(List Int)×Int):V:=(.tup [(.agg [(.ints false .u64 r.1)]),(.int .i64 r.2)])
def z190.pack:List V->Option Pack
 |[(.agg [(.ints _ .u64 a0)]),(.int .i64 a1)]=>some ⟨(List Int)×Int,z190.F a0 a1,z190.enc⟩
 |_=>none
def z191.F (a0:List Int):Option ((List Int)×Bool):=
 ((z21.F a0 false).bind λr1=>(some (r1.1,r1.2)))
def z191.enc (r:(List Int)×Bool):V:=(.agg [(.ints false .u64 r.1),(.bool r.2)])
def z191.pack:List V->Option Pack
 |[(.agg [(.ints _ .u64 a0)])]=>some ⟨(List Int)×Bool,z191.F a0,z191.enc⟩
 |_=>none
def z192.j13 (r11 r12:(List Int)×Int) (a0:List Int) (a1:Bool) (a2 a3:List Int) (a4:Bool) (a5:List Int) (r7:(List Int)):Option ((List Int)×Bool×(List Int)×Int):=
 ((z30.F r11.1 r12.1).bind λr14=>((z148.F a0 a1 a2).bind λr15=>((z148.F a3 a4 a5).bind λr16=>((z54.F r15.1 r15.2 r16.1 r16.2).bind λr17=>((z191.F r11.1).bind λr18=>((z54.F r17.1 r17.2 r18.1 r18.2).bind λr19=>((z73.F a0 a1 a2).bind λr20=>((z40.F r20 r7).bind λr21=>((z40.F r21 r14.1).bind λr22=>((z191.F r22).bind λr23=>((z71.F r19.1 r19.2 r23.1 r23.2).bind λr24=>(some (r24.1,r24.2.1,r24.2.2.1,r24.2.2.2)))))))))))))
def z192.j1 (j1:Bool) (a3:List Int) (a4:Bool) (a5:List Int) (a6:Int) (a0:List Int) (a1:Bool) (a2:List Int):Option ((List Int)×Bool×(List Int)×Int):=
 (bif j1 then (some ([],false,[],(2:Int))) else ((z147.F a3 a4 a5).bind λr2=>(bif (decide (r2<0)) then (some ([],false,[],(18:Int))) else ((z147.F a3 a4 a5).bind λr3=>(bif (decide (r3=0)) then ((z48.F a6).bind λr4=>((z47.F r4.1 r4.2).bind λr5=>((z75.F a0 a1 a2 r5.1 r5.2.1 r5.2.2).bind λr6=>(some (r6.1,r6.2.1,r6.2.2.1,r6.2.2.2))))) else ((z73.F a3 a4 a5).bind λr7=>((z148.F a3 a4 a5).bind λr8=>((z59.F r8.1 r8.2).bind λr9=>((z24.F r9 r7).bind λr10=>((z190.F r10 a6).bind λr11=>((z190.F r7 a6).bind λr12=>(bif (!decide (r11.2=0)) then (some ([],false,[],(6:Int))) else (bif (!decide (r12.2=0)) then (some ([],false,[],(6:Int))) else (z192.j13 r11 r12 a0 a1 a2 a3 a4 a5 r7))))))))))))))
def z192.F (a0:List Int) (a1:Bool) (a2 a3:List Int) (a4:Bool) (a5:List Int) (a6:Int):Option ((List Int)×Bool×(List Int)×Int):=
 (bif (decide (a6<1)) then (z192.j1 true a3 a4 a5 a6 a0 a1 a2) else (z192.j1 (decide (a6>1200)) a3 a4 a5 a6 a0 a1 a2))
def z192.enc (r:(List Int)×Bool×(List Int)×Int):V:=(.tup [(.agg [(.ints false .u64 r.1),(.bool r.2.1),(.ints false .u64 r.2.2.1)]),(.int .i64 r.2.2.2)])
def z192.pack:List V->Option Pack
 |[(.agg [(.ints _ .u64 a0),(.bool a1),(.ints _ .u64 a2)]),(.agg [(.ints _ .u64 a3),(.bool a4),(.ints _ .u64 a5)]),(.int .i64 a6)]=>some ⟨(List Int)×Bool×(List Int)×Int,z192.F a0 a1 a2 a3 a4 a5 a6,z192.enc⟩
 |_=>none
def z193.F (a0:List Int) (a1:Bool) (a2:List UInt8) (a3 a4 a5:Int):Option ((List Int)×Bool×Int):=
 ((z188.F a2 a3).bind λr1=>(bif (!decide (r1.2.2.2=0)) then (some ([],false,r1.2.2.2)) else ((z20.F a0 a1).bind λr2=>(bif (decide (r2<0)) then (some ([],false,(19:Int))) else ((z47.F a0 a1).bind λr3=>((z192.F r3.1 r3.2.1 r3.2.2 r1.1 r1.2.1 r1.2.2.1 a4).bind λr4=>(bif (!decide (r4.2.2.2=0)) then (some ([],false,r4.2.2.2)) else ((z150.F r4.1 r4.2.1 r4.2.2.1 a5).bind λr5=>(some (r5.1,r5.2.1,r5.2.2))))))))))
def z193.enc (r:(List Int)×Bool×Int):V:=(.tup [(.agg [(.ints false .u64 r.1),(.bool r.2.1)]),(.int .i64 r.2.2)])
def z193.pack:List V->Option Pack
 |[(.agg [(.ints _ .u64 a0),(.bool a1)]),(.str a2),(.int .i64 a3),(.int .i64 a4),(.int .i64 a5)]=>some ⟨(List Int)×Bool×Int,z193.F a0 a1 a2 a3 a4 a5,z193.enc⟩
 |_=>none
def z194.j2 (a2:Int) (a0:List Int) (a1:Bool) (a3:Int):Option ((List Int)×Bool×Int):=
 ((z48.F a2).bind λr3=>((z71.F a0 a1 r3.1 r3.2).bind λr4=>((z150.F r4.1 r4.2.1 r4.2.2.1 a3).bind λr5=>(some (r5.1,r5.2.1,r5.2.2)))))
def z194.F (a0:List Int) (a1:Bool) (a2 a3:Int):Option ((List Int)×Bool×Int):=
 ((z20.F a0 a1).bind λr1=>(bif (decide (r1<0)) then (some ([],false,(19:Int))) else (bif (decide (a2<1)) then (some ([],false,(2:Int))) else (bif (decide (a2>1200)) then (some ([],false,(2:Int))) else (z194.j2 a2 a0 a1 a3)))))
def z194.enc (r:(List Int)×Bool×Int):V:=(.tup [(.agg [(.ints false .u64 r.1),(.bool r.2.1)]),(.int .i64 r.2.2)])
def z194.pack:List V->Option Pack
 |[(.agg [(.ints _ .u64 a0),(.bool a1)]),(.int .i64 a2),(.int .i64 a3)]=>some ⟨(List Int)×Bool×Int,z194.F a0 a1 a2 a3,z194.enc⟩
 |_=>none
def z195.F (a0 a1:List UInt8) (a2 a3 a4 a5 a6 a7 a8 a9:Int):Option ((List Int)×Bool×Int):=
 ((z46.F a0).bind λr1=>(bif (decide (a2=0)) then ((z193.F r1.1 r1.2.1 a1 a8 a9 a4).bind λr2=>(some (r2.1,r2.2.1,r2.2.2))) else (bif (decide (a2=1)) then ((z194.F r1.1 r1.2.1 a9 a4).bind λr3=>(some (r3.1,r3.2.1,r3.2.2))) else (some ([],false,(0:Int))))))
def z195.enc (r:(List Int)×Bool×Int):V:=(.tup [(.agg [(.ints false .u64 r.1),(.bool r.2.1)]),(.int .i64 r.2.2)])
def z195.pack:List V->Option Pack
 |[(.agg [(.str a0),(.str a1),(.int .i64 a2),(.int .i64 a3),(.int .i64 a4),(.int .i64 a5),(.int .i64 a6),(.int .i64 a7),(.int .i64 a8),(.int .i64 a9)])]=>some ⟨(List Int)×Bool×Int,z195.F a0 a1 a2 a3 a4 a5 a6 a7 a8 a9,z195.enc⟩
 |_=>none
def z196.F (a0:List Int) (a1:Bool) (a2:List Int) (a3:Bool):Option ((List Int)×Bool):=
 ((z34.F a0 a1 a2 a3).bind λr1=>(bif (decide (r1<0)) then (some (a0,a1)) else (some (a2,a3))))
def z196.enc (r:(List Int)×Bool):V:=(.agg [(.ints false .u64 r.1),(.bool r.2)])
def z196.pack:List V->Option Pack
 |[(.agg [(.ints _ .u64 a0),(.bool a1)]),(.agg [(.ints _ .u64 a2),(.bool a3)])]=>some ⟨(List Int)×Bool,z196.F a0 a1 a2 a3,z196.enc⟩
 |_=>none
def z197.F (a0:Int) (a1:List Int) (a2:Bool) (a3:List Int) (a4:Bool) (a5:List Int) (a6:Bool):Option ((List Int)×Bool):=
 (bif (decide (a0=0)) then ((z33.F a1 a2 a5 a6).bind λr1=>((z20.F r1.1 r1.2).bind λr2=>(bif (decide (r2<0)) then (some ([],false)) else ((z196.F r1.1 r1.2 a3 a4).bind λr6=>(some (r6.1,r6.2)))))) else ((z196.F a1 a2 a3 a4).bind λr7=>(some (r7.1,r7.2))))
def z197.enc (r:(List Int)×Bool):V:=(.agg [(.ints false .u64 r.1),(.bool r.2)])
def z197.pack:List V->Option Pack
 |[(.int .i64 a0),(.agg [(.ints _ .u64 a1),(.bool a2)]),(.agg [(.ints _ .u64 a3),(.bool a4)]),(.agg [(.ints _ .u64 a5),(.bool a6)])]=>some ⟨(List Int)×Bool,z197.F a0 a1 a2 a3 a4 a5 a6,z197.enc⟩
 |_=>none
def z198.j1031a {R:Type} (rec:(Int×(List Int)×Bool×(List (List V)))->Option R) (done:((Int×(List Int)×Bool×(List (List V)))⊕((List (List V))×Int×(List Int)×Bool×(List (List V))))->Option R) (a:List Int) (b:Bool) (c:List Int) (d:Bool) (e:(List Int)×Bool×Int) (g:List (List V)) (h j k m:Int):Option R:=
 ((z33.F a b c d).bind λn=>((z135.F a b).bind λo=>((z135.F e.1 e.2.1).bind λp=>((z135.F c d).bind λq=>((z31.F e.1 e.2.1 c d).bind λr=>((z135.F r.1 r.2).bind λs=>((z135.F n.1 n.2).bind λt=>(if ((g).length+(([[(.int .i64 h),(.int .i64 j),(.int .i64 k),(.str o),(.str p),(.str q),(.str s),(.str t)]]:List (List V))).length)*104<=140737488355328 then (rec ((wr .i64 (m+1)),n.1,n.2,(g++([[(.int .i64 h),(.int .i64 j),(.int .i64 k),(.str o),(.str p),(.str q),(.str s),(.str t)]]:List (List V))))) else none))))))))
def z198.l0P (a b:List (List V)) (c:Int) (d e:List UInt8) (g h j k m n o p:Int) (q:List Int) (r:Bool) {R:Type} (rec:(Int×(List Int)×Bool×(List (List V)))->Option R) (done:((Int×(List Int)×Bool×(List (List V)))⊕((List (List V))×Int×(List Int)×Bool×(List (List V))))->Option R):(Int×(List Int)×Bool×(List (List V)))->Option R:=λx=>match x with
 |(s,t,u,v)=>(bif (decide (s<c)) then (if 0<=s/\s<(b.length:Int) then (V.asInt .i64 (((b.getD (s).toNat [])).getD 0 .undef) λw=>(V.asInt .i64 (((b.getD (s).toNat [])).getD 1 .undef) λy=>(V.asInt .i64 (((b.getD (s).toNat [])).getD 2 .undef) λz=>(V.asInt .i64 (((b.getD (s).toNat [])).getD 3 .undef) λA=>(V.asInt .i64 (((b.getD (s).toNat [])).getD 4 .undef) λB=>(V.asInt .i64 (((b.getD (s).toNat [])).getD 5 .undef) λC=>((z185.F t u d e g h j k m n o p w y z A B C).bind λD=>(bif (!decide (D.2.2=0)) then (done (.inr ([],D.2.2,t,u,v))) else ((z197.F g q r t u D.1 D.2.1).bind λE=>(bif (decide (s=(wr .i64 ((((a).length:Nat):Int)-1)))) then (z198.j1031a rec done t u t u D v A B C s) else (z198.j1031a rec done t u E.1 E.2 D v A B C s))))))))))) else none) else (done (.inl (s,t,u,v))))
def z198.l0 (a b:List (List V)) (c:Int) (d e:List UInt8) (g h j k m n o p:Int) (q:List Int) (r:Bool) (x:(Int×(List Int)×Bool×(List (List V)))):Option (((Int×(List Int)×Bool×(List (List V)))⊕((List (List V))×Int×(List Int)×Bool×(List (List V))))):=lfp (λrec x=>z198.l0P a b c d e g h j k m n o p q r rec some x) x
def z198.F (a0 a1:List UInt8) (a2 a3 a4 a5 a6 a7 a8 a9:Int):Option ((List (List V))×Int):=
 ((z94.F a0 a1 a2 a3 a4 a5 a6 a7 a8 a9).bind λr1=>(bif (!decide (r1.2=0)) then (some ([],r1.2)) else ((z195.F a0 a1 a2 a3 a4 a5 a6 a7 a8 a9).bind λr2=>(bif (!decide (r2.2.2=0)) then (some ([],r2.2.2)) else ((z46.F a0).bind λr3=>((z198.l0 r1.1 r1.1 (((r1.1).length:Nat):Int) a0 a1 a2 a3 a4 a5 a6 a7 a8 a9 r2.1 r2.2.1 ((0:Int),r3.1,r3.2.1,[])).bind λo4=>match o4 with | .inl p5=>(some (p5.2.2.2,(0:Int))) | .inr q6=>(some (q6.1,q6.2.1))))))))
def z198.enc (r:(List (List V))×Int):V:=(.tup [(.recs false 8 r.1),(.int .i64 r.2)])
def z198.pack:List V->Option Pack
 |[(.agg [(.str a0),(.str a1),(.int .i64 a2),(.int .i64 a3),(.int .i64 a4),(.int .i64 a5),(.int .i64 a6),(.int .i64 a7),(.int .i64 a8),(.int .i64 a9)])]=>some ⟨(List (List V))×Int,z198.F a0 a1 a2 a3 a4 a5 a6 a7 a8 a9,z198.enc⟩
 |_=>none
def z199.F:Option ((List UInt8)×(List UInt8)×Int×Int×Int×Int×Int×Int×Int×Int):=
 (some (([49,48,48,48,48,48]:List UInt8),([49,50]:List UInt8),(0:Int),(0:Int),(2:Int),(2024:Int),(1:Int),(1:Int),(1:Int),(2:Int)))
def z199.enc (r:(List UInt8)×(List UInt8)×Int×Int×Int×Int×Int×Int×Int×Int):V:=(.agg [(.str r.1),(.str r.2.1),(.int .i64 r.2.2.1),(.int .i64 r.2.2.2.1),(.int .i64 r.2.2.2.2.1),(.int .i64 r.2.2.2.2.2.1),(.int .i64 r.2.2.2.2.2.2.1),(.int .i64 r.2.2.2.2.2.2.2.1),(.int .i64 r.2.2.2.2.2.2.2.2.1),(.int .i64 r.2.2.2.2.2.2.2.2.2)])
def z199.pack:List V->Option Pack
 |[]=>some ⟨(List UInt8)×(List UInt8)×Int×Int×Int×Int×Int×Int×Int×Int,z199.F,z199.enc⟩
 |_=>none
def z200.j4 (r2:(List (List V))×Int):Option (Bool):=
 ((z187.F r2.1).bind λr5=>(if (0:Int)<=(0:Int)/\(0:Int)<(r2.1.length:Int) then (V.asInt .i64 (((r2.1.getD 0 [])).getD 0 .undef) λc6=>(V.asInt .i64 (((r2.1.getD 0 [])).getD 1 .undef) λc7=>(V.asInt .i64 (((r2.1.getD 0 [])).getD 2 .undef) λc8=>(V.asStr (((r2.1.getD 0 [])).getD 3 .undef) λc9=>(V.asStr (((r2.1.getD 0 [])).getD 4 .undef) λc10=>(V.asStr (((r2.1.getD 0 [])).getD 5 .undef) λc11=>(V.asStr (((r2.1.getD 0 [])).getD 6 .undef) λc12=>(V.asStr (((r2.1.getD 0 [])).getD 7 .undef) λc13=>(bif (decide (c12=([53,48,55,53,49]:List UInt8))) then (if (0:Int)<=(0:Int)/\(0:Int)<(r2.1.length:Int) then (V.asInt .i64 (((r2.1.getD 0 [])).getD 0 .undef) λc14=>(V.asInt .i64 (((r2.1.getD 0 [])).getD 1 .undef) λc15=>(V.asInt .i64 (((r2.1.getD 0 [])).getD 2 .undef) λc16=>(V.asStr (((r2.1.getD 0 [])).getD 3 .undef) λc17=>(V.asStr (((r2.1.getD 0 [])).getD 4 .undef) λc18=>(V.asStr (((r2.1.getD 0 [])).getD 5 .undef) λc19=>(V.asStr (((r2.1.getD 0 [])).getD 6 .undef) λc20=>(V.asStr (((r2.1.getD 0 [])).getD 7 .undef) λc21=>(bif (decide (c18=([49,48,48,48]:List UInt8))) then (if (0:Int)<=(1:Int)/\(1:Int)<(r2.1.length:Int) then (V.asInt .i64 (((r2.1.getD 1 [])).getD 0 .undef) λc22=>(V.asInt .i64 (((r2.1.getD 1 [])).getD 1 .undef) λc23=>(V.asInt .i64 (((r2.1.getD 1 [])).getD 2 .undef) λc24=>(V.asStr (((r2.1.getD 1 [])).getD 3 .undef) λc25=>(V.asStr (((r2.1.getD 1 [])).getD 4 .undef) λc26=>(V.asStr (((r2.1.getD 1 [])).getD 5 .undef) λc27=>(V.asStr (((r2.1.getD 1 [])).getD 6 .undef) λc28=>(V.asStr (((r2.1.getD 1 [])).getD 7 .undef) λc29=>(bif (decide (c29=([48]:List UInt8))) then (bif (decide (r5.2.2.2.2=0)) then ((z135.F r5.2.2.1 r5.2.2.2.1).bind λr30=>(bif (decide (r30=([49,48,48,48,48,48]:List UInt8))) then ((z20.F r5.1 r5.2.1).bind λr31=>(some (decide (r31>0)))) else (some false))) else (some false)) else (some false)))))))))) else none) else (some false)))))))))) else none) else (some false)))))))))) else none))
def z200.F:Option (Bool):=
 (z199.F.bind λr1=>((z198.F r1.1 r1.2.1 r1.2.2.1 r1.2.2.2.1 r1.2.2.2.2.1 r1.2.2.2.2.2.1 r1.2.2.2.2.2.2.1 r1.2.2.2.2.2.2.2.1 r1.2.2.2.2.2.2.2.2.1 r1.2.2.2.2.2.2.2.2.2).bind λr2=>((z198.F ([]:List UInt8) ([]:List UInt8) 0 0 0 0 0 0 0 0).bind λr3=>(bif (!decide (r2.2=0)) then (some false) else (bif (!decide ((((r2.1).length:Nat):Int)=2)) then (some false) else (bif (!decide (r3.2=5)) then (some false) else (z200.j4 r2)))))))
def z200.enc (r:Bool):V:=(.bool r)
def z200.pack:List V->Option Pack
 |[]=>some ⟨Bool,z200.F,z200.enc⟩
 |_=>none
def z201.j18 (a12 a13 a14 a15 a16 a17 a18:Int):Option (Bool):=
 ((z48.F (Int.fdiv a12 (2^(min 1 (64:Nat))))).bind λr19=>((z185.F r19.1 r19.2 ([]:List UInt8) ([]:List UInt8) 0 0 0 0 0 0 0 0 a13 a14 a15 a16 a17 a18).bind λr20=>(z200.F.bind λr21=>(bif r21 then (some (decide (r20.2.2=5))) else (some false)))))
def z201.j8 (r3:(List Int)×Bool×Int) (j8 a16 a13 a12:Int) (r1:(List UInt8)×(List UInt8)×Int×Int×Int×Int×Int×Int×Int×Int) (a14 a15 a17 a18:Int):Option (Bool):=
 (bif (!decide (r3.2.2=j8)) then (some false) else (bif (!decide (r3.2.2=0)) then ((z20.F r3.1 r3.2.1).bind λr9=>(bif (!decide (r9=0)) then (some false) else (bif (decide (r3.2.2=0)) then (bif (decide ((wr .i64 (a16-a13))<50)) then ((z135.F r3.1 r3.2.1).bind λr10=>((z9.F (Int.fdiv a12 (2^(min 1 (64:Nat))))).bind λr11=>((z186.F r11.1 r11.2 r1.1 r1.2.1 r1.2.2.1 r1.2.2.2.1 r1.2.2.2.2.1 r1.2.2.2.2.2.1 r1.2.2.2.2.2.2.1 r1.2.2.2.2.2.2.2.1 r1.2.2.2.2.2.2.2.2.1 r1.2.2.2.2.2.2.2.2.2 a13 a14 a15 a16 a17 a18).bind λr12=>((z6.F r12.1 r12.2).bind λr13=>(bif (!decide (r10=r13)) then (some false) else (z201.j18 a12 a13 a14 a15 a16 a17 a18)))))) else (z201.j18 a12 a13 a14 a15 a16 a17 a18)) else (z201.j18 a12 a13 a14 a15 a16 a17 a18)))) else (bif (decide (r3.2.2=0)) then (bif (decide ((wr .i64 (a16-a13))<50)) then ((z135.F r3.1 r3.2.1).bind λr14=>((z9.F (Int.fdiv a12 (2^(min 1 (64:Nat))))).bind λr15=>((z186.F r15.1 r15.2 r1.1 r1.2.1 r1.2.2.1 r1.2.2.2.1 r1.2.2.2.2.1 r1.2.2.2.2.2.1 r1.2.2.2.2.2.2.1 r1.2.2.2.2.2.2.2.1 r1.2.2.2.2.2.2.2.2.1 r1.2.2.2.2.2.2.2.2.2 a13 a14 a15 a16 a17 a18).bind λr16=>((z6.F r16.1 r16.2).bind λr17=>(bif (!decide (r14=r17)) then (some false) else (z201.j18 a12 a13 a14 a15 a16 a17 a18)))))) else (z201.j18 a12 a13 a14 a15 a16 a17 a18)) else (z201.j18 a12 a13 a14 a15 a16 a17 a18))))
def z201.j6 (j6:Bool) (r3:(List Int)×Bool×Int) (a16 a13 a12:Int) (r1:(List UInt8)×(List UInt8)×Int×Int×Int×Int×Int×Int×Int×Int) (a14 a15 a17 a18:Int):Option (Bool):=
 (bif j6 then (z201.j8 r3 11 a16 a13 a12 r1 a14 a15 a17 a18) else ((z132.F a13 a14 a15 a16 a17 a18).bind λr7=>(bif (decide (r7>0)) then (z201.j8 r3 12 a16 a13 a12 r1 a14 a15 a17 a18) else (z201.j8 r3 0 a16 a13 a12 r1 a14 a15 a17 a18))))
def z201.F (a0 a1 a2 a3 a4 a5 a6 a7 a8 a9 a10 a11 a12 a13 a14 a15 a16 a17 a18:Int):Option (Bool):=
 ((z18.F a0 a1 a2 a3 a4 a5 a6 a7 a8 a9 a10 a11 20).bind λr1=>((z48.F (Int.fdiv a12 (2^(min 1 (64:Nat))))).bind λr2=>((z185.F r2.1 r2.2 r1.1 r1.2.1 r1.2.2.1 r1.2.2.2.1 r1.2.2.2.2.1 r1.2.2.2.2.2.1 r1.2.2.2.2.2.2.1 r1.2.2.2.2.2.2.2.1 r1.2.2.2.2.2.2.2.2.1 r1.2.2.2.2.2.2.2.2.2 a13 a14 a15 a16 a17 a18).bind λr3=>((z126.F a13 a14 a15).bind λr4=>(bif (!r4) then (z201.j6 true r3 a16 a13 a12 r1 a14 a15 a17 a18) else ((z126.F a16 a17 a18).bind λr5=>(z201.j6 (!r5) r3 a16 a13 a12 r1 a14 a15 a17 a18)))))))
def z201.enc (r:Bool):V:=(.bool r)
def z201.pack:List V->Option Pack
 |[(.agg [(.int .u64 a0),(.int .u16 a1),(.int .u32 a2),(.int .u8 a3),(.int .u8 a4),(.int .u8 a5),(.int .u8 a6),(.int .u8 a7),(.int .u8 a8),(.int .i64 a9),(.int .i64 a10),(.int .i64 a11),(.int .i64 a12),(.int .i64 a13),(.int .i64 a14),(.int .i64 a15),(.int .i64 a16),(.int .i64 a17),(.int .i64 a18)])]=>some ⟨Bool,z201.F a0 a1 a2 a3 a4 a5 a6 a7 a8 a9 a10 a11 a12 a13 a14 a15 a16 a17 a18,z201.enc⟩
 |_=>none
end
end Go.Proofs.YtgjncgiekniniaaGreatDoor.A
end
section
set_option maxRecDepth 100000
namespace Go.Proofs.YtgjncgiekniniaaGreatDoor.A
open Go
noncomputable section
def z10.C:Ctx where
 T:=tab
def z10.dec:V->Option (Bool)
 |(.bool x0)=>some x0
 |_=>none
theorem z10.link (a0:Int):z10.C.evTop 219 (ifun Tryz.f219) [(.int .i64 a0)] z10.dec=z10.F a0:=by kernel_rfl
def z15.l2aash:Env×Store:=((.ints false .i64 [])::(.ints false .i64 []) :: .undef :: .undef::(.sref 0 0)::(.sref 1 0)::(.int .i64 0)::(.int .i64 0)::(.int .i64 0)::un 54 [],[(.arr 0 true 3 (.ints false .i64 [])),(.arr 0 false 3 (.ints false .i64 []))])
def z15.l2aaout0 (a b:List Int) (c d e:Int) (g h:List Int) (o:Int×Int×(List Int)):X×Env×Store:=((.exit 2),Qb z15.l2aash [.li a,.li b,.i c,.i o.1,.i o.2.1,.li g,.li o.2.2])
def z15.l2aapack:List Leaf->Option LPack
 |[.li a,.li b,.i c,.i d,.i e,.li g,.li h]=>some (.one _ (z15.l2aa a b c (d,e,h)) (z15.l2aaout0 a b c d e g h))
 |_=>none
def z15.l0sh:Env×Store:=((.ints false .i64 [])::(.ints false .i64 []) :: .undef :: .undef::(.sref 0 0)::(.sref 1 0)::(.int .i64 0)::un 56 [],[(.arr 0 true 3 (.ints false .i64 [])),(.arr 0 false 3 (.ints false .i64 []))])
def z15.l0out0 (a b:List Int) (c:Int) (d e:List Int) (o:Int×(List Int)):X×Env×Store:=((.exit 0),Qb z15.l0sh [.li a,.li b,.i o.1,.li d,.li o.2])
def z15.l0pack:List Leaf->Option LPack
 |[.li a,.li b,.i c,.li d,.li e]=>some (.one _ (z15.l0 a b (c,e)) (z15.l0out0 a b c d e))
 |_=>none
def z15.C:Ctx where
 T:=tab
 draws:=λf i=>match f,i with|208,10=>([(38,[(5,0)],0),(39,[(6,0)],0),(40,[(8,0)],0),(41,[(38,2),(39,3)],6),(42,[(37,1),(40,4)],15),(43,[(41,5)],31),(44,[(0,0)],0),(45,[(6,0)],0),(46,[(43,7),(44,8)],192),(47,[(45,9)],448),(48,[(9,0)],0),(49,[(46,10),(47,11)],1984),(50,[(42,6),(48,12)],4095),(51,[(7,0)],0),(52,[(49,13),(50,14)],16383),(11,[(51,15)],32767)],4503462188418048)|_,_=>([],0)
 call:=λg args=>match g with|234=>z13.pack args|235=>z14.pack args|_=>none
 keep:=λf i=>match f,i with|208,2=>([0,1,4,5,6,7,8],[0,1],[])|208,0=>([0,1,4,5,6,29,30],[0,1],[])|_,_=>([],[],[])
 keepE:=λf i=>match f,i with|208,2=>([0,1,4,5,6,7,8],[0,1],[])|208,0=>([0,1,4,5,6,29,30],[0,1],[])|_,_=>([],[],[])
 keepR:=λf i=>match f,i with|208,2=>([4],[0,1],[4])|208,0=>([4],[0,1],[4])|_,_=>([],[],[])
 L:=λf i b st=>match f,i,b with|208,2,0=>(matchSt z15.l2aash st).bind z15.l2aapack|208,0,0=>(matchSt z15.l0sh st).bind z15.l0pack|_,_,_=>none
def z15.dec:V->Option ((List Int))
 |(.ints _ .i64 x0)=>some x0
 |_=>none
theorem z15.l2aa_link (R:Type) (k:Env×Store->Option R) (d:X×Env×Store->Option R) (a b:List Int) (c e g:Int) (h j:List Int) :
  z15.C.loopP 208 2 (Qf 2 (ifun Tryz.f208).body) 2 k d (Qb z15.l2aash [.li a,.li b,.i c,.i e,.i g,.li h,.li j]) =
  z15.l2aaP a b c (λx'=>k (Qb z15.l2aash [.li a,.li b,.i c,.i x'.1,.i x'.2.1,.li h,.li x'.2.2])) (λo=>d (z15.l2aaout0 a b c e g h j o)) (e,g,j):=by kernel_rfl
theorem z15.l0_link (R:Type) (k:Env×Store->Option R) (d:X×Env×Store->Option R) (a b:List Int) (c:Int) (e g:List Int) :
  z15.C.loopP 208 0 (Qf 0 (ifun Tryz.f208).body) 2 k d (Qb z15.l0sh [.li a,.li b,.i c,.li e,.li g]) =
  z15.l0P a b (λx'=>k (Qb z15.l0sh [.li a,.li b,.i x'.1,.li e,.li x'.2])) (λo=>d (z15.l0out0 a b c e g o)) (c,g):=by kernel_rfl
theorem z15.link (a0 a1:List Int):z15.C.evTop 208 (ifun Tryz.f208) [(.ints false .i64 a0),(.ints false .i64 a1)] z15.dec=z15.F a0 a1:=by kernel_rfl
def z17.l0sh:Env×Store:=(.undef::(.ptr 0 0)::(.str ([]:List UInt8))::(.str ([]:List UInt8))::un 36 [],[(.cells 213 [(.ints false .i64 []),(.bool false),(.int .i64 0)])])
def z17.l0out0 (a c:List UInt8) (d:List Int) (e:Bool) (g:Int) (o:(List UInt8)):X×Env×Store:=((.exit 0),Qb z17.l0sh [.s a,.s o,.li d,.b e,.i g])
def z17.l0pack:List Leaf->Option LPack
 |[.s a,.s c,.li d,.b e,.i g]=>some (.one _ (z17.l0 g c) (z17.l0out0 a c d e g))
 |_=>none
def z17.C:Ctx where
 T:=tab
 draws:=λf i=>match f,i with|132,5=>([(19,[(3,17)],0),(20,[(3,17)],0),(21,[(19,2)],2),(22,[(1,0)],0),(23,[(21,4)],8),(24,[(20,3),(22,5)],30),(25,[(18,1),(23,6)],63),(26,[(24,7)],127),(27,[(3,17)],0),(28,[(3,17)],0),(29,[(27,10)],512),(30,[(1,0)],0),(31,[(29,12)],2048),(32,[(28,11),(30,13)],7680),(33,[(26,9),(31,14)],16128),(34,[(25,8),(32,15)],32767),(4,[(33,16)],65535)],17179607048)|_,_=>([],0)
 call:=λg args=>match g with|102=>z5.pack args|_=>none
 keep:=λf i=>match f,i with|132,0=>([1,2,3],[0],[])|_,_=>([],[],[])
 keepE:=λf i=>match f,i with|132,0=>([1,2,3],[0],[])|_,_=>([],[],[])
 keepR:=λf i=>match f,i with|132,0=>([2],[0],[2])|_,_=>([],[],[])
 L:=λf i b st=>match f,i,b with|132,0,0=>(matchSt z17.l0sh st).bind z17.l0pack|_,_,_=>none
def z17.dec:V->Option ((List UInt8))
 |(.str x0)=>some x0
 |_=>none
theorem z17.l0_link (R:Type) (k:Env×Store->Option R) (d:X×Env×Store->Option R) (a c:List UInt8) (e:List Int) (g:Bool) (h:Int) :
  z17.C.loopP 132 0 (Qf 0 (ifun Tryz.f132).body) 1 k d (Qb z17.l0sh [.s a,.s c,.li e,.b g,.i h]) =
  z17.l0P h (λx'=>k (Qb z17.l0sh [.s a,.s x',.li e,.b g,.i h])) (λo=>d (z17.l0out0 a c e g h o)) c:=by kernel_rfl
theorem z17.link (a0:List Int) (a1:Bool) (a2:Int):z17.C.evTop 132 (ifun Tryz.f132) [(.agg [(.ints false .i64 a0),(.bool a1),(.int .i64 a2)])] z17.dec=z17.F a0 a1 a2:=by kernel_rfl
def z18.C:Ctx where
 T:=tab
 call:=λg args=>match g with|95=>z12.pack args|60=>z9.pack args|131=>z16.pack args|26=>z6.pack args|132=>z17.pack args|_=>none
def z18.dec:V->Option ((List UInt8)×(List UInt8)×Int×Int×Int×Int×Int×Int×Int×Int)
 |(.agg [(.str x0),(.str x1),(.int .i64 x2),(.int .i64 x3),(.int .i64 x4),(.int .i64 x5),(.int .i64 x6),(.int .i64 x7),(.int .i64 x8),(.int .i64 x9)])=>some (x0,x1,x2,x3,x4,x5,x6,x7,x8,x9)
 |_=>none
theorem z18.link (a0 a1 a2 a3 a4 a5 a6 a7 a8 a9 a10 a11 a12:Int):z18.C.evTop 43 (ifun Tryz.f43) [(.agg [(.int .u64 a0),(.int .u16 a1),(.int .u32 a2),(.int .u8 a3),(.int .u8 a4),(.int .u8 a5),(.int .u8 a6),(.int .u8 a7),(.int .u8 a8),(.int .i64 a9),(.int .i64 a10),(.int .i64 a11)]),(.int .i64 a12)] z18.dec=z18.F a0 a1 a2 a3 a4 a5 a6 a7 a8 a9 a10 a11 a12:=by kernel_rfl
def z77.C:Ctx where
 T:=tab
def z77.dec:V->Option ((List (List UInt8)))
 |(.strs _ x0)=>some x0
 |_=>none
theorem z77.link:z77.C.evTop 137 (ifun Tryz.f137) [] z77.dec=z77.F:=by kernel_rfl
def z85.C:Ctx where
 T:=tab
 call:=λg args=>match g with|47=>z78.pack args|209=>z84.pack args|149=>z81.pack args|_=>none
def z85.dec:V->Option (Bool)
 |(.bool x0)=>some x0
 |_=>none
theorem z85.link (a0 a1:List UInt8) (a2 a3 a4 a5 a6 a7 a8 a9:Int):z85.C.evTop 133 (ifun Tryz.f133) [(.agg [(.str a0),(.str a1),(.int .i64 a2),(.int .i64 a3),(.int .i64 a4),(.int .i64 a5),(.int .i64 a6),(.int .i64 a7),(.int .i64 a8),(.int .i64 a9)])] z85.dec=z85.F a0 a1 a2 a3 a4 a5 a6 a7 a8 a9:=by kernel_rfl
def z90.C:Ctx where
 T:=tab
 draws:=λf i=>match f,i with|134,10=>([(48,[(8,0)],0),(49,[(47,1)],1),(50,[(8,0)],0),(51,[(49,3)],4),(52,[(8,0)],0),(53,[(51,5)],16),(54,[(50,4),(52,6)],60),(55,[(48,2),(53,7)],127),(56,[(8,0)],255),(0,[(55,9),(54,8)],511)],71916856549572608)|_,_=>([],0)
 call:=λg args=>match g with|142=>z89.pack args|210=>z88.pack args|_=>none
def z90.dec:V->Option (Int×Int×Int×Int)
 |(.tup [(.agg [(.int .i64 x0),(.int .i64 x1),(.int .i64 x2)]),(.int .i64 x3)])=>some (x0,x1,x2,x3)
 |_=>none
theorem z90.link (a0 a1 a2 a3:Int):z90.C.evTop 134 (ifun Tryz.f134) [(.agg [(.int .i64 a0),(.int .i64 a1),(.int .i64 a2)]),(.int .i64 a3)] z90.dec=z90.F a0 a1 a2 a3:=by kernel_rfl
def z95.l0sh:Env×Store:=(.undef :: .undef::(.int .i64 0)::(.int .i64 0) :: .undef :: .undef::(.ints false .i64 [])::(.int .i64 0)::(.int .i64 0)::un 9 [],[])
def z95.l0so1:Env×Store:=(.undef :: .undef::(.int .i64 0)::un 15 [],[])
def z95.l0out0 (a b:Int) (c:List Int) (d e o:Int):X×Env×Store:=((.exit 0),Qb z95.l0sh [.i a,.i b,.li c,.i d,.i o])
def z95.l0out1 (a b:Int) (c:List Int) (d e o:Int):X×Env×Store:=(.ret,Qb z95.l0so1 [.i o])
def z95.l0pack:List Leaf->Option LPack
 |[.i a,.i b,.li c,.i d,.i e]=>some (.two _ _ (z95.l0 b c d e) (z95.l0out0 a b c d e) (z95.l0out1 a b c d e))
 |_=>none
def z95.C:Ctx where
 T:=tab
 keep:=λf i=>match f,i with|145,0=>([2,3,6,7,8],[],[])|_,_=>([],[],[])
 keepE:=λf i=>match f,i with|145,0=>([2,3,6,7,8],[],[])|_,_=>([],[],[])
 keepR:=λf i=>match f,i with|145,0=>([2],[],[2])|_,_=>([],[],[])
 L:=λf i b st=>match f,i,b with|145,0,0=>(matchSt z95.l0sh st).bind z95.l0pack|_,_,_=>none
def z95.dec:V->Option (Int)
 |(.int .i64 x0)=>some x0
 |_=>none
theorem z95.l0_link (R:Type) (k:Env×Store->Option R) (d:X×Env×Store->Option R) (a b:Int) (c:List Int) (e g:Int) :
  z95.C.loopP 145 0 (Qf 0 (ifun Tryz.f145).body) 0 k d (Qb z95.l0sh [.i a,.i b,.li c,.i e,.i g]) =
  z95.l0P b c e (λx'=>k (Qb z95.l0sh [.i a,.i b,.li c,.i e,.i x'])) (λo=>match o with | .inl o=>d (z95.l0out0 a b c e g o) | .inr o=>d (z95.l0out1 a b c e g o)) g:=by kernel_rfl
theorem z95.link (a0:List Int):z95.C.evTop 145 (ifun Tryz.f145) [(.ints false .i64 a0)] z95.dec=z95.F a0:=by kernel_rfl
def z96.C:Ctx where
 T:=tab
 draws:=λf i=>match f,i with|57,1=>([(6,[(2,0)],0),(7,[(5,1)],1),(8,[(3,0)],0),(9,[(7,3)],4),(10,[(6,2),(8,4)],15),(11,[(2,0)],0),(12,[(10,6)],32),(13,[(3,0)],0),(14,[(12,8)],128),(15,[(11,7),(13,9)],511),(16,[(2,0)],0),(17,[(15,11)],1024),(18,[(3,0)],0),(19,[(17,13)],4096),(20,[(16,12),(18,14)],16383),(21,[(9,5),(14,10),(19,15)],32767),(22,[(20,16)],65535),(5,[(21,17)],131071)],4194288)|_,_=>([],0)
 call:=λg args=>match g with|146=>z26.pack args|145=>z95.pack args|_=>none
def z96.dec:V->Option (Int)
 |(.int .i64 x0)=>some x0
 |_=>none
theorem z96.link (a0 a1 a2 a3 a4 a5:Int):z96.C.evTop 57 (ifun Tryz.f57) [(.agg [(.int .i64 a0),(.int .i64 a1),(.int .i64 a2)]),(.agg [(.int .i64 a3),(.int .i64 a4),(.int .i64 a5)])] z96.dec=z96.F a0 a1 a2 a3 a4 a5:=by kernel_rfl
def z101.l2sh:Env×Store:=((.str ([]:List UInt8)) :: .undef::(.sref 0 0)::(.sref 1 0)::(.int .i64 0)::(.int .i64 0)::(.int .i64 0)::un 28 [],[(.arr 0 true 3 (.ints false .i64 [])),(.arr 0 true 3 (.ints false .i64 []))])
def z101.l2out0 (a:List UInt8) (b c d:Int) (e g:List Int) (o:Int×Int):X×Env×Store:=((.exit 2),Qb z101.l2sh [.s a,.i b,.i o.1,.i o.2,.li e,.li g])
def z101.l2pack:List Leaf->Option LPack
 |[.s a,.i b,.i c,.i d,.li e,.li g]=>some (.one _ (z101.l2 a b (c,d)) (z101.l2out0 a b c d e g))
 |_=>none
def z101.l0sh:Env×Store:=((.str ([]:List UInt8)) :: .undef::(.sref 0 0)::(.sref 1 0)::(.int .i64 0)::un 30 [],[(.arr 0 true 3 (.ints false .i64 [])),(.arr 0 true 3 (.ints false .i64 []))])
def z101.l0out0 (a:List UInt8) (b:Int) (c d:List Int) (o:Int×(List Int)):X×Env×Store:=((.exit 0),Qb z101.l0sh [.s a,.i o.1,.li c,.li o.2])
def z101.l0pack:List Leaf->Option LPack
 |[.s a,.i b,.li c,.li d]=>some (.one _ (z101.l0 a (b,d)) (z101.l0out0 a b c d))
 |_=>none
def z101.C:Ctx where
 T:=tab
 call:=λg args=>match g with|235=>z14.pack args|_=>none
 keep:=λf i=>match f,i with|192,2=>([0,2,3,4,5,6],[0,1],[])|192,0=>([0,2,3,4],[0,1],[])|_,_=>([],[],[])
 keepE:=λf i=>match f,i with|192,2=>([0,2,3,4,5,6],[0,1],[])|192,0=>([0,2,3,4],[0,1],[])|_,_=>([],[],[])
 keepR:=λf i=>match f,i with|192,2=>([2],[0,1],[2])|192,0=>([2],[0,1],[2])|_,_=>([],[],[])
 L:=λf i b st=>match f,i,b with|192,2,0=>(matchSt z101.l2sh st).bind z101.l2pack|192,0,0=>(matchSt z101.l0sh st).bind z101.l0pack|_,_,_=>none
def z101.dec:V->Option ((List Int))
 |(.ints _ .i64 x0)=>some x0
 |_=>none
theorem z101.l2_link (R:Type) (k:Env×Store->Option R) (d:X×Env×Store->Option R) (a:List UInt8) (b c e:Int) (g h:List Int) :
  z101.C.loopP 192 2 (Qf 2 (ifun Tryz.f192).body) 2 k d (Qb z101.l2sh [.s a,.i b,.i c,.i e,.li g,.li h]) =
  z101.l2P a b (λx'=>k (Qb z101.l2sh [.s a,.i b,.i x'.1,.i x'.2,.li g,.li h])) (λo=>d (z101.l2out0 a b c e g h o)) (c,e):=by kernel_rfl
theorem z101.l0_link (R:Type) (k:Env×Store->Option R) (d:X×Env×Store->Option R) (a:List UInt8) (b:Int) (c e:List Int) :
  z101.C.loopP 192 0 (Qf 0 (ifun Tryz.f192).body) 2 k d (Qb z101.l0sh [.s a,.i b,.li c,.li e]) =
  z101.l0P a (λx'=>k (Qb z101.l0sh [.s a,.i x'.1,.li c,.li x'.2])) (λo=>d (z101.l0out0 a b c e o)) (b,e):=by kernel_rfl
theorem z101.link (a0:List UInt8):z101.C.evTop 192 (ifun Tryz.f192) [(.str a0)] z101.dec=z101.F a0:=by kernel_rfl
def z119.C:Ctx where
 T:=tab
 call:=λg args=>match g with|60=>z9.pack args|205=>z118.pack args|_=>none
def z119.dec:V->Option ((List Int)×Bool×(List Int))
 |(.agg [(.ints _ .i64 x0),(.bool x1),(.ints _ .i64 x2)])=>some (x0,x1,x2)
 |_=>none
theorem z119.link (a0 a1:Int):z119.C.evTop 125 (ifun Tryz.f125) [(.int .i64 a0),(.int .i64 a1)] z119.dec=z119.F a0 a1:=by kernel_rfl
def z121.C:Ctx where
 T:=tab
 call:=λg args=>match g with|116=>z105.pack args|206=>z117.pack args|_=>none
def z121.dec:V->Option ((List Int)×Bool×(List Int))
 |(.agg [(.ints _ .i64 x0),(.bool x1),(.ints _ .i64 x2)])=>some (x0,x1,x2)
 |_=>none
theorem z121.link (a0:List Int) (a1:Bool) (a2:Int):z121.C.evTop 127 (ifun Tryz.f127) [(.agg [(.ints false .i64 a0),(.bool a1),(.int .i64 a2)])] z121.dec=z121.F a0 a1 a2:=by kernel_rfl
def z123.C:Ctx where
 T:=tab
 call:=λg args=>match g with|207=>z122.pack args|117=>z113.pack args|_=>none
def z123.dec:V->Option (Int)
 |(.int .i64 x0)=>some x0
 |_=>none
theorem z123.link (a0:List Int) (a1:Bool) (a2 a3:List Int) (a4:Bool) (a5:List Int):z123.C.evTop 128 (ifun Tryz.f128) [(.agg [(.ints false .i64 a0),(.bool a1),(.ints false .i64 a2)]),(.agg [(.ints false .i64 a3),(.bool a4),(.ints false .i64 a5)])] z123.dec=z123.F a0 a1 a2 a3 a4 a5:=by kernel_rfl
def z132.l0sh:Env×Store:=(un 4 ((.int .i64 0)::(.ints false .i64 [])::(.ints false .i64 [])::(.int .i64 0)::un 36 []),[.dead,.dead])
def z132.l0so1:Env×Store:=(un 4 ((.int .i64 0)::un 39 []),[.dead,.dead])
def z132.l0out0 (a:Int) (b c:List Int) (d o:Int):X×Env×Store:=((.exit 0),Qb z132.l0sh [.i a,.li b,.li c,.i o])
def z132.l0out1 (a:Int) (b c:List Int) (d o:Int):X×Env×Store:=(.ret,Qb z132.l0so1 [.i o])
def z132.l0pack:List Leaf->Option LPack
 |[.i a,.li b,.li c,.i d]=>some (.two _ _ (z132.l0 b c d) (z132.l0out0 a b c d) (z132.l0out1 a b c d))
 |_=>none
def z132.C:Ctx where
 T:=tab
 draws:=λf i=>match f,i with|81,6=>([(27,[(5,0)],0),(28,[(7,0)],0),(29,[(26,1),(27,2)],3),(30,[(28,3)],7),(31,[(6,0)],0),(32,[(7,0)],0),(33,[(30,5),(31,6)],48),(34,[(32,7)],112),(35,[(29,4),(33,8)],255)],34292629504)|81,8=>([(36,[(5,0)],0),(37,[(7,0)],0),(38,[(35,1),(36,2)],3),(39,[(37,3)],7),(40,[(6,0)],0),(41,[(7,0)],0),(42,[(39,5),(40,6)],48),(43,[(41,7)],112),(44,[(38,4),(42,8)],255)],17557826306048)|_,_=>([],0)
 keep:=λf i=>match f,i with|81,0=>([4,5,6,7],[],[])|_,_=>([],[],[])
 keepE:=λf i=>match f,i with|81,0=>([4,5,6,7],[],[])|_,_=>([],[],[])
 keepR:=λf i=>match f,i with|81,0=>([4],[],[4])|_,_=>([],[],[])
 L:=λf i b st=>match f,i,b with|81,0,0=>(matchSt z132.l0sh st).bind z132.l0pack|_,_,_=>none
def z132.dec:V->Option (Int)
 |(.int .i64 x0)=>some x0
 |_=>none
theorem z132.l0_link (R:Type) (k:Env×Store->Option R) (d:X×Env×Store->Option R) (a:Int) (b c:List Int) (e:Int) :
  z132.C.loopP 81 0 (Qf 0 (ifun Tryz.f81).body) 2 k d (Qb z132.l0sh [.i a,.li b,.li c,.i e]) =
  z132.l0P b c (λx'=>k (Qb z132.l0sh [.i a,.li b,.li c,.i x'])) (λo=>match o with | .inl o=>d (z132.l0out0 a b c e o) | .inr o=>d (z132.l0out1 a b c e o)) e:=by kernel_rfl
theorem z132.link (a0 a1 a2 a3 a4 a5:Int):z132.C.evTop 81 (ifun Tryz.f81) [(.agg [(.int .i64 a0),(.int .i64 a1),(.int .i64 a2)]),(.agg [(.int .i64 a3),(.int .i64 a4),(.int .i64 a5)])] z132.dec=z132.F a0 a1 a2 a3 a4 a5:=by kernel_rfl
def z147.C:Ctx where
 T:=tab
 call:=λg args=>match g with|28=>z20.pack args|_=>none
def z147.dec:V->Option (Int)
 |(.int .i64 x0)=>some x0
 |_=>none
theorem z147.link (a0:List Int) (a1:Bool) (a2:List Int):z147.C.evTop 71 (ifun Tryz.f71) [(.agg [(.ints false .u64 a0),(.bool a1),(.ints false .u64 a2)])] z147.dec=z147.F a0 a1 a2:=by kernel_rfl
def z148.C:Ctx where
 T:=tab
def z148.dec:V->Option ((List Int)×Bool)
 |(.agg [(.ints _ .u64 x0),(.bool x1)])=>some (x0,x1)
 |_=>none
theorem z148.link (a0:List Int) (a1:Bool) (a2:List Int):z148.C.evTop 216 (ifun Tryz.f216) [(.agg [(.ints false .u64 a0),(.bool a1),(.ints false .u64 a2)])] z148.dec=z148.F a0 a1 a2:=by kernel_rfl
def z149.C:Ctx where
 T:=tab
 draws:=λf i=>match f,i with|217,1=>([(12,[(6,0)],0),(13,[(6,0)],0),(14,[(11,1),(12,2)],3),(15,[(7,0)],0),(16,[(13,3),(14,4)],15),(10,[(15,5)],31)],64000)|_,_=>([],0)
 call:=λg args=>match g with|99=>z24.pack args|186=>z29.pack args|188=>z60.pack args|_=>none
def z149.dec:V->Option (Bool)
 |(.bool x0)=>some x0
 |_=>none
theorem z149.link (a0:Int) (a1 a2 a3:List Int):z149.C.evTop 217 (ifun Tryz.f217) [(.int .i64 a0),(.agg [(.ints false .u64 a1)]),(.agg [(.ints false .u64 a2)]),(.agg [(.ints false .u64 a3)])] z149.dec=z149.F a0 a1 a2 a3:=by kernel_rfl
def z150.C:Ctx where
 T:=tab
 draws:=λf i=>match f,i with|150,3=>([(15,[(2,0)],0),(16,[(14,1)],1),(17,[(15,2)],3),(18,[(2,0)],0),(19,[(17,4)],15),(20,[(16,3),(18,5)],31),(14,[(19,6)],63),(21,[(13,7)],127),(22,[(13,7)],127),(23,[(13,7)],127),(7,[],0),(8,[],0),(0,[(6,11),(20,8)],3327),(0,[(7,12),(21,9)],7679),(9,[(22,10)],16383)],8380864)|150,4=>([(24,[(7,0)],0),(25,[(23,1)],1),(26,[(24,2)],3),(27,[(25,3)],7),(28,[(1,0),(26,4)],15),(29,[(6,0),(26,4)],15),(30,[(7,0),(26,4)],15),(31,[(2,0),(26,4)],15),(32,[(30,8),(26,4)],143),(33,[(27,5),(28,6),(29,7),(31,9),(26,4)],511),(34,[(26,4),(32,10)],1023)],17171480576)|150,5=>([(35,[(6,0)],0),(36,[],0),(37,[(35,2)],2),(38,[(34,1),(36,3)],7),(0,[(6,0),(37,4)],15)],257698037760)|150,6=>([(39,[(6,0)],0),(40,[(2,0)],0),(41,[(39,2)],2),(42,[(40,3)],6),(43,[(38,1),(41,4)],15),(0,[(4,0),(42,5)],31),(6,[],63)],8521215115296)|_,_=>([],0)
 call:=λg args=>match g with|214=>z79.pack args|216=>z148.pack args|92=>z59.pack args|130=>z73.pack args|162=>z68.pack args|104=>z19.pack args|217=>z149.pack args|158=>z38.pack args|99=>z24.pack args|71=>z147.pack args|91=>z21.pack args|_=>none
def z150.dec:V->Option ((List Int)×Bool×Int)
 |(.tup [(.agg [(.ints _ .u64 x0),(.bool x1)]),(.int .i64 x2)])=>some (x0,x1,x2)
 |_=>none
theorem z150.link (a0:List Int) (a1:Bool) (a2:List Int) (a3:Int):z150.C.evTop 150 (ifun Tryz.f150) [(.agg [(.ints false .u64 a0),(.bool a1),(.ints false .u64 a2)]),(.int .i64 a3)] z150.dec=z150.F a0 a1 a2 a3:=by kernel_rfl
def z153.C:Ctx where
 T:=tab
 call:=λg args=>match g with|69=>z48.pack args|176=>z71.pack args|_=>none
def z153.dec:V->Option ((List Int)×Bool×(List Int))
 |(.agg [(.ints _ .u64 x0),(.bool x1),(.ints _ .u64 x2)])=>some (x0,x1,x2)
 |_=>none
theorem z153.link (a0 a1:Int):z153.C.evTop 230 (ifun Tryz.f230) [(.int .i64 a0),(.int .i64 a1)] z153.dec=z153.F a0 a1:=by kernel_rfl
def z165.l0sh:Env×Store:=(un 5 ((.ptr 1 0)::(.ptr 2 0) :: .undef :: .undef::(.int .i64 0)::(.int .i64 0)::(.ptr 3 0)::(.int .i64 0)::un 80 []),[.dead,(.cells 41 [(.int .i64 0),(.int .i64 0),(.int .i64 0)]),(.cells 72 [(.ints false .i64 []),(.bool false),(.ints false .i64 [])]),(.cells 72 [(.ints false .i64 []),(.bool false),(.ints false .i64 [])])])
def z165.l0out0 (a c d e g h:Int) (j:List Int) (k:Bool) (m n:List Int) (p:Bool) (q:List Int) (o:Int×(List Int)×Bool×(List Int)):X×Env×Store:=((.exit 0),Qb z165.l0sh [.i a,.i c,.i o.1,.i e,.i g,.i h,.li j,.b k,.li m,.li o.2.1,.b o.2.2.1,.li o.2.2.2])
def z165.l0pack:List Leaf->Option LPack
 |[.i a,.i c,.i d,.i e,.i g,.i h,.li j,.b k,.li m,.li n,.b o,.li p]=>some (.one _ (z165.l0 a c e (d,n,o,p)) (z165.l0out0 a c d e g h j k m n o p))
 |_=>none
def z165.C:Ctx where
 T:=tab
 call:=λg args=>match g with|125=>z119.pack args|233=>z164.pack args|219=>z10.pack args|220=>z163.pack args|_=>none
 keep:=λf i=>match f,i with|166,0=>([5,6,9,10,11,12],[1,2,3],[])|_,_=>([],[],[])
 keepE:=λf i=>match f,i with|166,0=>([5,6,9,10,11,12],[1,2,3],[])|_,_=>([],[],[])
 keepR:=λf i=>match f,i with|166,0=>([6],[1,2,3],[6])|_,_=>([],[],[])
 L:=λf i b st=>match f,i,b with|166,0,0=>(matchSt z165.l0sh st).bind z165.l0pack|_,_,_=>none
def z165.dec:V->Option ((List Int)×Bool×(List Int))
 |(.agg [(.ints _ .i64 x0),(.bool x1),(.ints _ .i64 x2)])=>some (x0,x1,x2)
 |_=>none
theorem z165.l0_link (R:Type) (k:Env×Store->Option R) (d:X×Env×Store->Option R) (a c e g h j:Int) (m:List Int) (n:Bool) (p q:List Int) (r:Bool) (s:List Int) :
  z165.C.loopP 166 0 (Qf 0 (ifun Tryz.f166).body) 4 k d (Qb z165.l0sh [.i a,.i c,.i e,.i g,.i h,.i j,.li m,.b n,.li p,.li q,.b r,.li s]) =
  z165.l0P a c g (λx'=>k (Qb z165.l0sh [.i a,.i c,.i x'.1,.i g,.i h,.i j,.li m,.b n,.li p,.li x'.2.1,.b x'.2.2.1,.li x'.2.2.2])) (λo=>d (z165.l0out0 a c e g h j m n p q r s o)) (e,q,r,s):=by kernel_rfl
theorem z165.link (a0 a1 a2 a3 a4 a5 a6:Int):z165.C.evTop 166 (ifun Tryz.f166) [(.int .i64 a0),(.agg [(.int .i64 a1),(.int .i64 a2),(.int .i64 a3)]),(.agg [(.int .i64 a4),(.int .i64 a5),(.int .i64 a6)])] z165.dec=z165.F a0 a1 a2 a3 a4 a5 a6:=by kernel_rfl
def z167.C:Ctx where
 T:=tab
 call:=λg args=>match g with|131=>z16.pack args|208=>z15.pack args|206=>z117.pack args|_=>none
def z167.dec:V->Option ((List Int)×Bool×(List Int))
 |(.agg [(.ints _ .i64 x0),(.bool x1),(.ints _ .i64 x2)])=>some (x0,x1,x2)
 |_=>none
theorem z167.link (a0:List Int) (a1:Bool) (a2 a3:List Int) (a4:Bool) (a5:List Int):z167.C.evTop 168 (ifun Tryz.f168) [(.agg [(.ints false .i64 a0),(.bool a1),(.ints false .i64 a2)]),(.agg [(.ints false .i64 a3),(.bool a4),(.ints false .i64 a5)])] z167.dec=z167.F a0 a1 a2 a3 a4 a5:=by kernel_rfl
def z200.C:Ctx where
 T:=tab
 call:=λg args=>match g with|169=>z199.pack args|86=>z198.pack args|84=>z187.pack args|25=>z135.pack args|28=>z20.pack args|_=>none
def z200.dec:V->Option (Bool)
 |(.bool x0)=>some x0
 |_=>none
theorem z200.link:z200.C.evTop 83 (ifun Tryz.f83) [] z200.dec=z200.F:=by kernel_rfl
end
noncomputable section
def z6.C:Ctx where
 T:=tab
 call:=λg args=>match g with|102=>z5.pack args|_=>none
def z6.dec:V->Option ((List UInt8))
 |(.str x0)=>some x0
 |_=>none
theorem z6.link (a0:List Int) (a1:Bool):z6.C.evTop 26 (ifun Tryz.f26) [(.agg [(.ints false .i64 a0),(.bool a1)])] z6.dec=z6.F a0 a1:=by kernel_rfl
def z9.C:Ctx where
 T:=tab
 call:=λg args=>match g with|152=>z8.pack args|113=>z7.pack args|_=>none
def z9.dec:V->Option ((List Int)×Bool)
 |(.agg [(.ints _ .i64 x0),(.bool x1)])=>some (x0,x1)
 |_=>none
theorem z9.link (a0:Int):z9.C.evTop 60 (ifun Tryz.f60) [(.int .i64 a0)] z9.dec=z9.F a0:=by kernel_rfl
def z14.l0b6sh:Env×Store:=((.ints false .i64 []) :: .undef::(.sref 0 0)::(.int .i64 0)::un 17 [],[(.arr 0 true 3 (.ints false .i64 []))])
def z14.l0b6out0 (a:List Int) (b:Int) (c:List Int) (o:Int):X×Env×Store:=((.exit 0),Qb z14.l0b6sh [.li a,.i o,.li c])
def z14.l0b6pack:List Leaf->Option LPack
 |[.li a,.i b,.li c]=>some (.one _ (z14.l0b6 a b) (z14.l0b6out0 a b c))
 |_=>none
def z14.C:Ctx where
 T:=tab
 keep:=λf i=>match f,i with|235,0=>([0,2,3],[0],[])|_,_=>([],[],[])
 keepE:=λf i=>match f,i with|235,0=>([0,2,3],[0],[])|_,_=>([],[],[])
 keepR:=λf i=>match f,i with|235,0=>([2],[0],[2])|_,_=>([],[],[])
 L:=λf i b st=>match f,i,b with|235,0,0=>(matchSt z14.l0b6sh st).bind z14.l0b6pack|_,_,_=>none
def z14.dec:V->Option ((List Int))
 |(.ints _ .i64 x0)=>some x0
 |_=>none
theorem z14.l0b6_link (R:Type) (k:Env×Store->Option R) (d:X×Env×Store->Option R) (a:List Int) (b:Int) (c:List Int) :
  z14.C.loopP 235 0 (Qf 0 (ifun Tryz.f235).body) 1 k d (Qb z14.l0b6sh [.li a,.i b,.li c]) =
  z14.l0b6P a (λx'=>k (Qb z14.l0b6sh [.li a,.i x',.li c])) (λo=>d (z14.l0b6out0 a b c o)) b:=by kernel_rfl
theorem z14.link (a0:List Int):z14.C.evTop 235 (ifun Tryz.f235) [(.ints false .i64 a0)] z14.dec=z14.F a0:=by kernel_rfl
def z16.C:Ctx where
 T:=tab
 call:=λg args=>match g with|208=>z15.pack args|113=>z7.pack args|_=>none
def z16.dec:V->Option ((List Int)×Bool)
 |(.agg [(.ints _ .i64 x0),(.bool x1)])=>some (x0,x1)
 |_=>none
theorem z16.link (a0:List Int) (a1:Bool) (a2:List Int) (a3:Bool):z16.C.evTop 131 (ifun Tryz.f131) [(.agg [(.ints false .i64 a0),(.bool a1)]),(.agg [(.ints false .i64 a2),(.bool a3)])] z16.dec=z16.F a0 a1 a2 a3:=by kernel_rfl
def z78.C:Ctx where
 T:=tab
 call:=λg args=>match g with|137=>z77.pack args|_=>none
def z78.dec:V->Option ((List UInt8))
 |(.str x0)=>some x0
 |_=>none
theorem z78.link (a0:Int):z78.C.evTop 47 (ifun Tryz.f47) [(.int .i64 a0)] z78.dec=z78.F a0:=by kernel_rfl
def z98.l0sh:Env×Store:=(.undef::(.ptr 0 0)::(.int .i64 0)::(.int .i64 0) :: .undef::(.int .i64 0)::(.int .i64 0)::un 24 [],[(.cells 41 [(.int .i64 0),(.int .i64 0),(.int .i64 0)])])
def z98.l0out0 (a b c d e g h:Int) (o:Int×Int):X×Env×Store:=((.exit 0),Qb z98.l0sh [.i a,.i b,.i o.1,.i o.2,.i e,.i g,.i h])
def z98.l0pack:List Leaf->Option LPack
 |[.i a,.i b,.i c,.i d,.i e,.i g,.i h]=>some (.one _ (z98.l0 e g (c,d)) (z98.l0out0 a b c d e g h))
 |_=>none
def z98.C:Ctx where
 T:=tab
 call:=λg args=>match g with|142=>z89.pack args|211=>z97.pack args|210=>z88.pack args|_=>none
 keep:=λf i=>match f,i with|140,0=>([1,2,3,5,6],[0],[])|_,_=>([],[],[])
 keepE:=λf i=>match f,i with|140,0=>([1,2,3,5,6],[0],[])|_,_=>([],[],[])
 keepR:=λf i=>match f,i with|140,0=>([2,3],[0],[2,3])|_,_=>([],[],[])
 L:=λf i b st=>match f,i,b with|140,0,0=>(matchSt z98.l0sh st).bind z98.l0pack|_,_,_=>none
def z98.dec:V->Option (Int×Int)
 |(.tup [(.int .i64 x0),(.int .i64 x1)])=>some (x0,x1)
 |_=>none
theorem z98.l0_link (R:Type) (k:Env×Store->Option R) (d:X×Env×Store->Option R) (a b c e g h j:Int) :
  z98.C.loopP 140 0 (Qf 0 (ifun Tryz.f140).body) 1 k d (Qb z98.l0sh [.i a,.i b,.i c,.i e,.i g,.i h,.i j]) =
  z98.l0P g h (λx'=>k (Qb z98.l0sh [.i a,.i b,.i x'.1,.i x'.2,.i g,.i h,.i j])) (λo=>d (z98.l0out0 a b c e g h j o)) (c,e):=by kernel_rfl
theorem z98.link (a0 a1 a2:Int):z98.C.evTop 140 (ifun Tryz.f140) [(.agg [(.int .i64 a0),(.int .i64 a1),(.int .i64 a2)])] z98.dec=z98.F a0 a1 a2:=by kernel_rfl
def z107.l0b6sh:Env×Store:=((.ints false .i64 [])::(.ints false .i64 []) :: .undef :: .undef::(.sref 0 0)::(.sref 1 0)::(.int .i64 0)::(.int .i64 0)::un 39 [],[(.arr 0 true 3 (.ints false .i64 [])),(.arr 0 true 3 (.ints false .i64 []))])
def z107.l0b6out0 (a b:List Int) (c d:Int) (e g:List Int) (o:Int×Int×(List Int)):X×Env×Store:=((.exit 0),Qb z107.l0b6sh [.li a,.li b,.i o.1,.i o.2.1,.li e,.li o.2.2])
def z107.l0b6pack:List Leaf->Option LPack
 |[.li a,.li b,.i c,.i d,.li e,.li g]=>some (.one _ (z107.l0b6 a b (c,d,g)) (z107.l0b6out0 a b c d e g))
 |_=>none
def z107.C:Ctx where
 T:=tab
 call:=λg args=>match g with|234=>z13.pack args|235=>z14.pack args|_=>none
 keep:=λf i=>match f,i with|170,0=>([0,1,4,5,6,7],[0,1],[])|_,_=>([],[],[])
 keepE:=λf i=>match f,i with|170,0=>([0,1,4,5,6,7],[0,1],[])|_,_=>([],[],[])
 keepR:=λf i=>match f,i with|170,0=>([4],[0,1],[4])|_,_=>([],[],[])
 L:=λf i b st=>match f,i,b with|170,0,0=>(matchSt z107.l0b6sh st).bind z107.l0b6pack|_,_,_=>none
def z107.dec:V->Option ((List Int))
 |(.ints _ .i64 x0)=>some x0
 |_=>none
theorem z107.l0b6_link (R:Type) (k:Env×Store->Option R) (d:X×Env×Store->Option R) (a b:List Int) (c e:Int) (g h:List Int) :
  z107.C.loopP 170 0 (Qf 0 (ifun Tryz.f170).body) 2 k d (Qb z107.l0b6sh [.li a,.li b,.i c,.i e,.li g,.li h]) =
  z107.l0b6P a b (λx'=>k (Qb z107.l0b6sh [.li a,.li b,.i x'.1,.i x'.2.1,.li g,.li x'.2.2])) (λo=>d (z107.l0b6out0 a b c e g h o)) (c,e,h):=by kernel_rfl
theorem z107.link (a0 a1:List Int):z107.C.evTop 170 (ifun Tryz.f170) [(.ints false .i64 a0),(.ints false .i64 a1)] z107.dec=z107.F a0 a1:=by kernel_rfl
def z108.l0sh:Env×Store:=((.ints false .i64 [])::(.ints false .i64 []) :: .undef :: .undef::(.int .i64 0)::(.int .i64 0)::un 35 [],[])
def z108.l0so1:Env×Store:=(un 4 ((.int .i64 0)::un 36 []),[])
def z108.l0out0 (a b:List Int) (c d o:Int):X×Env×Store:=((.exit 0),Qb z108.l0sh [.li a,.li b,.i c,.i o])
def z108.l0out1 (a b:List Int) (c d o:Int):X×Env×Store:=(.ret,Qb z108.l0so1 [.i o])
def z108.l0pack:List Leaf->Option LPack
 |[.li a,.li b,.i c,.i d]=>some (.two _ _ (z108.l0 a b d) (z108.l0out0 a b c d) (z108.l0out1 a b c d))
 |_=>none
def z108.C:Ctx where
 T:=tab
 draws:=λf i=>match f,i with|171,8=>([(24,[(0,0)],0),(25,[(5,0)],0),(26,[(23,1),(24,2)],3),(27,[(25,3)],7),(28,[(1,0)],0),(29,[(5,0)],0),(30,[(27,5),(28,6)],48),(31,[(29,7)],112),(32,[(26,4),(30,8)],255)],4286578688)|171,10=>([(33,[(0,0)],0),(34,[(5,0)],0),(35,[(32,1),(33,2)],3),(36,[(34,3)],7),(37,[(1,0)],0),(38,[(5,0)],0),(39,[(36,5),(37,6)],48),(40,[(38,7)],112),(41,[(35,4),(39,8)],255)],2194728288256)|_,_=>([],0)
 keep:=λf i=>match f,i with|171,0=>([0,1,4,5],[],[])|_,_=>([],[],[])
 keepE:=λf i=>match f,i with|171,0=>([0,1,4,5],[],[])|_,_=>([],[],[])
 keepR:=λf i=>match f,i with|171,0=>([4],[],[4])|_,_=>([],[],[])
 L:=λf i b st=>match f,i,b with|171,0,0=>(matchSt z108.l0sh st).bind z108.l0pack|_,_,_=>none
def z108.dec:V->Option (Int)
 |(.int .i64 x0)=>some x0
 |_=>none
theorem z108.l0_link (R:Type) (k:Env×Store->Option R) (d:X×Env×Store->Option R) (a b:List Int) (c e:Int) :
  z108.C.loopP 171 0 (Qf 0 (ifun Tryz.f171).body) 0 k d (Qb z108.l0sh [.li a,.li b,.i c,.i e]) =
  z108.l0P a b (λx'=>k (Qb z108.l0sh [.li a,.li b,.i c,.i x'])) (λo=>match o with | .inl o=>d (z108.l0out0 a b c e o) | .inr o=>d (z108.l0out1 a b c e o)) e:=by kernel_rfl
theorem z108.link (a0 a1:List Int):z108.C.evTop 171 (ifun Tryz.f171) [(.ints false .i64 a0),(.ints false .i64 a1)] z108.dec=z108.F a0 a1:=by kernel_rfl
def z115.l2sh:Env×Store:=((.ints false .i64 [])::(.ints false .i64 []) :: .undef :: .undef::(.sref 0 0)::(.sref 1 0)::(.sref 2 0)::(.ints false .i64 [])::(.int .i64 0) :: .undef::(.int .i64 0)::(.int .i64 0)::un 61 [],[(.arr 0 true 3 (.ints false .i64 [])),(.arr 0 true 3 (.ints false .i64 [])),(.arr 0 false 3 (.ints false .i64 [])),.dead])
def z115.l2out0 (a b c:List Int) (d e g:Int) (h j k:List Int) (o:Int×Int):X×Env×Store:=((.exit 2),Qb z115.l2sh [.li a,.li b,.li c,.i d,.i o.1,.i o.2,.li h,.li j,.li k])
def z115.l2pack:List Leaf->Option LPack
 |[.li a,.li b,.li c,.i d,.i e,.i g,.li h,.li j,.li k]=>some (.one _ (z115.l2 b c (e,g)) (z115.l2out0 a b c d e g h j k))
 |_=>none
def z115.l0ash:Env×Store:=((.ints false .i64 [])::(.ints false .i64 []) :: .undef :: .undef::(.sref 0 0)::(.sref 1 0)::(.sref 2 0)::(.ints false .i64 [])::(.int .i64 0)::un 64 [],[(.arr 0 true 3 (.ints false .i64 [])),(.arr 0 true 3 (.ints false .i64 [])),(.arr 0 false 3 (.ints false .i64 [])),.dead])
def z115.l0aout0 (a b c:List Int) (d:Int) (e g h:List Int) (o:(List Int)×Int×(List Int)):X×Env×Store:=((.exit 0),Qb z115.l0ash [.li a,.li b,.li o.1,.i o.2.1,.li e,.li g,.li o.2.2])
def z115.l0apack:List Leaf->Option LPack
 |[.li a,.li b,.li c,.i d,.li e,.li g,.li h]=>some (.one _ (z115.l0a a b (c,d,h)) (z115.l0aout0 a b c d e g h))
 |_=>none
def z115.C:Ctx where
 T:=tab
 call:=λg args=>match g with|235=>z14.pack args|152=>z8.pack args|208=>z15.pack args|171=>z108.pack args|172=>z109.pack args|_=>none
 keep:=λf i=>match f,i with|221,2=>([0,1,4,5,6,7,8,10,11],[0,1,2],[])|221,0=>([0,1,4,5,6,7,8],[0,1,2],[7])|_,_=>([],[],[])
 keepE:=λf i=>match f,i with|221,2=>([0,1,4,5,6,7,8,10,11],[0,1,2],[])|221,0=>([0,1,4,5,6,7,8],[0,1,2],[7])|_,_=>([],[],[])
 keepR:=λf i=>match f,i with|221,2=>([4,5],[0,1,2],[4,5])|221,0=>([4,5],[0,1,2],[4,5])|_,_=>([],[],[])
 L:=λf i b st=>match f,i,b with|221,2,0=>(matchSt z115.l2sh st).bind z115.l2pack|221,0,0=>(matchSt z115.l0ash st).bind z115.l0apack|_,_,_=>none
def z115.dec:V->Option ((List Int)×(List Int))
 |(.tup [(.ints _ .i64 x0),(.ints _ .i64 x1)])=>some (x0,x1)
 |_=>none
theorem z115.l2_link (R:Type) (k:Env×Store->Option R) (d:X×Env×Store->Option R) (a b c:List Int) (e g h:Int) (j m n:List Int) :
  z115.C.loopP 221 2 (Qf 2 (ifun Tryz.f221).body) 4 k d (Qb z115.l2sh [.li a,.li b,.li c,.i e,.i g,.i h,.li j,.li m,.li n]) =
  z115.l2P b c (λx'=>k (Qb z115.l2sh [.li a,.li b,.li c,.i e,.i x'.1,.i x'.2,.li j,.li m,.li n])) (λo=>d (z115.l2out0 a b c e g h j m n o)) (g,h):=by kernel_rfl
theorem z115.l0a_link (R:Type) (k:Env×Store->Option R) (d:X×Env×Store->Option R) (a b c:List Int) (e:Int) (g h j:List Int) :
  z115.C.loopP 221 0 (Qf 0 (ifun Tryz.f221).body) 4 k d (Qb z115.l0ash [.li a,.li b,.li c,.i e,.li g,.li h,.li j]) =
  z115.l0aP a b (λx'=>k (Qb z115.l0ash [.li a,.li b,.li x'.1,.i x'.2.1,.li g,.li h,.li x'.2.2])) (λo=>d (z115.l0aout0 a b c e g h j o)) (c,e,j):=by kernel_rfl
theorem z115.link (a0 a1:List Int):z115.C.evTop 221 (ifun Tryz.f221) [(.ints false .i64 a0),(.ints false .i64 a1)] z115.dec=z115.F a0 a1:=by kernel_rfl
def z116.l0sh:Env×Store:=((.ints false .i64 [])::(.ints false .i64 []) :: .undef :: .undef::(.sref 0 0)::un 14 [],[(.arr 0 true 3 (.ints false .i64 []))])
def z116.l0out0 (a b c:List Int) (o:(List Int)×(List Int)):X×Env×Store:=((.exit 0),Qb z116.l0sh [.li o.1,.li o.2,.li c])
def z116.l0pack:List Leaf->Option LPack
 |[.li a,.li b,.li c]=>some (.one _ (z116.l0 (a,b)) (z116.l0out0 a b c))
 |_=>none
def z116.C:Ctx where
 T:=tab
 call:=λg args=>match g with|221=>z115.pack args|_=>none
 keep:=λf i=>match f,i with|256,0=>([0,1,4],[0],[])|_,_=>([],[],[])
 keepE:=λf i=>match f,i with|256,0=>([0,1,4],[0],[])|_,_=>([],[],[])
 keepR:=λf i=>match f,i with|256,0=>([4],[0],[4])|_,_=>([],[],[])
 L:=λf i b st=>match f,i,b with|256,0,0=>(matchSt z116.l0sh st).bind z116.l0pack|_,_,_=>none
def z116.dec:V->Option ((List Int))
 |(.ints _ .i64 x0)=>some x0
 |_=>none
theorem z116.l0_link (R:Type) (k:Env×Store->Option R) (d:X×Env×Store->Option R) (a b c:List Int) :
  z116.C.loopP 256 0 (Qf 0 (ifun Tryz.f256).body) 1 k d (Qb z116.l0sh [.li a,.li b,.li c]) =
  z116.l0P (λx'=>k (Qb z116.l0sh [.li x'.1,.li x'.2,.li c])) (λo=>d (z116.l0out0 a b c o)) (a,b):=by kernel_rfl
theorem z116.link (a0 a1:List Int):z116.C.evTop 256 (ifun Tryz.f256) [(.ints false .i64 a0),(.ints false .i64 a1)] z116.dec=z116.F a0 a1:=by kernel_rfl
def z122.C:Ctx where
 T:=tab
 call:=λg args=>match g with|113=>z7.pack args|131=>z16.pack args|_=>none
def z122.dec:V->Option ((List Int)×Bool)
 |(.agg [(.ints _ .i64 x0),(.bool x1)])=>some (x0,x1)
 |_=>none
theorem z122.link (a0:List Int) (a1:Bool) (a2 a3:List Int) (a4:Bool) (a5:List Int):z122.C.evTop 207 (ifun Tryz.f207) [(.agg [(.ints false .i64 a0),(.bool a1),(.ints false .i64 a2)]),(.agg [(.ints false .i64 a3),(.bool a4),(.ints false .i64 a5)])] z122.dec=z122.F a0 a1 a2 a3 a4 a5:=by kernel_rfl
def z124.C:Ctx where
 T:=tab
 call:=λg args=>match g with|207=>z122.pack args|113=>z7.pack args|131=>z16.pack args|205=>z118.pack args|_=>none
def z124.dec:V->Option ((List Int)×Bool×(List Int))
 |(.agg [(.ints _ .i64 x0),(.bool x1),(.ints _ .i64 x2)])=>some (x0,x1,x2)
 |_=>none
theorem z124.link (a0:List Int) (a1:Bool) (a2 a3:List Int) (a4:Bool) (a5:List Int):z124.C.evTop 129 (ifun Tryz.f129) [(.agg [(.ints false .i64 a0),(.bool a1),(.ints false .i64 a2)]),(.agg [(.ints false .i64 a3),(.bool a4),(.ints false .i64 a5)])] z124.dec=z124.F a0 a1 a2 a3 a4 a5:=by kernel_rfl
def z125.C:Ctx where
 T:=tab
 call:=λg args=>match g with|125=>z119.pack args|126=>z120.pack args|127=>z121.pack args|128=>z123.pack args|129=>z124.pack args|_=>none
def z125.dec:V->Option ((List Int)×Bool×(List Int)×Int)
 |(.tup [(.agg [(.ints _ .i64 x0),(.bool x1),(.ints _ .i64 x2)]),(.int .i64 x3)])=>some (x0,x1,x2,x3)
 |_=>none
theorem z125.link (a0:List UInt8):z125.C.evTop 39 (ifun Tryz.f39) [(.str a0)] z125.dec=z125.F a0:=by kernel_rfl
def z151.C:Ctx where
 T:=tab
 draws:=λf i=>match f,i with|78,1=>([(6,[(2,0)],0),(7,[(5,1)],1),(8,[(3,0)],0),(9,[(7,3)],4),(10,[(6,2),(8,4)],15),(11,[(3,0)],0),(12,[(10,6)],32),(13,[(2,0)],0),(14,[(12,8)],159),(15,[(11,7),(13,9)],511),(16,[(9,5),(14,10)],1023),(17,[(2,0)],0),(18,[(16,12)],4095),(19,[(3,0)],0),(20,[(18,14)],16383),(21,[(17,13),(19,15)],32767),(22,[(15,11),(20,16)],65535),(0,[(4,0),(21,17)],131071)],4194272)|_,_=>([],0)
 call:=λg args=>match g with|157=>z74.pack args|156=>z54.pack args|24=>z31.pack args|130=>z73.pack args|164=>z40.pack args|163=>z70.pack args|_=>none
def z151.dec:V->Option ((List Int)×Bool×(List Int))
 |(.agg [(.ints _ .u64 x0),(.bool x1),(.ints _ .u64 x2)])=>some (x0,x1,x2)
 |_=>none
theorem z151.link (a0:List Int) (a1:Bool) (a2 a3:List Int) (a4:Bool) (a5:List Int):z151.C.evTop 78 (ifun Tryz.f78) [(.agg [(.ints false .u64 a0),(.bool a1),(.ints false .u64 a2)]),(.agg [(.ints false .u64 a3),(.bool a4),(.ints false .u64 a5)])] z151.dec=z151.F a0 a1 a2 a3 a4 a5:=by kernel_rfl
def z169.C:Ctx where
 T:=tab
 call:=λg args=>match g with|221=>z115.pack args|170=>z107.pack args|208=>z15.pack args|171=>z108.pack args|113=>z7.pack args|_=>none
def z169.dec:V->Option ((List Int)×Bool)
 |(.agg [(.ints _ .i64 x0),(.bool x1)])=>some (x0,x1)
 |_=>none
theorem z169.link (a0:List Int) (a1:Bool) (a2:List Int) (a3:Int):z169.C.evTop 155 (ifun Tryz.f155) [(.agg [(.ints false .i64 a0),(.bool a1),(.ints false .i64 a2)]),(.int .i64 a3)] z169.dec=z169.F a0 a1 a2 a3:=by kernel_rfl
def z188.C:Ctx where
 T:=tab
 call:=λg args=>match g with|38=>z76.pack args|69=>z48.pack args|176=>z71.pack args|89=>z152.pack args|_=>none
def z188.dec:V->Option ((List Int)×Bool×(List Int)×Int)
 |(.tup [(.agg [(.ints _ .u64 x0),(.bool x1),(.ints _ .u64 x2)]),(.int .i64 x3)])=>some (x0,x1,x2,x3)
 |_=>none
theorem z188.link (a0:List UInt8) (a1:Int):z188.C.evTop 88 (ifun Tryz.f88) [(.str a0),(.int .i64 a1)] z188.dec=z188.F a0 a1:=by kernel_rfl
def z195.C:Ctx where
 T:=tab
 call:=λg args=>match g with|36=>z46.pack args|87=>z193.pack args|236=>z194.pack args|_=>none
def z195.dec:V->Option ((List Int)×Bool×Int)
 |(.tup [(.agg [(.ints _ .u64 x0),(.bool x1)]),(.int .i64 x2)])=>some (x0,x1,x2)
 |_=>none
theorem z195.link (a0 a1:List UInt8) (a2 a3 a4 a5 a6 a7 a8 a9:Int):z195.C.evTop 173 (ifun Tryz.f173) [(.agg [(.str a0),(.str a1),(.int .i64 a2),(.int .i64 a3),(.int .i64 a4),(.int .i64 a5),(.int .i64 a6),(.int .i64 a7),(.int .i64 a8),(.int .i64 a9)])] z195.dec=z195.F a0 a1 a2 a3 a4 a5 a6 a7 a8 a9:=by kernel_rfl
def z199.C:Ctx where
 T:=tab
def z199.dec:V->Option ((List UInt8)×(List UInt8)×Int×Int×Int×Int×Int×Int×Int×Int)
 |(.agg [(.str x0),(.str x1),(.int .i64 x2),(.int .i64 x3),(.int .i64 x4),(.int .i64 x5),(.int .i64 x6),(.int .i64 x7),(.int .i64 x8),(.int .i64 x9)])=>some (x0,x1,x2,x3,x4,x5,x6,x7,x8,x9)
 |_=>none
theorem z199.link:z199.C.evTop 169 (ifun Tryz.f169) [] z199.dec=z199.F:=by kernel_rfl
def z201.C:Ctx where
 T:=tab
 draws:=λf i=>match f,i with|18,1=>([(13,[(1,0)],0),(14,[(12,1)],1),(15,[(1,0)],0),(16,[(14,3)],4),(4,[],0),(5,[],0),(0,[(3,5),(13,2)],51),(0,[(4,6),(15,4)],127)],61464)|18,4=>([(24,[(6,0)],0),(25,[(23,1)],1),(26,[(5,0)],0),(27,[(3,0)],0),(28,[(4,0)],0),(29,[(24,2),(25,3),(26,4),(27,5)],31),(23,[(28,6)],63),(30,[(22,7)],127),(31,[(22,7)],127),(8,[],0),(0,[(7,10),(29,8)],767),(9,[(30,9)],2047)],2143289728)|18,10=>([(46,[(8,0)],0),(47,[(9,0)],0),(48,[(45,1),(46,2)],3),(49,[(47,3)],7),(50,[(8,0),(48,4)],15),(51,[(49,5),(48,4)],31),(52,[(50,6),(48,4)],63),(53,[(7,0),(51,7)],127),(54,[(52,8),(51,7)],255),(55,[(53,9),(51,7)],511),(56,[(51,7),(54,10),(48,4)],1023),(57,[(48,4),(55,11)],2047),(58,[(56,12)],4095),(59,[(8,0),(57,13)],8191),(60,[(58,14),(57,13)],16383),(61,[(59,15),(57,13)],32767),(62,[(4,0),(60,16)],65535),(63,[(61,17),(60,16)],131071),(64,[(3,0),(60,16)],65535),(65,[(63,19),(60,16)],327679),(66,[(62,18),(64,20),(60,16)],1048575),(67,[(65,21),(60,16)],2097151),(68,[(60,16),(66,22),(57,13)],4194303),(69,[(67,23),(57,13)],8388607),(70,[(7,0),(68,24)],16777215),(71,[(69,25),(68,24)],33554431),(72,[(6,0),(68,24)],16777215),(73,[(71,27),(68,24)],134217727),(74,[(5,0),(68,24)],16777215),(75,[(3,0),(68,24)],16777215),(76,[(4,0),(68,24)],16777215),(77,[(72,28),(73,29),(74,30),(75,31),(68,24)],2147483647),(78,[(76,32),(68,24)],4294967295),(79,[(70,26),(77,33),(68,24)],8589934591),(80,[(68,24),(78,34),(57,13)],17179869183),(81,[(57,13),(79,35)],34359738367)],2417851639194073977323520)|18,12=>([(83,[(6,0)],0),(84,[(82,1)],1),(85,[],0),(86,[(3,0)],0),(87,[(4,0)],0),(88,[(83,2),(84,3),(85,4),(86,5)],31),(82,[(87,6)],63),(89,[(81,7)],127),(90,[(81,7)],127),(11,[],0),(0,[(10,10),(88,8)],767),(12,[(89,9)],2047)],1235522187646151016549714944)|_,_=>([],0)
 call:=λg args=>match g with|43=>z18.pack args|69=>z48.pack args|79=>z185.pack args|80=>z126.pack args|81=>z132.pack args|28=>z20.pack args|25=>z135.pack args|60=>z9.pack args|82=>z186.pack args|26=>z6.pack args|83=>z200.pack args|_=>none
def z201.dec:V->Option (Bool)
 |(.bool x0)=>some x0
 |_=>none
theorem z201.link (a0 a1 a2 a3 a4 a5 a6 a7 a8 a9 a10 a11 a12 a13 a14 a15 a16 a17 a18:Int):z201.C.evTop 18 (ifun Tryz.f18) [(.agg [(.int .u64 a0),(.int .u16 a1),(.int .u32 a2),(.int .u8 a3),(.int .u8 a4),(.int .u8 a5),(.int .u8 a6),(.int .u8 a7),(.int .u8 a8),(.int .i64 a9),(.int .i64 a10),(.int .i64 a11),(.int .i64 a12),(.int .i64 a13),(.int .i64 a14),(.int .i64 a15),(.int .i64 a16),(.int .i64 a17),(.int .i64 a18)])] z201.dec=z201.F a0 a1 a2 a3 a4 a5 a6 a7 a8 a9 a10 a11 a12 a13 a14 a15 a16 a17 a18:=by kernel_rfl
end
noncomputable section
def z5.l2sh:Env×Store:=((.ints false .i64 []) :: .undef::(.str ([]:List UInt8))::(.str ([]:List UInt8))::(.int .i64 0)::(.int .i64 0)::(.int .i64 0)::un 37 [],[])
def z5.l2out0 (a:List Int) (b c:List UInt8) (d e g:Int) (o:(List UInt8)×Int×Int):X×Env×Store:=((.exit 2),Qb z5.l2sh [.li a,.s b,.s o.1,.i d,.i o.2.1,.i o.2.2])
def z5.l2pack:List Leaf->Option LPack
 |[.li a,.s b,.s c,.i d,.i e,.i g]=>some (.one _ (z5.l2 (c,e,g)) (z5.l2out0 a b c d e g))
 |_=>none
def z5.l0sh:Env×Store:=((.ints false .i64 []) :: .undef::(.str ([]:List UInt8))::(.str ([]:List UInt8))::(.int .i64 0)::un 39 [],[])
def z5.l0out0 (a:List Int) (b c:List UInt8) (d:Int) (o:(List UInt8)×Int):X×Env×Store:=((.exit 0),Qb z5.l0sh [.li a,.s b,.s o.1,.i o.2])
def z5.l0pack:List Leaf->Option LPack
 |[.li a,.s b,.s c,.i d]=>some (.one _ (z5.l0 a (c,d)) (z5.l0out0 a b c d))
 |_=>none
def z5.l4sh:Env×Store:=(.undef :: .undef::(.str ([]:List UInt8))::(.str ([]:List UInt8))::un 3 ((.int .i64 0)::un 36 []),[])
def z5.l4out0 (a b:List UInt8) (c o:Int):X×Env×Store:=((.exit 4),Qb z5.l4sh [.s a,.s b,.i o])
def z5.l4pack:List Leaf->Option LPack
 |[.s a,.s b,.i c]=>some (.one _ (z5.l4 b c) (z5.l4out0 a b c))
 |_=>none
def z5.C:Ctx where
 T:=tab
 keep:=λf i=>match f,i with|102,2=>([0,2,3,4,5,6],[],[])|102,0=>([0,2,3,4],[],[])|102,4=>([2,3,7],[],[])|_,_=>([],[],[])
 keepE:=λf i=>match f,i with|102,2=>([0,2,3,4,5,6],[],[])|102,0=>([0,2,3,4],[],[])|102,4=>([2,3,7],[],[])|_,_=>([],[],[])
 keepR:=λf i=>match f,i with|102,2=>([2],[],[2])|102,0=>([2],[],[2])|102,4=>([2],[],[2])|_,_=>([],[],[])
 L:=λf i b st=>match f,i,b with|102,2,0=>(matchSt z5.l2sh st).bind z5.l2pack|102,0,0=>(matchSt z5.l0sh st).bind z5.l0pack|102,4,0=>(matchSt z5.l4sh st).bind z5.l4pack|_,_,_=>none
def z5.dec:V->Option ((List UInt8))
 |(.str x0)=>some x0
 |_=>none
theorem z5.l2_link (R:Type) (k:Env×Store->Option R) (d:X×Env×Store->Option R) (a:List Int) (b c:List UInt8) (e g h:Int) :
  z5.C.loopP 102 2 (Qf 2 (ifun Tryz.f102).body) 0 k d (Qb z5.l2sh [.li a,.s b,.s c,.i e,.i g,.i h]) =
  z5.l2P (λx'=>k (Qb z5.l2sh [.li a,.s b,.s x'.1,.i e,.i x'.2.1,.i x'.2.2])) (λo=>d (z5.l2out0 a b c e g h o)) (c,g,h):=by kernel_rfl
theorem z5.l0_link (R:Type) (k:Env×Store->Option R) (d:X×Env×Store->Option R) (a:List Int) (b c:List UInt8) (e:Int) :
  z5.C.loopP 102 0 (Qf 0 (ifun Tryz.f102).body) 0 k d (Qb z5.l0sh [.li a,.s b,.s c,.i e]) =
  z5.l0P a (λx'=>k (Qb z5.l0sh [.li a,.s b,.s x'.1,.i x'.2])) (λo=>d (z5.l0out0 a b c e o)) (c,e):=by kernel_rfl
theorem z5.l4_link (R:Type) (k:Env×Store->Option R) (d:X×Env×Store->Option R) (a b:List UInt8) (c:Int) :
  z5.C.loopP 102 4 (Qf 4 (ifun Tryz.f102).body) 0 k d (Qb z5.l4sh [.s a,.s b,.i c]) =
  z5.l4P b (λx'=>k (Qb z5.l4sh [.s a,.s b,.i x'])) (λo=>d (z5.l4out0 a b c o)) c:=by kernel_rfl
theorem z5.link (a0:List Int):z5.C.evTop 102 (ifun Tryz.f102) [(.ints false .i64 a0)] z5.dec=z5.F a0:=by kernel_rfl
def z8.l0sh:Env×Store:=((.int .i64 0) :: .undef::(.sref 0 0)::(.sref 1 0)::un 10 [],[(.arr 0 true 3 (.ints false .i64 [])),(.arr 0 true 3 (.ints false .i64 []))])
def z8.l0out0 (a:Int) (b c:List Int) (o:Int×(List Int)):X×Env×Store:=((.exit 0),Qb z8.l0sh [.i o.1,.li b,.li o.2])
def z8.l0pack:List Leaf->Option LPack
 |[.i a,.li b,.li c]=>some (.one _ (z8.l0 (a,c)) (z8.l0out0 a b c))
 |_=>none
def z8.C:Ctx where
 T:=tab
 keep:=λf i=>match f,i with|152,0=>([0,2,3],[0,1],[])|_,_=>([],[],[])
 keepE:=λf i=>match f,i with|152,0=>([0,2,3],[0,1],[])|_,_=>([],[],[])
 keepR:=λf i=>match f,i with|152,0=>([2],[0,1],[2])|_,_=>([],[],[])
 L:=λf i b st=>match f,i,b with|152,0,0=>(matchSt z8.l0sh st).bind z8.l0pack|_,_,_=>none
def z8.dec:V->Option ((List Int))
 |(.ints _ .i64 x0)=>some x0
 |_=>none
theorem z8.l0_link (R:Type) (k:Env×Store->Option R) (d:X×Env×Store->Option R) (a:Int) (b c:List Int) :
  z8.C.loopP 152 0 (Qf 0 (ifun Tryz.f152).body) 2 k d (Qb z8.l0sh [.i a,.li b,.li c]) =
  z8.l0P (λx'=>k (Qb z8.l0sh [.i x'.1,.li b,.li x'.2])) (λo=>d (z8.l0out0 a b c o)) (a,c):=by kernel_rfl
theorem z8.link (a0:Int):z8.C.evTop 152 (ifun Tryz.f152) [(.int .i64 a0)] z8.dec=z8.F a0:=by kernel_rfl
def z11.C:Ctx where
 T:=tab
 call:=λg args=>match g with|219=>z10.pack args|_=>none
def z11.dec:V->Option (Int)
 |(.int .i64 x0)=>some x0
 |_=>none
theorem z11.link (a0 a1:Int):z11.C.evTop 153 (ifun Tryz.f153) [(.int .i64 a0),(.int .i64 a1)] z11.dec=z11.F a0 a1:=by kernel_rfl
def z92.l0sh:Env×Store:=(.undef::(.int .i64 0)::(.int .i64 0)::(.ptr 0 0) :: .undef :: .undef::(.sref 1 0)::(.int .i64 0) :: .undef::(.sref 2 0)::(.int .i64 0)::un 39 [],[(.cells 41 [(.int .i64 0),(.int .i64 0),(.int .i64 0)]),(.arr 0 true 41 (.recs false 3 [])),(.arr 0 true 41 (.recs false 3 []))])
def z92.l0so1:Env×Store:=(un 6 ((.recs false 3 [])::(.int .i64 0)::un 42 []),[(.cells 41 [(.int .i64 0),(.int .i64 0),(.int .i64 0)]),(.arr 0 true 41 (.recs false 3 [])),(.arr 0 true 41 (.recs false 3 []))])
def z92.l0out0 (a b c d e g h:Int) (j k:List (List V)) (o:Int×(List (List V))):X×Env×Store:=((.exit 0),Qb z92.l0sh [.i a,.i b,.i c,.i o.1,.i e,.i g,.i h,.lr j,.lr o.2])
def z92.l0out1 (a b c d e g h:Int) (j k:List (List V)) (o:(List (List V))×Int×(List (List V))):X×Env×Store:=(.ret,Qb z92.l0so1 [.lr o.1,.i o.2.1,.i e,.i g,.i h,.lr j,.lr o.2.2])
def z92.l0pack:List Leaf->Option LPack
 |[.i a,.i b,.i c,.i d,.i e,.i g,.i h,.lr j,.lr k]=>some (.two _ _ (z92.l0 a b e g h (d,k)) (z92.l0out0 a b c d e g h j k) (z92.l0out1 a b c d e g h j k))
 |_=>none
def z92.C:Ctx where
 T:=tab
 call:=λg args=>match g with|142=>z89.pack args|134=>z90.pack args|_=>none
 keep:=λf i=>match f,i with|138,0=>([1,2,3,6,7,9,10],[0,1,2],[])|_,_=>([],[],[])
 keepE:=λf i=>match f,i with|138,0=>([1,2,3,6,7,9,10],[0,1,2],[])|_,_=>([],[],[])
 keepR:=λf i=>match f,i with|138,0=>([6,7],[0,1,2],[6,7])|_,_=>([],[],[])
 L:=λf i b st=>match f,i,b with|138,0,0=>(matchSt z92.l0sh st).bind z92.l0pack|_,_,_=>none
def z92.dec:V->Option ((List (List V))×Int)
 |(.tup [(.recs _ 3 x0),(.int .i64 x1)])=>some (x0,x1)
 |_=>none
theorem z92.l0_link (R:Type) (k:Env×Store->Option R) (d:X×Env×Store->Option R) (a b c e g h j:Int) (m n:List (List V)) :
  z92.C.loopP 138 0 (Qf 0 (ifun Tryz.f138).body) 3 k d (Qb z92.l0sh [.i a,.i b,.i c,.i e,.i g,.i h,.i j,.lr m,.lr n]) =
  z92.l0P a b g h j (λx'=>k (Qb z92.l0sh [.i a,.i b,.i c,.i x'.1,.i g,.i h,.i j,.lr m,.lr x'.2])) (λo=>match o with | .inl o=>d (z92.l0out0 a b c e g h j m n o) | .inr o=>d (z92.l0out1 a b c e g h j m n o)) (e,n):=by kernel_rfl
theorem z92.link (a0 a1 a2 a3 a4:Int):z92.C.evTop 138 (ifun Tryz.f138) [(.agg [(.int .i64 a0),(.int .i64 a1),(.int .i64 a2)]),(.int .i64 a3),(.int .i64 a4)] z92.dec=z92.F a0 a1 a2 a3 a4:=by kernel_rfl
def z97.C:Ctx where
 T:=tab
def z97.dec:V->Option (Int)
 |(.int .i64 x0)=>some x0
 |_=>none
theorem z97.link (a0:Int):z97.C.evTop 211 (ifun Tryz.f211) [(.int .i64 a0)] z97.dec=z97.F a0:=by kernel_rfl
def z106.C:Ctx where
 T:=tab
 call:=λg args=>match g with|113=>z7.pack args|_=>none
def z106.dec:V->Option ((List Int)×Bool)
 |(.agg [(.ints _ .i64 x0),(.bool x1)])=>some (x0,x1)
 |_=>none
theorem z106.link (a0:List Int) (a1:Bool):z106.C.evTop 35 (ifun Tryz.f35) [(.agg [(.ints false .i64 a0),(.bool a1)])] z106.dec=z106.F a0 a1:=by kernel_rfl
def z109.l0sh:Env×Store:=((.ints false .i64 [])::(.ints false .i64 []) :: .undef :: .undef::(.sref 0 0)::(.sref 1 0)::(.int .i64 0)::(.int .i64 0)::un 29 [],[(.arr 0 true 3 (.ints false .i64 [])),(.arr 0 true 3 (.ints false .i64 []))])
def z109.l0out0 (a b:List Int) (c d:Int) (e g:List Int) (o:Int×Int×(List Int)):X×Env×Store:=((.exit 0),Qb z109.l0sh [.li a,.li b,.i o.1,.i o.2.1,.li e,.li o.2.2])
def z109.l0pack:List Leaf->Option LPack
 |[.li a,.li b,.i c,.i d,.li e,.li g]=>some (.one _ (z109.l0 a b (c,d,g)) (z109.l0out0 a b c d e g))
 |_=>none
def z109.C:Ctx where
 T:=tab
 call:=λg args=>match g with|234=>z13.pack args|235=>z14.pack args|_=>none
 keep:=λf i=>match f,i with|172,0=>([0,1,4,5,6,7],[0,1],[])|_,_=>([],[],[])
 keepE:=λf i=>match f,i with|172,0=>([0,1,4,5,6,7],[0,1],[])|_,_=>([],[],[])
 keepR:=λf i=>match f,i with|172,0=>([4],[0,1],[4])|_,_=>([],[],[])
 L:=λf i b st=>match f,i,b with|172,0,0=>(matchSt z109.l0sh st).bind z109.l0pack|_,_,_=>none
def z109.dec:V->Option ((List Int))
 |(.ints _ .i64 x0)=>some x0
 |_=>none
theorem z109.l0_link (R:Type) (k:Env×Store->Option R) (d:X×Env×Store->Option R) (a b:List Int) (c e:Int) (g h:List Int) :
  z109.C.loopP 172 0 (Qf 0 (ifun Tryz.f172).body) 2 k d (Qb z109.l0sh [.li a,.li b,.i c,.i e,.li g,.li h]) =
  z109.l0P a b (λx'=>k (Qb z109.l0sh [.li a,.li b,.i x'.1,.i x'.2.1,.li g,.li x'.2.2])) (λo=>d (z109.l0out0 a b c e g h o)) (c,e,h):=by kernel_rfl
theorem z109.link (a0 a1:List Int):z109.C.evTop 172 (ifun Tryz.f172) [(.ints false .i64 a0),(.ints false .i64 a1)] z109.dec=z109.F a0 a1:=by kernel_rfl
def z112.C:Ctx where
 T:=tab
def z112.dec:V->Option (Int)
 |(.int .i64 x0)=>some x0
 |_=>none
theorem z112.link (a0:List Int) (a1:Bool):z112.C.evTop 197 (ifun Tryz.f197) [(.agg [(.ints false .i64 a0),(.bool a1)])] z112.dec=z112.F a0 a1:=by kernel_rfl
def z113.C:Ctx where
 T:=tab
 call:=λg args=>match g with|63=>z111.pack args|197=>z112.pack args|_=>none
def z113.dec:V->Option (Int)
 |(.int .i64 x0)=>some x0
 |_=>none
theorem z113.link (a0:List Int) (a1:Bool) (a2:List Int) (a3:Bool):z113.C.evTop 117 (ifun Tryz.f117) [(.agg [(.ints false .i64 a0),(.bool a1)]),(.agg [(.ints false .i64 a2),(.bool a3)])] z113.dec=z113.F a0 a1 a2 a3:=by kernel_rfl
def z152.C:Ctx where
 T:=tab
 draws:=λf i=>match f,i with|89,1=>([(6,[(2,0)],0),(7,[(5,1)],1),(8,[(3,0)],0),(9,[(7,3)],4),(10,[(6,2),(8,4)],15),(11,[(2,0)],0),(12,[(10,6)],63),(13,[(3,0)],0),(14,[(12,8)],255),(15,[(11,7),(13,9)],511),(16,[(9,5),(14,10)],1023),(0,[(4,0),(15,11)],2047)],65504)|_,_=>([],0)
 call:=λg args=>match g with|156=>z54.pack args|130=>z73.pack args|164=>z40.pack args|163=>z70.pack args|_=>none
def z152.dec:V->Option ((List Int)×Bool×(List Int))
 |(.agg [(.ints _ .u64 x0),(.bool x1),(.ints _ .u64 x2)])=>some (x0,x1,x2)
 |_=>none
theorem z152.link (a0:List Int) (a1:Bool) (a2 a3:List Int) (a4:Bool) (a5:List Int):z152.C.evTop 89 (ifun Tryz.f89) [(.agg [(.ints false .u64 a0),(.bool a1),(.ints false .u64 a2)]),(.agg [(.ints false .u64 a3),(.bool a4),(.ints false .u64 a5)])] z152.dec=z152.F a0 a1 a2 a3 a4 a5:=by kernel_rfl
def z154.C:Ctx where
 T:=tab
 call:=λg args=>match g with|230=>z153.pack args|_=>none
def z154.dec:V->Option ((List Int)×Bool×(List Int))
 |(.agg [(.ints _ .u64 x0),(.bool x1),(.ints _ .u64 x2)])=>some (x0,x1,x2)
 |_=>none
theorem z154.link (a0 a1 a2 a3 a4 a5:Int):z154.C.evTop 229 (ifun Tryz.f229) [(.agg [(.int .i64 a0),(.int .i64 a1),(.int .i64 a2)]),(.agg [(.int .i64 a3),(.int .i64 a4),(.int .i64 a5)])] z154.dec=z154.F a0 a1 a2 a3 a4 a5:=by kernel_rfl
def z156.C:Ctx where
 T:=tab
 call:=λg args=>match g with|65=>z155.pack args|_=>none
def z156.dec:V->Option (Int)
 |(.int .i64 x0)=>some x0
 |_=>none
theorem z156.link (a0 a1 a2 a3 a4 a5:Int):z156.C.evTop 231 (ifun Tryz.f231) [(.agg [(.int .i64 a0),(.int .i64 a1),(.int .i64 a2)]),(.agg [(.int .i64 a3),(.int .i64 a4),(.int .i64 a5)])] z156.dec=z156.F a0 a1 a2 a3 a4 a5:=by kernel_rfl
def z157.C:Ctx where
 T:=tab
 call:=λg args=>match g with|259=>z87.pack args|_=>none
def z157.dec:V->Option (Int)
 |(.int .i64 x0)=>some x0
 |_=>none
theorem z157.link (a0:Int):z157.C.evTop 269 (ifun Tryz.f269) [(.int .i64 a0)] z157.dec=z157.F a0:=by kernel_rfl
def z158.C:Ctx where
 T:=tab
 draws:=λf i=>match f,i with|232,2=>([(13,[(2,0)],0),(14,[(3,0)],0),(15,[(12,1),(13,2)],3),(16,[(2,0)],0),(17,[(15,4)],8),(18,[(16,5)],31),(19,[(14,3),(17,6)],63),(0,[(4,0),(18,7)],127)],520192)|232,5=>([(31,[(5,0)],0),(32,[(2,0)],0),(33,[(31,2)],2),(34,[(32,3)],6),(35,[(30,1),(33,4)],15),(36,[(3,0)],0),(37,[(35,6)],32),(38,[(2,0)],0),(39,[(37,8)],128),(40,[(36,7),(38,9)],480),(41,[(39,10)],992),(42,[(40,11)],2047),(43,[(34,5),(41,12)],4095),(44,[(6,0)],0),(45,[(3,0)],0),(46,[(44,15)],16384),(47,[(45,16)],57343),(48,[(43,14),(46,17)],131071),(49,[(42,13),(47,18)],262143),(0,[(4,0),(48,19)],524287)],562948879679488)|_,_=>([],0)
 call:=λg args=>match g with|231=>z156.pack args|269=>z157.pack args|230=>z153.pack args|78=>z151.pack args|_=>none
def z158.dec:V->Option ((List Int)×Bool×(List Int))
 |(.agg [(.ints _ .u64 x0),(.bool x1),(.ints _ .u64 x2)])=>some (x0,x1,x2)
 |_=>none
theorem z158.link (a0 a1 a2 a3 a4 a5:Int):z158.C.evTop 232 (ifun Tryz.f232) [(.agg [(.int .i64 a0),(.int .i64 a1),(.int .i64 a2)]),(.agg [(.int .i64 a3),(.int .i64 a4),(.int .i64 a5)])] z158.dec=z158.F a0 a1 a2 a3 a4 a5:=by kernel_rfl
def z185.C:Ctx where
 T:=tab
 draws:=λf i=>match f,i with|79,8=>([(40,[(4,0)],0),(41,[(39,1)],1),(42,[(13,0)],0),(43,[(40,2),(41,3)],7),(44,[(11,0)],0),(45,[(42,4),(43,5)],31),(46,[(5,0)],0),(47,[(45,7)],64),(48,[(44,6),(46,8)],255),(49,[(47,9)],511),(50,[(47,9)],511),(0,[(8,0),(48,10)],2047),(10,[(49,11)],4095)],1125350151029248)|_,_=>([],0)
 call:=λg args=>match g with|44=>z91.pack args|165=>z159.pack args|38=>z76.pack args|68=>z47.pack args|89=>z152.pack args|150=>z150.pack args|_=>none
def z185.dec:V->Option ((List Int)×Bool×Int)
 |(.tup [(.agg [(.ints _ .u64 x0),(.bool x1)]),(.int .i64 x2)])=>some (x0,x1,x2)
 |_=>none
theorem z185.link (a0:List Int) (a1:Bool) (a2 a3:List UInt8) (a4 a5 a6 a7 a8 a9 a10 a11 a12 a13 a14 a15 a16 a17:Int):z185.C.evTop 79 (ifun Tryz.f79) [(.agg [(.ints false .u64 a0),(.bool a1)]),(.agg [(.str a2),(.str a3),(.int .i64 a4),(.int .i64 a5),(.int .i64 a6),(.int .i64 a7),(.int .i64 a8),(.int .i64 a9),(.int .i64 a10),(.int .i64 a11)]),(.agg [(.int .i64 a12),(.int .i64 a13),(.int .i64 a14)]),(.agg [(.int .i64 a15),(.int .i64 a16),(.int .i64 a17)])] z185.dec=z185.F a0 a1 a2 a3 a4 a5 a6 a7 a8 a9 a10 a11 a12 a13 a14 a15 a16 a17:=by kernel_rfl
def z187.l0sh:Env×Store:=(.undef :: .undef::(.ptr 0 0)::(.ptr 1 0)::(.int .i64 0)::(.ptr 2 0)::(.ptr 3 0)::un 5 ((.recs false 8 [])::(.int .i64 0)::(.int .i64 0)::un 34 []),[(.cells 39 [(.ints false .u64 []),(.bool false)]),(.cells 39 [(.ints false .u64 []),(.bool false)]),(.cells 39 [(.ints false .u64 []),(.bool false)]),(.cells 39 [(.ints false .u64 []),(.bool false)])])
def z187.l0so1:Env×Store:=(.undef :: .undef::(.ptr 0 0)::(.ptr 1 0)::(.int .i64 0)::un 44 [],[(.cells 39 [(.ints false .u64 []),(.bool false)]),(.cells 39 [(.ints false .u64 []),(.bool false)]),(.cells 39 [(.ints false .u64 []),(.bool false)]),(.cells 39 [(.ints false .u64 []),(.bool false)])])
def z187.l0out0 (a:Int) (c:List (List V)) (d e:Int) (g:List Int) (h:Bool) (j:List Int) (k:Bool) (m:List Int) (n:Bool) (p:List Int) (q:Bool) (o:Int×(List Int)×Bool×(List Int)×Bool):X×Env×Store:=((.exit 0),Qb z187.l0sh [.i a,.lr c,.i d,.i o.1,.li g,.b h,.li j,.b k,.li o.2.1,.b o.2.2.1,.li o.2.2.2.1,.b o.2.2.2.2])
def z187.l0out1 (a:Int) (c:List (List V)) (d e:Int) (g:List Int) (h:Bool) (j:List Int) (k:Bool) (m:List Int) (n:Bool) (p:List Int) (q:Bool) (o:Int×(List Int)×Bool×(List Int)×Bool×(List Int)×Bool×(List Int)×Bool):X×Env×Store:=(.ret,Qb z187.l0so1 [.i o.1,.li o.2.1,.b o.2.2.1,.li o.2.2.2.1,.b o.2.2.2.2.1,.li o.2.2.2.2.2.1,.b o.2.2.2.2.2.2.1,.li o.2.2.2.2.2.2.2.1,.b o.2.2.2.2.2.2.2.2])
def z187.l0pack:List Leaf->Option LPack
 |[.i a,.lr c,.i d,.i e,.li g,.b h,.li j,.b k,.li m,.b n,.li o,.b p]=>some (.two _ _ (z187.l0 c d (e,m,n,o,p)) (z187.l0out0 a c d e g h j k m n o p) (z187.l0out1 a c d e g h j k m n o p))
 |_=>none
def z187.C:Ctx where
 T:=tab
 draws:=λf i=>match f,i with|84,11=>([(41,[(5,0)],0),(42,[(9,0)],0),(43,[(40,1),(41,2)],3),(44,[(6,0)],0),(45,[(11,0)],0),(46,[(43,4),(44,5)],31),(0,[(5,0),(42,3)],63),(0,[(6,0),(45,6)],127)],69269232549888)|84,13=>([(48,[(5,0)],0),(49,[(6,0)],0),(0,[(2,0),(47,1)],1),(0,[(3,0),(48,2)],7),(5,[],15)],422212465066000)|_,_=>([],0)
 call:=λg args=>match g with|36=>z46.pack args|24=>z31.pack args|_=>none
 keep:=λf i=>match f,i with|84,0=>([2,3,4,5,6,12,13,14],[0,1,2,3],[])|_,_=>([],[],[])
 keepE:=λf i=>match f,i with|84,0=>([2,3,4,5,6,12,13,14],[0,1,2,3],[])|_,_=>([],[],[])
 keepR:=λf i=>match f,i with|84,0=>([2,3,4],[0,1,2,3],[2,3,4])|_,_=>([],[],[])
 L:=λf i b st=>match f,i,b with|84,0,0=>(matchSt z187.l0sh st).bind z187.l0pack|_,_,_=>none
def z187.dec:V->Option ((List Int)×Bool×(List Int)×Bool×Int)
 |(.tup [(.agg [(.ints _ .u64 x0),(.bool x1)]),(.agg [(.ints _ .u64 x2),(.bool x3)]),(.int .i64 x4)])=>some (x0,x1,x2,x3,x4)
 |_=>none
theorem z187.l0_link (R:Type) (k:Env×Store->Option R) (d:X×Env×Store->Option R) (a:Int) (c:List (List V)) (e g:Int) (h:List Int) (j:Bool) (m:List Int) (n:Bool) (p:List Int) (q:Bool) (r:List Int) (s:Bool) :
  z187.C.loopP 84 0 (Qf 0 (ifun Tryz.f84).body) 4 k d (Qb z187.l0sh [.i a,.lr c,.i e,.i g,.li h,.b j,.li m,.b n,.li p,.b q,.li r,.b s]) =
  z187.l0P c e (λx'=>k (Qb z187.l0sh [.i a,.lr c,.i e,.i x'.1,.li h,.b j,.li m,.b n,.li x'.2.1,.b x'.2.2.1,.li x'.2.2.2.1,.b x'.2.2.2.2])) (λo=>match o with | .inl o=>d (z187.l0out0 a c e g h j m n p q r s o) | .inr o=>d (z187.l0out1 a c e g h j m n p q r s o)) (g,p,q,r,s):=by kernel_rfl
theorem z187.link (a0:List (List V)):z187.C.evTop 84 (ifun Tryz.f84) [(.recs false 8 a0)] z187.dec=z187.F a0:=by kernel_rfl
def z189.C:Ctx where
 T:=tab
 call:=λg args=>match g with|104=>z19.pack args|280=>z61.pack args|_=>none
def z189.dec:V->Option (Int)
 |(.int .i64 x0)=>some x0
 |_=>none
theorem z189.link (a0:List Int):z189.C.evTop 270 (ifun Tryz.f270) [(.agg [(.ints false .u64 a0)])] z189.dec=z189.F a0:=by kernel_rfl
def z190.C:Ctx where
 T:=tab
 call:=λg args=>match g with|270=>z189.pack args|247=>z43.pack args|_=>none
def z190.dec:V->Option ((List Int)×Int)
 |(.tup [(.agg [(.ints _ .u64 x0)]),(.int .i64 x1)])=>some (x0,x1)
 |_=>none
theorem z190.link (a0:List Int) (a1:Int):z190.C.evTop 238 (ifun Tryz.f238) [(.agg [(.ints false .u64 a0)]),(.int .i64 a1)] z190.dec=z190.F a0 a1:=by kernel_rfl
def z192.C:Ctx where
 T:=tab
 draws:=λf i=>match f,i with|175,6=>([(35,[(3,0)],0),(36,[(2,0)],0),(37,[(35,2)],2),(38,[(36,3)],6),(39,[(34,1),(37,4)],15),(40,[(38,5)],31),(41,[(38,5)],31),(0,[(6,0),(39,6)],127),(8,[(40,7)],255)],2181843386496)|175,8=>([(44,[(4,0)],0),(45,[(43,1)],1),(46,[(44,2)],3),(47,[(8,0)],0),(48,[(45,3),(46,4)],15),(10,[],0),(0,[(9,6),(47,5)],63)],272678883688960)|175,14=>([(74,[(3,0)],0),(75,[(73,1)],1),(76,[(4,0)],0),(77,[(75,3)],7),(78,[(74,2),(76,4)],15),(79,[(10,0)],0),(80,[(78,6)],63),(81,[(77,5),(79,7)],127),(17,[],0),(0,[(16,9),(80,8)],511)],2408406906263519059050496)|175,15=>([(82,[(16,0)],0),(83,[(3,0)],0),(84,[(82,2)],2),(85,[(8,0)],0),(86,[(83,3),(84,4)],14),(87,[(14,0)],0),(88,[(85,5),(86,6)],62),(89,[(87,7)],126),(90,[(81,1),(88,8)],255),(91,[(89,9)],511),(92,[(89,9)],511),(0,[(6,0),(90,10)],2047),(8,[(91,11)],4095)],4949342305502291841247084672)|_,_=>([],0)
 call:=λg args=>match g with|71=>z147.pack args|69=>z48.pack args|68=>z47.pack args|124=>z75.pack args|130=>z73.pack args|216=>z148.pack args|92=>z59.pack args|99=>z24.pack args|238=>z190.pack args|100=>z30.pack args|156=>z54.pack args|239=>z191.pack args|164=>z40.pack args|176=>z71.pack args|_=>none
def z192.dec:V->Option ((List Int)×Bool×(List Int)×Int)
 |(.tup [(.agg [(.ints _ .u64 x0),(.bool x1),(.ints _ .u64 x2)]),(.int .i64 x3)])=>some (x0,x1,x2,x3)
 |_=>none
theorem z192.link (a0:List Int) (a1:Bool) (a2 a3:List Int) (a4:Bool) (a5:List Int) (a6:Int):z192.C.evTop 175 (ifun Tryz.f175) [(.agg [(.ints false .u64 a0),(.bool a1),(.ints false .u64 a2)]),(.agg [(.ints false .u64 a3),(.bool a4),(.ints false .u64 a5)]),(.int .i64 a6)] z192.dec=z192.F a0 a1 a2 a3 a4 a5 a6:=by kernel_rfl
def z194.C:Ctx where
 T:=tab
 draws:=λf i=>match f,i with|236,5=>([(25,[(3,0)],0),(26,[(1,0)],0),(27,[(25,2)],2),(28,[(24,1),(26,3)],7),(24,[(27,4)],15),(29,[(23,5)],31),(30,[(23,5)],31),(9,[],0),(0,[(8,8),(28,6)],191),(10,[(29,7)],511)],1065353984)|_,_=>([],0)
 call:=λg args=>match g with|28=>z20.pack args|69=>z48.pack args|176=>z71.pack args|150=>z150.pack args|_=>none
def z194.dec:V->Option ((List Int)×Bool×Int)
 |(.tup [(.agg [(.ints _ .u64 x0),(.bool x1)]),(.int .i64 x2)])=>some (x0,x1,x2)
 |_=>none
theorem z194.link (a0:List Int) (a1:Bool) (a2 a3:Int):z194.C.evTop 236 (ifun Tryz.f236) [(.agg [(.ints false .u64 a0),(.bool a1)]),(.int .i64 a2),(.int .i64 a3)] z194.dec=z194.F a0 a1 a2 a3:=by kernel_rfl
def z196.C:Ctx where
 T:=tab
 call:=λg args=>match g with|74=>z34.pack args|_=>none
 meth:=λt m=>if t=39/\m = "Cmp" then some 74 else none
def z196.dec:V->Option ((List Int)×Bool)
 |(.agg [(.ints _ .u64 x0),(.bool x1)])=>some (x0,x1)
 |_=>none
theorem z196.link (a0:List Int) (a1:Bool) (a2:List Int) (a3:Bool):z196.C.evTop 237 (ifun Tryz.f237) [(.agg [(.ints false .u64 a0),(.bool a1)]),(.agg [(.ints false .u64 a2),(.bool a3)])] z196.dec=z196.F a0 a1 a2 a3:=by kernel_rfl
def z198.l0sh:Env×Store:=(.undef::(.ptr 0 0)::(.sref 1 0)::(.int .i64 0)::(.recs false 6 []) :: .undef::(.ptr 2 0)::(.ptr 3 0) :: .undef::(.sref 4 0)::un 28 ((.recs false 6 [])::(.int .i64 0)::(.int .i64 0)::un 53 []),[(.cells 78 [(.str ([]:List UInt8)),(.str ([]:List UInt8)),(.int .i64 0),(.int .i64 0),(.int .i64 0),(.int .i64 0),(.int .i64 0),(.int .i64 0),(.int .i64 0),(.int .i64 0)]),(.arr 0 true 166 (.recs false 8 [])),(.cells 39 [(.ints false .u64 []),(.bool false)]),(.cells 39 [(.ints false .u64 []),(.bool false)]),(.arr 0 true 166 (.recs false 8 []))])
def z198.l0so1:Env×Store:=(.undef :: .undef::(.recs false 8 [])::(.int .i64 0)::un 90 [],[(.cells 78 [(.str ([]:List UInt8)),(.str ([]:List UInt8)),(.int .i64 0),(.int .i64 0),(.int .i64 0),(.int .i64 0),(.int .i64 0),(.int .i64 0),(.int .i64 0),(.int .i64 0)]),(.arr 0 true 166 (.recs false 8 [])),(.cells 39 [(.ints false .u64 []),(.bool false)]),(.cells 39 [(.ints false .u64 []),(.bool false)]),(.arr 0 true 166 (.recs false 8 []))])
def z198.l0out0 (a:Int) (c d:List (List V)) (e g:Int) (h j:List UInt8) (k m n p q r t u:Int) (v:List (List V)) (w:List Int) (x:Bool) (y:List Int) (z:Bool) (A:List (List V)) (o:Int×(List Int)×Bool×(List (List V))):X×Env×Store:=((.exit 0),Qb z198.l0sh [.i a,.lr c,.lr d,.i e,.i o.1,.s h,.s j,.i k,.i m,.i n,.i p,.i q,.i r,.i t,.i u,.lr v,.li w,.b x,.li o.2.1,.b o.2.2.1,.lr o.2.2.2])
def z198.l0out1 (a:Int) (c d:List (List V)) (e g:Int) (h j:List UInt8) (k m n p q r t u:Int) (v:List (List V)) (w:List Int) (x:Bool) (y:List Int) (z:Bool) (A:List (List V)) (o:(List (List V))×Int×(List Int)×Bool×(List (List V))):X×Env×Store:=(.ret,Qb z198.l0so1 [.lr o.1,.i o.2.1,.s h,.s j,.i k,.i m,.i n,.i p,.i q,.i r,.i t,.i u,.lr v,.li w,.b x,.li o.2.2.1,.b o.2.2.2.1,.lr o.2.2.2.2])
def z198.l0pack:List Leaf->Option LPack
 |[.i a,.lr c,.lr d,.i e,.i g,.s h,.s j,.i k,.i m,.i n,.i o,.i p,.i q,.i r,.i t,.lr u,.li v,.b w,.li x,.b y,.lr z]=>some (.two _ _ (z198.l0 c d e h j k m n o p q r t v w (g,x,y,z)) (z198.l0out0 a c d e g h j k m n o p q r t u v w x y z) (z198.l0out1 a c d e g h j k m n o p q r t u v w x y z))
 |_=>none
def z198.C:Ctx where
 T:=tab
 draws:=λf i=>match f,i with|86,19=>([(74,[(9,19)],0),(75,[(11,0)],0),(76,[(74,2)],2),(77,[(7,0)],0),(78,[(76,4)],8),(79,[(12,0)],0),(80,[(78,6)],56),(81,[(14,0)],0),(82,[(80,8)],248),(83,[(12,0)],0),(84,[(14,0)],0),(85,[(82,10),(83,11)],2040),(86,[(84,12)],4088),(87,[(15,0)],0),(88,[(86,14)],16376),(89,[(75,3),(77,5),(79,7),(81,9),(85,13),(87,15)],32766),(90,[(88,16)],65534),(91,[(73,1),(89,17)],131071),(10,[(90,18)],262143)],2475870633837794810507821568)|_,_=>([],0)
 call:=λg args=>match g with|49=>z94.pack args|173=>z195.pack args|36=>z46.pack args|79=>z185.pack args|174=>z197.pack args|90=>z33.pack args|25=>z135.pack args|24=>z31.pack args|_=>none
 keep:=λf i=>match f,i with|86,0=>([1,2,3,4,6,7,9,38,39,40],[0,1,2,3,4],[])|_,_=>([],[],[])
 keepE:=λf i=>match f,i with|86,0=>([1,2,3,4,6,7,9,38,39,40],[0,1,2,3,4],[])|_,_=>([],[],[])
 keepR:=λf i=>match f,i with|86,0=>([2,3],[0,1,2,3,4],[2,3])|_,_=>([],[],[])
 L:=λf i b st=>match f,i,b with|86,0,0=>(matchSt z198.l0sh st).bind z198.l0pack|_,_,_=>none
def z198.dec:V->Option ((List (List V))×Int)
 |(.tup [(.recs _ 8 x0),(.int .i64 x1)])=>some (x0,x1)
 |_=>none
theorem z198.l0_link (R:Type) (k:Env×Store->Option R) (d:X×Env×Store->Option R) (a:Int) (c e:List (List V)) (g h:Int) (j m:List UInt8) (n p q r t u v w:Int) (x:List (List V)) (y:List Int) (z:Bool) (A:List Int) (B:Bool) (D:List (List V)) :
  z198.C.loopP 86 0 (Qf 0 (ifun Tryz.f86).body) 5 k d (Qb z198.l0sh [.i a,.lr c,.lr e,.i g,.i h,.s j,.s m,.i n,.i p,.i q,.i r,.i t,.i u,.i v,.i w,.lr x,.li y,.b z,.li A,.b B,.lr D]) =
  z198.l0P c e g j m n p q r t u v w y z (λx'=>k (Qb z198.l0sh [.i a,.lr c,.lr e,.i g,.i x'.1,.s j,.s m,.i n,.i p,.i q,.i r,.i t,.i u,.i v,.i w,.lr x,.li y,.b z,.li x'.2.1,.b x'.2.2.1,.lr x'.2.2.2])) (λo=>match o with | .inl o=>d (z198.l0out0 a c e g h j m n p q r t u v w x y z A B D o) | .inr o=>d (z198.l0out1 a c e g h j m n p q r t u v w x y z A B D o)) (h,A,B,D):=by kernel_rfl
theorem z198.link (a0 a1:List UInt8) (a2 a3 a4 a5 a6 a7 a8 a9:Int):z198.C.evTop 86 (ifun Tryz.f86) [(.agg [(.str a0),(.str a1),(.int .i64 a2),(.int .i64 a3),(.int .i64 a4),(.int .i64 a5),(.int .i64 a6),(.int .i64 a7),(.int .i64 a8),(.int .i64 a9)])] z198.dec=z198.F a0 a1 a2 a3 a4 a5 a6 a7 a8 a9:=by kernel_rfl
end
noncomputable section
def z7.C:Ctx where
 T:=tab
def z7.dec:V->Option ((List Int)×Bool)
 |(.agg [(.ints _ .i64 x0),(.bool x1)])=>some (x0,x1)
 |_=>none
theorem z7.link (a0:List Int) (a1:Bool):z7.C.evTop 113 (ifun Tryz.f113) [(.ints false .i64 a0),(.bool a1)] z7.dec=z7.F a0 a1:=by kernel_rfl
def z12.C:Ctx where
 T:=tab
 call:=λg args=>match g with|153=>z11.pack args|_=>none
def z12.dec:V->Option (Int×Int×Int)
 |(.agg [(.int .i64 x0),(.int .i64 x1),(.int .i64 x2)])=>some (x0,x1,x2)
 |_=>none
theorem z12.link (a0 a1 a2 a3:Int):z12.C.evTop 95 (ifun Tryz.f95) [(.agg [(.int .i64 a0),(.int .i64 a1),(.int .i64 a2)]),(.int .i64 a3)] z12.dec=z12.F a0 a1 a2 a3:=by kernel_rfl
def z13.C:Ctx where
 T:=tab
def z13.dec:V->Option (Int)
 |(.int .i64 x0)=>some x0
 |_=>none
theorem z13.link (a0:List Int) (a1:Int):z13.C.evTop 234 (ifun Tryz.f234) [(.ints false .i64 a0),(.int .i64 a1)] z13.dec=z13.F a0 a1:=by kernel_rfl
def z91.C:Ctx where
 T:=tab
 call:=λg args=>match g with|36=>z46.pack args|28=>z20.pack args|38=>z76.pack args|133=>z85.pack args|134=>z90.pack args|_=>none
def z91.dec:V->Option (Int)
 |(.int .i64 x0)=>some x0
 |_=>none
theorem z91.link (a0 a1:List UInt8) (a2 a3 a4 a5 a6 a7 a8 a9:Int):z91.C.evTop 44 (ifun Tryz.f44) [(.agg [(.str a0),(.str a1),(.int .i64 a2),(.int .i64 a3),(.int .i64 a4),(.int .i64 a5),(.int .i64 a6),(.int .i64 a7),(.int .i64 a8),(.int .i64 a9)])] z91.dec=z91.F a0 a1 a2 a3 a4 a5 a6 a7 a8 a9:=by kernel_rfl
def z93.C:Ctx where
 T:=tab
 call:=λg args=>match g with|44=>z91.pack args|138=>z92.pack args|_=>none
def z93.dec:V->Option ((List (List V))×Int)
 |(.tup [(.recs _ 3 x0),(.int .i64 x1)])=>some (x0,x1)
 |_=>none
theorem z93.link (a0 a1:List UInt8) (a2 a3 a4 a5 a6 a7 a8 a9:Int):z93.C.evTop 48 (ifun Tryz.f48) [(.agg [(.str a0),(.str a1),(.int .i64 a2),(.int .i64 a3),(.int .i64 a4),(.int .i64 a5),(.int .i64 a6),(.int .i64 a7),(.int .i64 a8),(.int .i64 a9)])] z93.dec=z93.F a0 a1 a2 a3 a4 a5 a6 a7 a8 a9:=by kernel_rfl
def z94.l0sh:Env×Store:=(.undef :: .undef::(.sref 1 0)::(.int .i64 0) :: .undef :: .undef::(.sref 2 0)::(.ptr 3 0)::un 12 ((.recs false 3 [])::(.int .i64 0)::(.int .i64 0)::un 12 []),[.dead,(.arr 0 true 109 (.recs false 6 [])),(.arr 0 true 109 (.recs false 6 [])),(.cells 41 [(.int .i64 0),(.int .i64 0),(.int .i64 0)])])
def z94.l0out0 (a:Int) (b:List (List V)) (c d:Int) (e g:List (List V)) (h j k:Int) (o:Int×(List (List V))×Int×Int×Int):X×Env×Store:=((.exit 0),Qb z94.l0sh [.i a,.lr b,.i c,.i o.1,.lr e,.lr o.2.1,.i o.2.2.1,.i o.2.2.2.1,.i o.2.2.2.2])
def z94.l0pack:List Leaf->Option LPack
 |[.i a,.lr b,.i c,.i d,.lr e,.lr g,.i h,.i j,.i k]=>some (.one _ (z94.l0 b c (d,g,h,j,k)) (z94.l0out0 a b c d e g h j k))
 |_=>none
def z94.C:Ctx where
 T:=tab
 call:=λg args=>match g with|48=>z93.pack args|_=>none
 keep:=λf i=>match f,i with|49,0=>([2,3,6,7,20,21,22],[1,2,3],[])|_,_=>([],[],[])
 keepE:=λf i=>match f,i with|49,0=>([2,3,6,7,20,21,22],[1,2,3],[])|_,_=>([],[],[])
 keepR:=λf i=>match f,i with|49,0=>([2,3],[1,2,3],[2,3])|_,_=>([],[],[])
 L:=λf i b st=>match f,i,b with|49,0,0=>(matchSt z94.l0sh st).bind z94.l0pack|_,_,_=>none
def z94.dec:V->Option ((List (List V))×Int)
 |(.tup [(.recs _ 6 x0),(.int .i64 x1)])=>some (x0,x1)
 |_=>none
theorem z94.l0_link (R:Type) (k:Env×Store->Option R) (d:X×Env×Store->Option R) (a:Int) (b:List (List V)) (c e:Int) (g h:List (List V)) (j m n:Int) :
  z94.C.loopP 49 0 (Qf 0 (ifun Tryz.f49).body) 4 k d (Qb z94.l0sh [.i a,.lr b,.i c,.i e,.lr g,.lr h,.i j,.i m,.i n]) =
  z94.l0P b c (λx'=>k (Qb z94.l0sh [.i a,.lr b,.i c,.i x'.1,.lr g,.lr x'.2.1,.i x'.2.2.1,.i x'.2.2.2.1,.i x'.2.2.2.2])) (λo=>d (z94.l0out0 a b c e g h j m n o)) (e,h,j,m,n):=by kernel_rfl
theorem z94.link (a0 a1:List UInt8) (a2 a3 a4 a5 a6 a7 a8 a9:Int):z94.C.evTop 49 (ifun Tryz.f49) [(.agg [(.str a0),(.str a1),(.int .i64 a2),(.int .i64 a3),(.int .i64 a4),(.int .i64 a5),(.int .i64 a6),(.int .i64 a7),(.int .i64 a8),(.int .i64 a9)])] z94.dec=z94.F a0 a1 a2 a3 a4 a5 a6 a7 a8 a9:=by kernel_rfl
def z105.l0sh:Env×Store:=((.int .i64 0) :: .undef::(.sref 0 0)::(.str ([]:List UInt8))::(.int .i64 0)::un 9 [],[(.arr 0 true 3 (.ints false .i64 []))])
def z105.l0out0 (a:Int) (b:List UInt8) (c:Int) (d:List Int) (o:(List UInt8)×Int):X×Env×Store:=((.exit 0),Qb z105.l0sh [.i a,.s o.1,.i o.2,.li d])
def z105.l0pack:List Leaf->Option LPack
 |[.i a,.s b,.i c,.li d]=>some (.one _ (z105.l0 a (b,c)) (z105.l0out0 a b c d))
 |_=>none
def z105.C:Ctx where
 T:=tab
 call:=λg args=>match g with|192=>z101.pack args|_=>none
 keep:=λf i=>match f,i with|116,0=>([0,2,3,4],[0],[])|_,_=>([],[],[])
 keepE:=λf i=>match f,i with|116,0=>([0,2,3,4],[0],[])|_,_=>([],[],[])
 keepR:=λf i=>match f,i with|116,0=>([2],[0],[2])|_,_=>([],[],[])
 L:=λf i b st=>match f,i,b with|116,0,0=>(matchSt z105.l0sh st).bind z105.l0pack|_,_,_=>none
def z105.dec:V->Option ((List Int))
 |(.ints _ .i64 x0)=>some x0
 |_=>none
theorem z105.l0_link (R:Type) (k:Env×Store->Option R) (d:X×Env×Store->Option R) (a:Int) (b:List UInt8) (c:Int) (e:List Int) :
  z105.C.loopP 116 0 (Qf 0 (ifun Tryz.f116).body) 1 k d (Qb z105.l0sh [.i a,.s b,.i c,.li e]) =
  z105.l0P a (λx'=>k (Qb z105.l0sh [.i a,.s x'.1,.i x'.2,.li e])) (λo=>d (z105.l0out0 a b c e o)) (b,c):=by kernel_rfl
theorem z105.link (a0:Int):z105.C.evTop 116 (ifun Tryz.f116) [(.int .i64 a0)] z105.dec=z105.F a0:=by kernel_rfl
def z110.C:Ctx where
 T:=tab
 call:=λg args=>match g with|170=>z107.pack args|113=>z7.pack args|171=>z108.pack args|172=>z109.pack args|_=>none
def z110.dec:V->Option ((List Int)×Bool)
 |(.agg [(.ints _ .i64 x0),(.bool x1)])=>some (x0,x1)
 |_=>none
theorem z110.link (a0:List Int) (a1:Bool) (a2:List Int) (a3:Bool):z110.C.evTop 85 (ifun Tryz.f85) [(.agg [(.ints false .i64 a0),(.bool a1)]),(.agg [(.ints false .i64 a2),(.bool a3)])] z110.dec=z110.F a0 a1 a2 a3:=by kernel_rfl
def z111.C:Ctx where
 T:=tab
 call:=λg args=>match g with|35=>z106.pack args|85=>z110.pack args|_=>none
def z111.dec:V->Option ((List Int)×Bool)
 |(.agg [(.ints _ .i64 x0),(.bool x1)])=>some (x0,x1)
 |_=>none
theorem z111.link (a0:List Int) (a1:Bool) (a2:List Int) (a3:Bool):z111.C.evTop 63 (ifun Tryz.f63) [(.agg [(.ints false .i64 a0),(.bool a1)]),(.agg [(.ints false .i64 a2),(.bool a3)])] z111.dec=z111.F a0 a1 a2 a3:=by kernel_rfl
def z117.C:Ctx where
 T:=tab
 call:=λg args=>match g with|256=>z116.pack args|221=>z115.pack args|113=>z7.pack args|_=>none
def z117.dec:V->Option ((List Int)×Bool×(List Int))
 |(.agg [(.ints _ .i64 x0),(.bool x1),(.ints _ .i64 x2)])=>some (x0,x1,x2)
 |_=>none
theorem z117.link (a0:List Int) (a1:Bool) (a2:List Int):z117.C.evTop 206 (ifun Tryz.f206) [(.agg [(.ints false .i64 a0),(.bool a1)]),(.ints false .i64 a2)] z117.dec=z117.F a0 a1 a2:=by kernel_rfl
def z118.C:Ctx where
 T:=tab
 call:=λg args=>match g with|35=>z106.pack args|206=>z117.pack args|_=>none
def z118.dec:V->Option ((List Int)×Bool×(List Int))
 |(.agg [(.ints _ .i64 x0),(.bool x1),(.ints _ .i64 x2)])=>some (x0,x1,x2)
 |_=>none
theorem z118.link (a0:List Int) (a1:Bool) (a2:List Int) (a3:Bool):z118.C.evTop 205 (ifun Tryz.f205) [(.agg [(.ints false .i64 a0),(.bool a1)]),(.agg [(.ints false .i64 a2),(.bool a3)])] z118.dec=z118.F a0 a1 a2 a3:=by kernel_rfl
def z120.l0b10sh:Env×Store:=((.str ([]:List UInt8)) :: .undef::(.ptr 0 0)::(.int .i64 0)::(.ptr 1 0)::(.bool false)::(.int .i64 0)::(.str ([]:List UInt8))::(.int .i64 0)::(.int .i64 0)::(.bool false)::un 90 [],[(.cells 213 [(.ints false .i64 []),(.bool false),(.int .i64 0)]),(.cells 213 [(.ints false .i64 []),(.bool false),(.int .i64 0)])])
def z120.l0b10so1:Env×Store:=(.undef :: .undef::(.ptr 0 0)::(.int .i64 0)::un 97 [],[(.cells 213 [(.ints false .i64 []),(.bool false),(.int .i64 0)]),(.cells 213 [(.ints false .i64 []),(.bool false),(.int .i64 0)])])
def z120.l0b10out0 (a:List UInt8) (c:Int) (d:Bool) (e:Int) (g:List UInt8) (h j:Int) (k:Bool) (m:List Int) (n:Bool) (p:Int) (q:List Int) (r:Bool) (t:Int) (o:Int×(List UInt8)×Int×Int×Bool):X×Env×Store:=((.exit 0),Qb z120.l0b10sh [.s a,.i c,.b d,.i o.1,.s o.2.1,.i o.2.2.1,.i o.2.2.2.1,.b o.2.2.2.2,.li m,.b n,.i p,.li q,.b r,.i t])
def z120.l0b10out1 (a:List UInt8) (c:Int) (d:Bool) (e:Int) (g:List UInt8) (h j:Int) (k:Bool) (m:List Int) (n:Bool) (p:Int) (q:List Int) (r:Bool) (s o:Int):X×Env×Store:=(.ret,Qb z120.l0b10so1 [.i o,.li q,.b r,.i s,.li q,.b r,.i s])
def z120.l0b10pack:List Leaf->Option LPack
 |[.s a,.i c,.b d,.i e,.s g,.i h,.i j,.b k,.li m,.b n,.i o,.li p,.b q,.i r]=>some (.two _ _ (z120.l0b10 a (e,g,h,j,k)) (z120.l0b10out0 a c d e g h j k m n o p q r) (z120.l0b10out1 a c d e g h j k m n o p q r))
 |_=>none
def z120.C:Ctx where
 T:=tab
 call:=λg args=>match g with|192=>z101.pack args|113=>z7.pack args|_=>none
 keep:=λf i=>match f,i with|126,0=>([0,2,3,4,5,6,7,8,9,10,70,71,74,75,76,77,78,79,80,83,84,85,86],[0,1],[])|_,_=>([],[],[])
 keepE:=λf i=>match f,i with|126,0=>([0,2,3,4,5,6,7,8,9,10,70,71,74,75,76,77,78,79,80,83,84,85,86],[0,1],[])|_,_=>([],[],[])
 keepR:=λf i=>match f,i with|126,0=>([2,3],[0,1],[2,3])|_,_=>([],[],[])
 L:=λf i b st=>match f,i,b with|126,0,0=>(matchSt z120.l0b10sh st).bind z120.l0b10pack|_,_,_=>none
def z120.dec:V->Option ((List Int)×Bool×Int×Int)
 |(.tup [(.agg [(.ints _ .i64 x0),(.bool x1),(.int .i64 x2)]),(.int .i64 x3)])=>some (x0,x1,x2,x3)
 |_=>none
theorem z120.l0b10_link (R:Type) (k:Env×Store->Option R) (d:X×Env×Store->Option R) (a:List UInt8) (c:Int) (e:Bool) (g:Int) (h:List UInt8) (j m:Int) (n:Bool) (p:List Int) (q:Bool) (r:Int) (t:List Int) (u:Bool) (v:Int) :
  z120.C.loopP 126 0 (Qf 0 (ifun Tryz.f126).body) 2 k d (Qb z120.l0b10sh [.s a,.i c,.b e,.i g,.s h,.i j,.i m,.b n,.li p,.b q,.i r,.li t,.b u,.i v]) =
  z120.l0b10P a (λx'=>k (Qb z120.l0b10sh [.s a,.i c,.b e,.i x'.1,.s x'.2.1,.i x'.2.2.1,.i x'.2.2.2.1,.b x'.2.2.2.2,.li p,.b q,.i r,.li t,.b u,.i v])) (λo=>match o with | .inl o=>d (z120.l0b10out0 a c e g h j m n p q r t u v o) | .inr o=>d (z120.l0b10out1 a c e g h j m n p q r t u v o)) (g,h,j,m,n):=by kernel_rfl
theorem z120.link (a0:List UInt8):z120.C.evTop 126 (ifun Tryz.f126) [(.str a0)] z120.dec=z120.F a0:=by kernel_rfl
def z126.C:Ctx where
 T:=tab
 call:=λg args=>match g with|153=>z11.pack args|_=>none
def z126.dec:V->Option (Bool)
 |(.bool x0)=>some x0
 |_=>none
theorem z126.link (a0 a1 a2:Int):z126.C.evTop 80 (ifun Tryz.f80) [(.agg [(.int .i64 a0),(.int .i64 a1),(.int .i64 a2)])] z126.dec=z126.F a0 a1 a2:=by kernel_rfl
def z155.C:Ctx where
 T:=tab
 call:=λg args=>match g with|140=>z98.pack args|_=>none
def z155.dec:V->Option (Int×Int)
 |(.tup [(.int .i64 x0),(.int .i64 x1)])=>some (x0,x1)
 |_=>none
theorem z155.link (a0 a1 a2 a3 a4 a5:Int):z155.C.evTop 65 (ifun Tryz.f65) [(.agg [(.int .i64 a0),(.int .i64 a1),(.int .i64 a2)]),(.agg [(.int .i64 a3),(.int .i64 a4),(.int .i64 a5)])] z155.dec=z155.F a0 a1 a2 a3 a4 a5:=by kernel_rfl
def z159.C:Ctx where
 T:=tab
 call:=λg args=>match g with|228=>z82.pack args|142=>z89.pack args|57=>z96.pack args|229=>z154.pack args|231=>z156.pack args|230=>z153.pack args|232=>z158.pack args|_=>none
def z159.dec:V->Option ((List Int)×Bool×(List Int)×Int)
 |(.tup [(.agg [(.ints _ .u64 x0),(.bool x1),(.ints _ .u64 x2)]),(.int .i64 x3)])=>some (x0,x1,x2,x3)
 |_=>none
theorem z159.link (a0 a1 a2 a3 a4 a5 a6:Int):z159.C.evTop 165 (ifun Tryz.f165) [(.int .i64 a0),(.agg [(.int .i64 a1),(.int .i64 a2),(.int .i64 a3)]),(.agg [(.int .i64 a4),(.int .i64 a5),(.int .i64 a6)])] z159.dec=z159.F a0 a1 a2 a3 a4 a5 a6:=by kernel_rfl
def z163.C:Ctx where
 T:=tab
 call:=λg args=>match g with|207=>z122.pack args|85=>z110.pack args|208=>z15.pack args|206=>z117.pack args|_=>none
def z163.dec:V->Option ((List Int)×Bool×(List Int))
 |(.agg [(.ints _ .i64 x0),(.bool x1),(.ints _ .i64 x2)])=>some (x0,x1,x2)
 |_=>none
theorem z163.link (a0:List Int) (a1:Bool) (a2 a3:List Int) (a4:Bool) (a5:List Int):z163.C.evTop 220 (ifun Tryz.f220) [(.agg [(.ints false .i64 a0),(.bool a1),(.ints false .i64 a2)]),(.agg [(.ints false .i64 a3),(.bool a4),(.ints false .i64 a5)])] z163.dec=z163.F a0 a1 a2 a3 a4 a5:=by kernel_rfl
def z164.l0sh:Env×Store:=(.undef::(.ptr 0 0)::(.int .i64 0)::(.int .i64 0)::(.int .i64 0)::un 33 [],[(.cells 41 [(.int .i64 0),(.int .i64 0),(.int .i64 0)])])
def z164.l0out0 (a b c d e g:Int) (o:Int×Int):X×Env×Store:=((.exit 0),Qb z164.l0sh [.i a,.i o.1,.i o.2,.i d,.i e,.i g])
def z164.l0pack:List Leaf->Option LPack
 |[.i a,.i b,.i c,.i d,.i e,.i g]=>some (.one _ (z164.l0 d (b,c)) (z164.l0out0 a b c d e g))
 |_=>none
def z164.l2sh:Env×Store:=(.undef::(.ptr 0 0)::(.int .i64 0)::(.int .i64 0) :: .undef :: .undef::(.int .i64 0)::un 31 [],[(.cells 41 [(.int .i64 0),(.int .i64 0),(.int .i64 0)])])
def z164.l2out0 (a b c d e g:Int) (o:Int×Int):X×Env×Store:=((.exit 2),Qb z164.l2sh [.i a,.i o.1,.i o.2,.i d,.i e,.i g])
def z164.l2pack:List Leaf->Option LPack
 |[.i a,.i b,.i c,.i d,.i e,.i g]=>some (.one _ (z164.l2 d e (b,c)) (z164.l2out0 a b c d e g))
 |_=>none
def z164.C:Ctx where
 T:=tab
 call:=λg args=>match g with|219=>z10.pack args|153=>z11.pack args|_=>none
 keep:=λf i=>match f,i with|233,0=>([1,2,3,4],[0],[])|233,2=>([1,2,3,6],[0],[])|_,_=>([],[],[])
 keepE:=λf i=>match f,i with|233,0=>([1,2,3,4],[0],[])|233,2=>([1,2,3,6],[0],[])|_,_=>([],[],[])
 keepR:=λf i=>match f,i with|233,0=>([2],[0],[2])|233,2=>([2],[0],[2])|_,_=>([],[],[])
 L:=λf i b st=>match f,i,b with|233,0,0=>(matchSt z164.l0sh st).bind z164.l0pack|233,2,0=>(matchSt z164.l2sh st).bind z164.l2pack|_,_,_=>none
def z164.dec:V->Option (Int)
 |(.int .i64 x0)=>some x0
 |_=>none
theorem z164.l0_link (R:Type) (k:Env×Store->Option R) (d:X×Env×Store->Option R) (a b c e g h:Int) :
  z164.C.loopP 233 0 (Qf 0 (ifun Tryz.f233).body) 1 k d (Qb z164.l0sh [.i a,.i b,.i c,.i e,.i g,.i h]) =
  z164.l0P e (λx'=>k (Qb z164.l0sh [.i a,.i x'.1,.i x'.2,.i e,.i g,.i h])) (λo=>d (z164.l0out0 a b c e g h o)) (b,c):=by kernel_rfl
theorem z164.l2_link (R:Type) (k:Env×Store->Option R) (d:X×Env×Store->Option R) (a b c e g h:Int) :
  z164.C.loopP 233 2 (Qf 2 (ifun Tryz.f233).body) 1 k d (Qb z164.l2sh [.i a,.i b,.i c,.i e,.i g,.i h]) =
  z164.l2P e g (λx'=>k (Qb z164.l2sh [.i a,.i x'.1,.i x'.2,.i e,.i g,.i h])) (λo=>d (z164.l2out0 a b c e g h o)) (b,c):=by kernel_rfl
theorem z164.link (a0 a1 a2:Int):z164.C.evTop 233 (ifun Tryz.f233) [(.agg [(.int .i64 a0),(.int .i64 a1),(.int .i64 a2)])] z164.dec=z164.F a0 a1 a2:=by kernel_rfl
def z166.C:Ctx where
 T:=tab
def z166.dec:V->Option ((List Int)×Bool×(List Int))
 |(.agg [(.ints _ .i64 x0),(.bool x1),(.ints _ .i64 x2)])=>some (x0,x1,x2)
 |_=>none
theorem z166.link (a0:List Int) (a1:Bool):z166.C.evTop 167 (ifun Tryz.f167) [(.agg [(.ints false .i64 a0),(.bool a1)])] z166.dec=z166.F a0 a1:=by kernel_rfl
def z186.C:Ctx where
 T:=tab
 call:=λg args=>match g with|39=>z125.pack args|166=>z165.pack args|167=>z166.pack args|168=>z167.pack args|155=>z169.pack args|_=>none
def z186.dec:V->Option ((List Int)×Bool)
 |(.agg [(.ints _ .i64 x0),(.bool x1)])=>some (x0,x1)
 |_=>none
theorem z186.link (a0:List Int) (a1:Bool) (a2 a3:List UInt8) (a4 a5 a6 a7 a8 a9 a10 a11 a12 a13 a14 a15 a16 a17:Int):z186.C.evTop 82 (ifun Tryz.f82) [(.agg [(.ints false .i64 a0),(.bool a1)]),(.agg [(.str a2),(.str a3),(.int .i64 a4),(.int .i64 a5),(.int .i64 a6),(.int .i64 a7),(.int .i64 a8),(.int .i64 a9),(.int .i64 a10),(.int .i64 a11)]),(.agg [(.int .i64 a12),(.int .i64 a13),(.int .i64 a14)]),(.agg [(.int .i64 a15),(.int .i64 a16),(.int .i64 a17)])] z186.dec=z186.F a0 a1 a2 a3 a4 a5 a6 a7 a8 a9 a10 a11 a12 a13 a14 a15 a16 a17:=by kernel_rfl
def z191.C:Ctx where
 T:=tab
 call:=λg args=>match g with|91=>z21.pack args|_=>none
def z191.dec:V->Option ((List Int)×Bool)
 |(.agg [(.ints _ .u64 x0),(.bool x1)])=>some (x0,x1)
 |_=>none
theorem z191.link (a0:List Int):z191.C.evTop 239 (ifun Tryz.f239) [(.agg [(.ints false .u64 a0)])] z191.dec=z191.F a0:=by kernel_rfl
def z193.C:Ctx where
 T:=tab
 draws:=λf i=>match f,i with|87,6=>([(31,[(5,0)],0),(32,[(30,1)],1),(33,[(12,0)],0),(34,[(3,0)],0),(35,[(31,2),(32,3),(33,4)],15),(30,[(34,5)],31),(36,[(29,6)],63),(37,[(29,6)],63),(15,[],0),(0,[(14,9),(35,7)],383),(14,[(36,8)],1023)],136902107136)|_,_=>([],0)
 call:=λg args=>match g with|88=>z188.pack args|28=>z20.pack args|68=>z47.pack args|175=>z192.pack args|150=>z150.pack args|_=>none
def z193.dec:V->Option ((List Int)×Bool×Int)
 |(.tup [(.agg [(.ints _ .u64 x0),(.bool x1)]),(.int .i64 x2)])=>some (x0,x1,x2)
 |_=>none
theorem z193.link (a0:List Int) (a1:Bool) (a2:List UInt8) (a3 a4 a5:Int):z193.C.evTop 87 (ifun Tryz.f87) [(.agg [(.ints false .u64 a0),(.bool a1)]),(.str a2),(.int .i64 a3),(.int .i64 a4),(.int .i64 a5)] z193.dec=z193.F a0 a1 a2 a3 a4 a5:=by kernel_rfl
def z197.C:Ctx where
 T:=tab
 call:=λg args=>match g with|90=>z33.pack args|28=>z20.pack args|237=>z196.pack args|_=>none
def z197.dec:V->Option ((List Int)×Bool)
 |(.agg [(.ints _ .u64 x0),(.bool x1)])=>some (x0,x1)
 |_=>none
theorem z197.link (a0:Int) (a1:List Int) (a2:Bool) (a3:List Int) (a4:Bool) (a5:List Int) (a6:Bool):z197.C.evTop 174 (ifun Tryz.f174) [(.int .i64 a0),(.agg [(.ints false .u64 a1),(.bool a2)]),(.agg [(.ints false .u64 a3),(.bool a4)]),(.agg [(.ints false .u64 a5),(.bool a6)])] z197.dec=z197.F a0 a1 a2 a3 a4 a5 a6:=by kernel_rfl
end
noncomputable section
theorem z5.l2_sound (hI:InlOK Tryz.prog z5.C λR=>z5.C.inlK 6):Qh z5.C 6 102 2 0 (Qf 2 (ifun Tryz.f102).body) z5.l2sh z5.l2pack:=by
 refine Qi λls p h=>?_
 unfold z5.l2pack at h;split at h<;>cases h
 rename_i a b c e g j
 exact Qm hI (sh:=z5.l2sh) (so:=z5.l2sh) (F:=λR rec done x=>z5.l2P rec done x) (enc:=λ(x':((List UInt8)×Int×Int))=>Qb z5.l2sh [.li a,.s b,.s x'.1,.i e,.i x'.2.1,.i x'.2.2]) [2,4,5] [2,4,5] (c,g,j) (by kernel_rfl) (by kernel_rfl) (λx=>by kernel_rfl) (λo=>by kernel_rfl) λR k d x'=>z5.l2_link R k d a b (x'.1) e (x'.2.1) (x'.2.2)
theorem z5.l0_sound (hI:InlOK Tryz.prog z5.C λR=>z5.C.inlK 6):Qh z5.C 6 102 0 0 (Qf 0 (ifun Tryz.f102).body) z5.l0sh z5.l0pack:=by
 refine Qi λls p h=>?_
 unfold z5.l0pack at h;split at h<;>cases h
 rename_i a b c e
 exact Qm hI (sh:=z5.l0sh) (so:=z5.l0sh) (F:=λR rec done x=>z5.l0P a rec done x) (enc:=λ(x':((List UInt8)×Int))=>Qb z5.l0sh [.li a,.s b,.s x'.1,.i x'.2]) [2,3] [2,3] (c,e) (by kernel_rfl) (by kernel_rfl) (λx=>by kernel_rfl) (λo=>by kernel_rfl) λR k d x'=>z5.l0_link R k d a b (x'.1) (x'.2)
theorem z5.l4_sound (hI:InlOK Tryz.prog z5.C λR=>z5.C.inlK 6):Qh z5.C 6 102 4 0 (Qf 4 (ifun Tryz.f102).body) z5.l4sh z5.l4pack:=by
 refine Qi λls p h=>?_
 unfold z5.l4pack at h;split at h<;>cases h
 rename_i a b c
 exact Qm hI (sh:=z5.l4sh) (so:=z5.l4sh) (F:=λR rec done x=>z5.l4P b rec done x) (enc:=λ(x':Int)=>Qb z5.l4sh [.s a,.s b,.i x']) [2] [2] c (by kernel_rfl) (by kernel_rfl) (λx=>by kernel_rfl) (λo=>by kernel_rfl) λR k d x'=>z5.l4_link R k d a b (x')
theorem Q1y:Qk (ifun Tryz.f102).body=true:=by kernel_rfl
theorem z5.loopsT (hI:InlOK Tryz.prog z5.C λR=>z5.C.inlK 6):LoopsOK z5.C (λR=>z5.C.inlK 6) 102 0 (ifun Tryz.f102).body:=by
 intro id b hm st p hp
 obtain rfl:=Ql Q1y hm
 unfold z5.C at hp
 simp only at hp
 try split at hp
 all_goals first
  |(simp at hp;done)
  |(exfalso;omega)
  |exact z5.l2_sound hI st p hp
  |exact z5.l0_sound hI st p hp
  |exact z5.l4_sound hI st p hp
theorem z5.sound:Sn z5.pack 102:=by
 intro vs p h;unfold z5.pack at h;split at h<;>cases h
 exact Qo Qd Qe rfl rfl rfl (λg vs p h=>by simp [z5.C] at h) ⟨Tryz.func102,rfl,by kernel_rfl⟩ z5.loopsT rfl (z5.link _) (by intro v r h;unfold z5.dec at h;split at h<;>cases h;exact ⟨rfl,rfl⟩)
theorem z6.sound:Sn z6.pack 26:=by
 intro vs p h;unfold z6.pack at h;split at h<;>cases h
 exact Qg Qd Qe rfl rfl rfl rfl (λg vs p h=>by unfold z6.C at h;simp only at h;split at h;exact z5.sound vs p h;simp at h) ⟨Tryz.func26,rfl,by kernel_rfl⟩ rfl (z6.link _ _) (by intro v r h;unfold z6.dec at h;split at h<;>cases h;exact ⟨rfl,rfl⟩)
theorem z7.sound:Sn z7.pack 113:=by
 intro vs p h;unfold z7.pack at h;split at h<;>cases h
 exact Qg Qd Qe rfl rfl rfl rfl (λg vs p h=>by simp [z7.C] at h) ⟨Tryz.func113,rfl,by kernel_rfl⟩ rfl (z7.link _ _) (by intro v r h;unfold z7.dec at h;split at h<;>cases h;exact ⟨rfl,rfl⟩)
theorem z8.l0_sound (hI:InlOK Tryz.prog z8.C λR=>z8.C.inlK 6):Qh z8.C 6 152 0 0 (Qf 0 (ifun Tryz.f152).body) z8.l0sh z8.l0pack:=by
 refine Qi λls p h=>?_
 unfold z8.l0pack at h;split at h<;>cases h
 rename_i a b c
 exact Qm hI (sh:=z8.l0sh) (so:=z8.l0sh) (F:=λR rec done x=>z8.l0P rec done x) (enc:=λ(x':(Int×(List Int)))=>Qb z8.l0sh [.i x'.1,.li b,.li x'.2]) [0,2] [0,2] (a,c) (by kernel_rfl) (by kernel_rfl) (λx=>by kernel_rfl) (λo=>by kernel_rfl) λR k d x'=>z8.l0_link R k d (x'.1) b (x'.2)
theorem Qzi:Qk (ifun Tryz.f152).body=true:=by kernel_rfl
theorem z8.loopsT (hI:InlOK Tryz.prog z8.C λR=>z8.C.inlK 6):LoopsOK z8.C (λR=>z8.C.inlK 6) 152 0 (ifun Tryz.f152).body:=by
 intro id b hm st p hp
 obtain rfl:=Ql Qzi hm
 unfold z8.C at hp
 simp only at hp
 try split at hp
 all_goals first
  |(simp at hp;done)
  |(exfalso;omega)
  |exact z8.l0_sound hI st p hp
theorem z8.sound:Sn z8.pack 152:=by
 intro vs p h;unfold z8.pack at h;split at h<;>cases h
 exact Qo Qd Qe rfl rfl rfl (λg vs p h=>by simp [z8.C] at h) ⟨Tryz.func152,rfl,by kernel_rfl⟩ z8.loopsT rfl (z8.link _) (by intro v r h;unfold z8.dec at h;split at h<;>cases h;exact ⟨rfl,rfl⟩)
theorem z9.sound:Sn z9.pack 60:=by
 intro vs p h;unfold z9.pack at h;split at h<;>cases h
 exact Qg Qd Qe rfl rfl rfl rfl (λg vs p h=>by unfold z9.C at h;simp only at h;split at h;exact z8.sound vs p h;exact z7.sound vs p h;simp at h) ⟨Tryz.func60,rfl,by kernel_rfl⟩ rfl (z9.link _) (by intro v r h;unfold z9.dec at h;split at h<;>cases h;exact ⟨rfl,rfl⟩)
theorem z10.sound:Sn z10.pack 219:=by
 intro vs p h;unfold z10.pack at h;split at h<;>cases h
 exact Qg Qd Qe rfl rfl rfl rfl (λg vs p h=>by simp [z10.C] at h) ⟨Tryz.func219,rfl,by kernel_rfl⟩ rfl (z10.link _) (by intro v r h;unfold z10.dec at h;split at h<;>cases h;exact ⟨rfl,rfl⟩)
theorem z11.sound:Sn z11.pack 153:=by
 intro vs p h;unfold z11.pack at h;split at h<;>cases h
 exact Qg Qd Qe rfl rfl rfl rfl (λg vs p h=>by unfold z11.C at h;simp only at h;split at h;exact z10.sound vs p h;simp at h) ⟨Tryz.func153,rfl,by kernel_rfl⟩ rfl (z11.link _ _) (by intro v r h;unfold z11.dec at h;split at h<;>cases h;exact ⟨rfl,rfl⟩)
theorem z12.sound:Sn z12.pack 95:=by
 intro vs p h;unfold z12.pack at h;split at h<;>cases h
 exact Qg Qd Qe rfl rfl rfl rfl (λg vs p h=>by unfold z12.C at h;simp only at h;split at h;exact z11.sound vs p h;simp at h) ⟨Tryz.func95,rfl,by kernel_rfl⟩ rfl (z12.link _ _ _ _) (by intro v r h;unfold z12.dec at h;split at h<;>cases h;exact ⟨rfl,rfl⟩)
theorem z13.sound:Sn z13.pack 234:=by
 intro vs p h;unfold z13.pack at h;split at h<;>cases h
 exact Qg Qd Qe rfl rfl rfl rfl (λg vs p h=>by simp [z13.C] at h) ⟨Tryz.func234,rfl,by kernel_rfl⟩ rfl (z13.link _ _) (by intro v r h;unfold z13.dec at h;split at h<;>cases h;exact ⟨rfl,rfl⟩)
theorem z14.l0b6_sound (hI:InlOK Tryz.prog z14.C λR=>z14.C.inlK 6):Qh z14.C 6 235 0 0 (Qf 0 (ifun Tryz.f235).body) z14.l0b6sh z14.l0b6pack:=by
 refine Qi λls p h=>?_
 unfold z14.l0b6pack at h;split at h<;>cases h
 rename_i a b c
 exact Qm hI (sh:=z14.l0b6sh) (so:=z14.l0b6sh) (F:=λR rec done x=>z14.l0b6P a rec done x) (enc:=λ(x':Int)=>Qb z14.l0b6sh [.li a,.i x',.li c]) [1] [1] b (by kernel_rfl) (by kernel_rfl) (λx=>by kernel_rfl) (λo=>by kernel_rfl) λR k d x'=>z14.l0b6_link R k d a (x') c
theorem Qvu:Qk (ifun Tryz.f235).body=true:=by kernel_rfl
theorem z14.loopsT (hI:InlOK Tryz.prog z14.C λR=>z14.C.inlK 6):LoopsOK z14.C (λR=>z14.C.inlK 6) 235 0 (ifun Tryz.f235).body:=by
 intro id b hm st p hp
 obtain rfl:=Ql Qvu hm
 unfold z14.C at hp
 simp only at hp
 try split at hp
 all_goals first
  |(simp at hp;done)
  |(exfalso;omega)
  |exact z14.l0b6_sound hI st p hp
theorem z14.sound:Sn z14.pack 235:=by
 intro vs p h;unfold z14.pack at h;split at h<;>cases h
 exact Qo Qd Qe rfl rfl rfl (λg vs p h=>by simp [z14.C] at h) ⟨Tryz.func235,rfl,by kernel_rfl⟩ z14.loopsT rfl (z14.link _) (by intro v r h;unfold z14.dec at h;split at h<;>cases h;exact ⟨rfl,rfl⟩)
theorem z15.l2aa_sound (hI:InlOK Tryz.prog z15.C λR=>z15.C.inlK 6):Qh z15.C 6 208 2 0 (Qf 2 (ifun Tryz.f208).body) z15.l2aash z15.l2aapack:=by
 refine Qi λls p h=>?_
 unfold z15.l2aapack at h;split at h<;>cases h
 rename_i a b c e g j m
 exact Qm hI (sh:=z15.l2aash) (so:=z15.l2aash) (F:=λR rec done x=>z15.l2aaP a b c rec done x) (enc:=λ(x':(Int×Int×(List Int)))=>Qb z15.l2aash [.li a,.li b,.i c,.i x'.1,.i x'.2.1,.li j,.li x'.2.2]) [3,4,6] [3,4,6] (e,g,m) (by kernel_rfl) (by kernel_rfl) (λx=>by kernel_rfl) (λo=>by kernel_rfl) λR k d x'=>z15.l2aa_link R k d a b c (x'.1) (x'.2.1) j (x'.2.2)
theorem z15.l0_sound (hI:InlOK Tryz.prog z15.C λR=>z15.C.inlK 6):Qh z15.C 6 208 0 0 (Qf 0 (ifun Tryz.f208).body) z15.l0sh z15.l0pack:=by
 refine Qi λls p h=>?_
 unfold z15.l0pack at h;split at h<;>cases h
 rename_i a b c e g
 exact Qm hI (sh:=z15.l0sh) (so:=z15.l0sh) (F:=λR rec done x=>z15.l0P a b rec done x) (enc:=λ(x':(Int×(List Int)))=>Qb z15.l0sh [.li a,.li b,.i x'.1,.li e,.li x'.2]) [2,4] [2,4] (c,g) (by kernel_rfl) (by kernel_rfl) (λx=>by kernel_rfl) (λo=>by kernel_rfl) λR k d x'=>z15.l0_link R k d a b (x'.1) e (x'.2)
theorem Qzp:Qk (ifun Tryz.f208).body=true:=by kernel_rfl
theorem z15.loopsT (hI:InlOK Tryz.prog z15.C λR=>z15.C.inlK 6):LoopsOK z15.C (λR=>z15.C.inlK 6) 208 0 (ifun Tryz.f208).body:=by
 intro id b hm st p hp
 obtain rfl:=Ql Qzp hm
 unfold z15.C at hp
 simp only at hp
 try split at hp
 all_goals first
  |(simp at hp;done)
  |(exfalso;omega)
  |exact z15.l2aa_sound hI st p hp
  |exact z15.l0_sound hI st p hp
theorem z15.sound:Sn z15.pack 208:=by
 intro vs p h;unfold z15.pack at h;split at h<;>cases h
 exact Qo Qd Qe rfl rfl rfl (λg vs p h=>by unfold z15.C at h;simp only at h;split at h;exact z13.sound vs p h;exact z14.sound vs p h;simp at h) ⟨Tryz.func208,rfl,by kernel_rfl⟩ z15.loopsT rfl (z15.link _ _) (by intro v r h;unfold z15.dec at h;split at h<;>cases h;exact ⟨rfl,rfl⟩)
theorem z16.sound:Sn z16.pack 131:=by
 intro vs p h;unfold z16.pack at h;split at h<;>cases h
 exact Qg Qd Qe rfl rfl rfl rfl (λg vs p h=>by unfold z16.C at h;simp only at h;split at h;exact z15.sound vs p h;exact z7.sound vs p h;simp at h) ⟨Tryz.func131,rfl,by kernel_rfl⟩ rfl (z16.link _ _ _ _) (by intro v r h;unfold z16.dec at h;split at h<;>cases h;exact ⟨rfl,rfl⟩)
theorem z17.l0_sound (hI:InlOK Tryz.prog z17.C λR=>z17.C.inlK 6):Qh z17.C 6 132 0 0 (Qf 0 (ifun Tryz.f132).body) z17.l0sh z17.l0pack:=by
 refine Qi λls p h=>?_
 unfold z17.l0pack at h;split at h<;>cases h
 rename_i a c e g j
 exact Qm hI (sh:=z17.l0sh) (so:=z17.l0sh) (F:=λR rec done x=>z17.l0P j rec done x) (enc:=λ(x':((List UInt8)))=>Qb z17.l0sh [.s a,.s x',.li e,.b g,.i j]) [1] [1] c (by kernel_rfl) (by kernel_rfl) (λx=>by kernel_rfl) (λo=>by kernel_rfl) λR k d x'=>z17.l0_link R k d a (x') e g j
theorem Q35:Qk (ifun Tryz.f132).body=true:=by kernel_rfl
theorem z17.loopsT (hI:InlOK Tryz.prog z17.C λR=>z17.C.inlK 6):LoopsOK z17.C (λR=>z17.C.inlK 6) 132 0 (ifun Tryz.f132).body:=by
 intro id b hm st p hp
 obtain rfl:=Ql Q35 hm
 unfold z17.C at hp
 simp only at hp
 try split at hp
 all_goals first
  |(simp at hp;done)
  |(exfalso;omega)
  |exact z17.l0_sound hI st p hp
theorem z17.sound:Sn z17.pack 132:=by
 intro vs p h;unfold z17.pack at h;split at h<;>cases h
 exact Qo Qd Qe rfl rfl rfl (λg vs p h=>by unfold z17.C at h;simp only at h;split at h;exact z5.sound vs p h;simp at h) ⟨Tryz.func132,rfl,by kernel_rfl⟩ z17.loopsT rfl (z17.link _ _ _) (by intro v r h;unfold z17.dec at h;split at h<;>cases h;exact ⟨rfl,rfl⟩)
theorem z18.sound:Sn z18.pack 43:=by
 intro vs p h;unfold z18.pack at h;split at h<;>cases h
 exact Qg Qd Qe rfl rfl rfl rfl (λg vs p h=>by unfold z18.C at h;simp only at h;split at h;exact z12.sound vs p h;exact z9.sound vs p h;exact z16.sound vs p h;exact z6.sound vs p h;exact z17.sound vs p h;simp at h) ⟨Tryz.func43,rfl,by kernel_rfl⟩ rfl (z18.link _ _ _ _ _ _ _ _ _ _ _ _ _) (by intro v r h;unfold z18.dec at h;split at h<;>cases h;exact ⟨rfl,rfl⟩)
theorem z77.sound:Sn z77.pack 137:=by
 intro vs p h;unfold z77.pack at h;split at h<;>cases h
 exact Qg Qd Qe rfl rfl rfl rfl (λg vs p h=>by simp [z77.C] at h) ⟨Tryz.func137,rfl,by kernel_rfl⟩ rfl z77.link (by intro v r h;unfold z77.dec at h;split at h<;>cases h;exact ⟨rfl,rfl⟩)
theorem z78.sound:Sn z78.pack 47:=by
 intro vs p h;unfold z78.pack at h;split at h<;>cases h
 exact Qg Qd Qe rfl rfl rfl rfl (λg vs p h=>by unfold z78.C at h;simp only at h;split at h;exact z77.sound vs p h;simp at h) ⟨Tryz.func47,rfl,by kernel_rfl⟩ rfl (z78.link _) (by intro v r h;unfold z78.dec at h;split at h<;>cases h;exact ⟨rfl,rfl⟩)
theorem z85.sound:Sn z85.pack 133:=by
 intro vs p h;unfold z85.pack at h;split at h<;>cases h
 exact Qg Qd Qe rfl rfl rfl rfl (λg vs p h=>by unfold z85.C at h;simp only at h;split at h;exact z78.sound vs p h;exact z84.sound vs p h;exact z81.sound vs p h;simp at h) ⟨Tryz.func133,rfl,by kernel_rfl⟩ rfl (z85.link _ _ _ _ _ _ _ _ _ _) (by intro v r h;unfold z85.dec at h;split at h<;>cases h;exact ⟨rfl,rfl⟩)
theorem z90.sound:Sn z90.pack 134:=by
 intro vs p h;unfold z90.pack at h;split at h<;>cases h
 exact Qg Qd Qe rfl rfl rfl rfl (λg vs p h=>by unfold z90.C at h;simp only at h;split at h;exact z89.sound vs p h;exact z88.sound vs p h;simp at h) ⟨Tryz.func134,rfl,by kernel_rfl⟩ rfl (z90.link _ _ _ _) (by intro v r h;unfold z90.dec at h;split at h<;>cases h;exact ⟨rfl,rfl⟩)
theorem z91.sound:Sn z91.pack 44:=by
 intro vs p h;unfold z91.pack at h;split at h<;>cases h
 exact Qg Qd Qe rfl rfl rfl rfl (λg vs p h=>by unfold z91.C at h;simp only at h;split at h;exact z46.sound vs p h;exact z20.sound vs p h;exact z76.sound vs p h;exact z85.sound vs p h;exact z90.sound vs p h;simp at h) ⟨Tryz.func44,rfl,by kernel_rfl⟩ rfl (z91.link _ _ _ _ _ _ _ _ _ _) (by intro v r h;unfold z91.dec at h;split at h<;>cases h;exact ⟨rfl,rfl⟩)
theorem z92.l0_sound (hI:InlOK Tryz.prog z92.C λR=>z92.C.inlK 6):Qh z92.C 6 138 0 0 (Qf 0 (ifun Tryz.f138).body) z92.l0sh z92.l0pack:=by
 refine Qi λls p h=>?_
 unfold z92.l0pack at h;split at h<;>cases h
 rename_i a b c e g j m n q
 exact Q4 hI (sh:=z92.l0sh) (so:=z92.l0sh) (so':=z92.l0so1) (F:=λR rec done x=>z92.l0P a b g j m rec done x) (enc:=λ(x':(Int×(List (List V))))=>Qb z92.l0sh [.i a,.i b,.i c,.i x'.1,.i g,.i j,.i m,.lr n,.lr x'.2]) (.exit 0) [3,8] [3,8] [0,1,6] (e,q) (by kernel_rfl) (by kernel_rfl) (λx=>by kernel_rfl) (λo=>by kernel_rfl) (λo=>by kernel_rfl) λR k d x'=>z92.l0_link R k d a b c (x'.1) g j m n (x'.2)
theorem Q2w:Qk (ifun Tryz.f138).body=true:=by kernel_rfl
theorem z92.loopsT (hI:InlOK Tryz.prog z92.C λR=>z92.C.inlK 6):LoopsOK z92.C (λR=>z92.C.inlK 6) 138 0 (ifun Tryz.f138).body:=by
 intro id b hm st p hp
 obtain rfl:=Ql Q2w hm
 unfold z92.C at hp
 simp only at hp
 try split at hp
 all_goals first
  |(simp at hp;done)
  |(exfalso;omega)
  |exact z92.l0_sound hI st p hp
theorem z92.sound:Sn z92.pack 138:=by
 intro vs p h;unfold z92.pack at h;split at h<;>cases h
 exact Qo Qd Qe rfl rfl rfl (λg vs p h=>by unfold z92.C at h;simp only at h;split at h;exact z89.sound vs p h;exact z90.sound vs p h;simp at h) ⟨Tryz.func138,rfl,by kernel_rfl⟩ z92.loopsT rfl (z92.link _ _ _ _ _) (by intro v r h;unfold z92.dec at h;split at h<;>cases h;exact ⟨rfl,rfl⟩)
theorem z93.sound:Sn z93.pack 48:=by
 intro vs p h;unfold z93.pack at h;split at h<;>cases h
 exact Qg Qd Qe rfl rfl rfl rfl (λg vs p h=>by unfold z93.C at h;simp only at h;split at h;exact z91.sound vs p h;exact z92.sound vs p h;simp at h) ⟨Tryz.func48,rfl,by kernel_rfl⟩ rfl (z93.link _ _ _ _ _ _ _ _ _ _) (by intro v r h;unfold z93.dec at h;split at h<;>cases h;exact ⟨rfl,rfl⟩)
theorem z94.l0_sound (hI:InlOK Tryz.prog z94.C λR=>z94.C.inlK 6):Qh z94.C 6 49 0 0 (Qf 0 (ifun Tryz.f49).body) z94.l0sh z94.l0pack:=by
 refine Qi λls p h=>?_
 unfold z94.l0pack at h;split at h<;>cases h
 rename_i a b c e g j m n q
 exact Qm hI (sh:=z94.l0sh) (so:=z94.l0sh) (F:=λR rec done x=>z94.l0P b c rec done x) (enc:=λ(x':(Int×(List (List V))×Int×Int×Int))=>Qb z94.l0sh [.i a,.lr b,.i c,.i x'.1,.lr g,.lr x'.2.1,.i x'.2.2.1,.i x'.2.2.2.1,.i x'.2.2.2.2]) [3,5,6,7,8] [3,5,6,7,8] (e,j,m,n,q) (by kernel_rfl) (by kernel_rfl) (λx=>by kernel_rfl) (λo=>by kernel_rfl) λR k d x'=>z94.l0_link R k d a b c (x'.1) g (x'.2.1) (x'.2.2.1) (x'.2.2.2.1) (x'.2.2.2.2)
theorem Qvg:Qk (ifun Tryz.f49).body=true:=by kernel_rfl
theorem z94.loopsT (hI:InlOK Tryz.prog z94.C λR=>z94.C.inlK 6):LoopsOK z94.C (λR=>z94.C.inlK 6) 49 0 (ifun Tryz.f49).body:=by
 intro id b hm st p hp
 obtain rfl:=Ql Qvg hm
 unfold z94.C at hp
 simp only at hp
 try split at hp
 all_goals first
  |(simp at hp;done)
  |(exfalso;omega)
  |exact z94.l0_sound hI st p hp
theorem z94.sound:Sn z94.pack 49:=by
 intro vs p h;unfold z94.pack at h;split at h<;>cases h
 exact Qo Qd Qe rfl rfl rfl (λg vs p h=>by unfold z94.C at h;simp only at h;split at h;exact z93.sound vs p h;simp at h) ⟨Tryz.func49,rfl,by kernel_rfl⟩ z94.loopsT rfl (z94.link _ _ _ _ _ _ _ _ _ _) (by intro v r h;unfold z94.dec at h;split at h<;>cases h;exact ⟨rfl,rfl⟩)
theorem z95.l0_sound (hI:InlOK Tryz.prog z95.C λR=>z95.C.inlK 6):Qh z95.C 6 145 0 0 (Qf 0 (ifun Tryz.f145).body) z95.l0sh z95.l0pack:=by
 refine Qi λls p h=>?_
 unfold z95.l0pack at h;split at h<;>cases h
 rename_i a b c e g
 exact Q4 hI (sh:=z95.l0sh) (so:=z95.l0sh) (so':=z95.l0so1) (F:=λR rec done x=>z95.l0P b c e rec done x) (enc:=λ(x':Int)=>Qb z95.l0sh [.i a,.i b,.li c,.i e,.i x']) (.exit 0) [4] [4] [0] g (by kernel_rfl) (by kernel_rfl) (λx=>by kernel_rfl) (λo=>by kernel_rfl) (λo=>by kernel_rfl) λR k d x'=>z95.l0_link R k d a b c e (x')
theorem Q1m:Qk (ifun Tryz.f145).body=true:=by kernel_rfl
theorem z95.loopsT (hI:InlOK Tryz.prog z95.C λR=>z95.C.inlK 6):LoopsOK z95.C (λR=>z95.C.inlK 6) 145 0 (ifun Tryz.f145).body:=by
 intro id b hm st p hp
 obtain rfl:=Ql Q1m hm
 unfold z95.C at hp
 simp only at hp
 try split at hp
 all_goals first
  |(simp at hp;done)
  |(exfalso;omega)
  |exact z95.l0_sound hI st p hp
theorem z95.sound:Sn z95.pack 145:=by
 intro vs p h;unfold z95.pack at h;split at h<;>cases h
 exact Qo Qd Qe rfl rfl rfl (λg vs p h=>by simp [z95.C] at h) ⟨Tryz.func145,rfl,by kernel_rfl⟩ z95.loopsT rfl (z95.link _) (by intro v r h;unfold z95.dec at h;split at h<;>cases h;exact ⟨rfl,rfl⟩)
theorem z96.sound:Sn z96.pack 57:=by
 intro vs p h;unfold z96.pack at h;split at h<;>cases h
 exact Qg Qd Qe rfl rfl rfl rfl (λg vs p h=>by unfold z96.C at h;simp only at h;split at h;exact z26.sound vs p h;exact z95.sound vs p h;simp at h) ⟨Tryz.func57,rfl,by kernel_rfl⟩ rfl (z96.link _ _ _ _ _ _) (by intro v r h;unfold z96.dec at h;split at h<;>cases h;exact ⟨rfl,rfl⟩)
theorem z97.sound:Sn z97.pack 211:=by
 intro vs p h;unfold z97.pack at h;split at h<;>cases h
 exact Qg Qd Qe rfl rfl rfl rfl (λg vs p h=>by simp [z97.C] at h) ⟨Tryz.func211,rfl,by kernel_rfl⟩ rfl (z97.link _) (by intro v r h;unfold z97.dec at h;split at h<;>cases h;exact ⟨rfl,rfl⟩)
theorem z98.l0_sound (hI:InlOK Tryz.prog z98.C λR=>z98.C.inlK 6):Qh z98.C 6 140 0 0 (Qf 0 (ifun Tryz.f140).body) z98.l0sh z98.l0pack:=by
 refine Qi λls p h=>?_
 unfold z98.l0pack at h;split at h<;>cases h
 rename_i a b c e g j m
 exact Qm hI (sh:=z98.l0sh) (so:=z98.l0sh) (F:=λR rec done x=>z98.l0P g j rec done x) (enc:=λ(x':(Int×Int))=>Qb z98.l0sh [.i a,.i b,.i x'.1,.i x'.2,.i g,.i j,.i m]) [2,3] [2,3] (c,e) (by kernel_rfl) (by kernel_rfl) (λx=>by kernel_rfl) (λo=>by kernel_rfl) λR k d x'=>z98.l0_link R k d a b (x'.1) (x'.2) g j m
theorem Qz2:Qk (ifun Tryz.f140).body=true:=by kernel_rfl
theorem z98.loopsT (hI:InlOK Tryz.prog z98.C λR=>z98.C.inlK 6):LoopsOK z98.C (λR=>z98.C.inlK 6) 140 0 (ifun Tryz.f140).body:=by
 intro id b hm st p hp
 obtain rfl:=Ql Qz2 hm
 unfold z98.C at hp
 simp only at hp
 try split at hp
 all_goals first
  |(simp at hp;done)
  |(exfalso;omega)
  |exact z98.l0_sound hI st p hp
theorem z98.sound:Sn z98.pack 140:=by
 intro vs p h;unfold z98.pack at h;split at h<;>cases h
 exact Qo Qd Qe rfl rfl rfl (λg vs p h=>by unfold z98.C at h;simp only at h;split at h;exact z89.sound vs p h;exact z97.sound vs p h;exact z88.sound vs p h;simp at h) ⟨Tryz.func140,rfl,by kernel_rfl⟩ z98.loopsT rfl (z98.link _ _ _) (by intro v r h;unfold z98.dec at h;split at h<;>cases h;exact ⟨rfl,rfl⟩)
theorem z101.l2_sound (hI:InlOK Tryz.prog z101.C λR=>z101.C.inlK 6):Qh z101.C 6 192 2 0 (Qf 2 (ifun Tryz.f192).body) z101.l2sh z101.l2pack:=by
 refine Qi λls p h=>?_
 unfold z101.l2pack at h;split at h<;>cases h
 rename_i a b c e g j
 exact Qm hI (sh:=z101.l2sh) (so:=z101.l2sh) (F:=λR rec done x=>z101.l2P a b rec done x) (enc:=λ(x':(Int×Int))=>Qb z101.l2sh [.s a,.i b,.i x'.1,.i x'.2,.li g,.li j]) [2,3] [2,3] (c,e) (by kernel_rfl) (by kernel_rfl) (λx=>by kernel_rfl) (λo=>by kernel_rfl) λR k d x'=>z101.l2_link R k d a b (x'.1) (x'.2) g j
theorem z101.l0_sound (hI:InlOK Tryz.prog z101.C λR=>z101.C.inlK 6):Qh z101.C 6 192 0 0 (Qf 0 (ifun Tryz.f192).body) z101.l0sh z101.l0pack:=by
 refine Qi λls p h=>?_
 unfold z101.l0pack at h;split at h<;>cases h
 rename_i a b c e
 exact Qm hI (sh:=z101.l0sh) (so:=z101.l0sh) (F:=λR rec done x=>z101.l0P a rec done x) (enc:=λ(x':(Int×(List Int)))=>Qb z101.l0sh [.s a,.i x'.1,.li c,.li x'.2]) [1,3] [1,3] (b,e) (by kernel_rfl) (by kernel_rfl) (λx=>by kernel_rfl) (λo=>by kernel_rfl) λR k d x'=>z101.l0_link R k d a (x'.1) c (x'.2)
theorem Qyj:Qk (ifun Tryz.f192).body=true:=by kernel_rfl
theorem z101.loopsT (hI:InlOK Tryz.prog z101.C λR=>z101.C.inlK 6):LoopsOK z101.C (λR=>z101.C.inlK 6) 192 0 (ifun Tryz.f192).body:=by
 intro id b hm st p hp
 obtain rfl:=Ql Qyj hm
 unfold z101.C at hp
 simp only at hp
 try split at hp
 all_goals first
  |(simp at hp;done)
  |(exfalso;omega)
  |exact z101.l2_sound hI st p hp
  |exact z101.l0_sound hI st p hp
theorem z101.sound:Sn z101.pack 192:=by
 intro vs p h;unfold z101.pack at h;split at h<;>cases h
 exact Qo Qd Qe rfl rfl rfl (λg vs p h=>by unfold z101.C at h;simp only at h;split at h;exact z14.sound vs p h;simp at h) ⟨Tryz.func192,rfl,by kernel_rfl⟩ z101.loopsT rfl (z101.link _) (by intro v r h;unfold z101.dec at h;split at h<;>cases h;exact ⟨rfl,rfl⟩)
theorem z105.l0_sound (hI:InlOK Tryz.prog z105.C λR=>z105.C.inlK 6):Qh z105.C 6 116 0 0 (Qf 0 (ifun Tryz.f116).body) z105.l0sh z105.l0pack:=by
 refine Qi λls p h=>?_
 unfold z105.l0pack at h;split at h<;>cases h
 rename_i a b c e
 exact Qm hI (sh:=z105.l0sh) (so:=z105.l0sh) (F:=λR rec done x=>z105.l0P a rec done x) (enc:=λ(x':((List UInt8)×Int))=>Qb z105.l0sh [.i a,.s x'.1,.i x'.2,.li e]) [1,2] [1,2] (b,c) (by kernel_rfl) (by kernel_rfl) (λx=>by kernel_rfl) (λo=>by kernel_rfl) λR k d x'=>z105.l0_link R k d a (x'.1) (x'.2) e
theorem Qu7:Qk (ifun Tryz.f116).body=true:=by kernel_rfl
theorem z105.loopsT (hI:InlOK Tryz.prog z105.C λR=>z105.C.inlK 6):LoopsOK z105.C (λR=>z105.C.inlK 6) 116 0 (ifun Tryz.f116).body:=by
 intro id b hm st p hp
 obtain rfl:=Ql Qu7 hm
 unfold z105.C at hp
 simp only at hp
 try split at hp
 all_goals first
  |(simp at hp;done)
  |(exfalso;omega)
  |exact z105.l0_sound hI st p hp
theorem z105.sound:Sn z105.pack 116:=by
 intro vs p h;unfold z105.pack at h;split at h<;>cases h
 exact Qo Qd Qe rfl rfl rfl (λg vs p h=>by unfold z105.C at h;simp only at h;split at h;exact z101.sound vs p h;simp at h) ⟨Tryz.func116,rfl,by kernel_rfl⟩ z105.loopsT rfl (z105.link _) (by intro v r h;unfold z105.dec at h;split at h<;>cases h;exact ⟨rfl,rfl⟩)
theorem z106.sound:Sn z106.pack 35:=by
 intro vs p h;unfold z106.pack at h;split at h<;>cases h
 exact Qg Qd Qe rfl rfl rfl rfl (λg vs p h=>by unfold z106.C at h;simp only at h;split at h;exact z7.sound vs p h;simp at h) ⟨Tryz.func35,rfl,by kernel_rfl⟩ rfl (z106.link _ _) (by intro v r h;unfold z106.dec at h;split at h<;>cases h;exact ⟨rfl,rfl⟩)
theorem z107.l0b6_sound (hI:InlOK Tryz.prog z107.C λR=>z107.C.inlK 6):Qh z107.C 6 170 0 0 (Qf 0 (ifun Tryz.f170).body) z107.l0b6sh z107.l0b6pack:=by
 refine Qi λls p h=>?_
 unfold z107.l0b6pack at h;split at h<;>cases h
 rename_i a b c e g j
 exact Qm hI (sh:=z107.l0b6sh) (so:=z107.l0b6sh) (F:=λR rec done x=>z107.l0b6P a b rec done x) (enc:=λ(x':(Int×Int×(List Int)))=>Qb z107.l0b6sh [.li a,.li b,.i x'.1,.i x'.2.1,.li g,.li x'.2.2]) [2,3,5] [2,3,5] (c,e,j) (by kernel_rfl) (by kernel_rfl) (λx=>by kernel_rfl) (λo=>by kernel_rfl) λR k d x'=>z107.l0b6_link R k d a b (x'.1) (x'.2.1) g (x'.2.2)
theorem Qud:Qk (ifun Tryz.f170).body=true:=by kernel_rfl
theorem z107.loopsT (hI:InlOK Tryz.prog z107.C λR=>z107.C.inlK 6):LoopsOK z107.C (λR=>z107.C.inlK 6) 170 0 (ifun Tryz.f170).body:=by
 intro id b hm st p hp
 obtain rfl:=Ql Qud hm
 unfold z107.C at hp
 simp only at hp
 try split at hp
 all_goals first
  |(simp at hp;done)
  |(exfalso;omega)
  |exact z107.l0b6_sound hI st p hp
theorem z107.sound:Sn z107.pack 170:=by
 intro vs p h;unfold z107.pack at h;split at h<;>cases h
 exact Qo Qd Qe rfl rfl rfl (λg vs p h=>by unfold z107.C at h;simp only at h;split at h;exact z13.sound vs p h;exact z14.sound vs p h;simp at h) ⟨Tryz.func170,rfl,by kernel_rfl⟩ z107.loopsT rfl (z107.link _ _) (by intro v r h;unfold z107.dec at h;split at h<;>cases h;exact ⟨rfl,rfl⟩)
theorem z108.l0_sound (hI:InlOK Tryz.prog z108.C λR=>z108.C.inlK 6):Qh z108.C 6 171 0 0 (Qf 0 (ifun Tryz.f171).body) z108.l0sh z108.l0pack:=by
 refine Qi λls p h=>?_
 unfold z108.l0pack at h;split at h<;>cases h
 rename_i a b c e
 exact Q4 hI (sh:=z108.l0sh) (so:=z108.l0sh) (so':=z108.l0so1) (F:=λR rec done x=>z108.l0P a b rec done x) (enc:=λ(x':Int)=>Qb z108.l0sh [.li a,.li b,.i c,.i x']) (.exit 0) [3] [3] [0] e (by kernel_rfl) (by kernel_rfl) (λx=>by kernel_rfl) (λo=>by kernel_rfl) (λo=>by kernel_rfl) λR k d x'=>z108.l0_link R k d a b c (x')
theorem Q3z:Qk (ifun Tryz.f171).body=true:=by kernel_rfl
theorem z108.loopsT (hI:InlOK Tryz.prog z108.C λR=>z108.C.inlK 6):LoopsOK z108.C (λR=>z108.C.inlK 6) 171 0 (ifun Tryz.f171).body:=by
 intro id b hm st p hp
 obtain rfl:=Ql Q3z hm
 unfold z108.C at hp
 simp only at hp
 try split at hp
 all_goals first
  |(simp at hp;done)
  |(exfalso;omega)
  |exact z108.l0_sound hI st p hp
theorem z108.sound:Sn z108.pack 171:=by
 intro vs p h;unfold z108.pack at h;split at h<;>cases h
 exact Qo Qd Qe rfl rfl rfl (λg vs p h=>by simp [z108.C] at h) ⟨Tryz.func171,rfl,by kernel_rfl⟩ z108.loopsT rfl (z108.link _ _) (by intro v r h;unfold z108.dec at h;split at h<;>cases h;exact ⟨rfl,rfl⟩)
theorem z109.l0_sound (hI:InlOK Tryz.prog z109.C λR=>z109.C.inlK 6):Qh z109.C 6 172 0 0 (Qf 0 (ifun Tryz.f172).body) z109.l0sh z109.l0pack:=by
 refine Qi λls p h=>?_
 unfold z109.l0pack at h;split at h<;>cases h
 rename_i a b c e g j
 exact Qm hI (sh:=z109.l0sh) (so:=z109.l0sh) (F:=λR rec done x=>z109.l0P a b rec done x) (enc:=λ(x':(Int×Int×(List Int)))=>Qb z109.l0sh [.li a,.li b,.i x'.1,.i x'.2.1,.li g,.li x'.2.2]) [2,3,5] [2,3,5] (c,e,j) (by kernel_rfl) (by kernel_rfl) (λx=>by kernel_rfl) (λo=>by kernel_rfl) λR k d x'=>z109.l0_link R k d a b (x'.1) (x'.2.1) g (x'.2.2)
theorem Qxz:Qk (ifun Tryz.f172).body=true:=by kernel_rfl
theorem z109.loopsT (hI:InlOK Tryz.prog z109.C λR=>z109.C.inlK 6):LoopsOK z109.C (λR=>z109.C.inlK 6) 172 0 (ifun Tryz.f172).body:=by
 intro id b hm st p hp
 obtain rfl:=Ql Qxz hm
 unfold z109.C at hp
 simp only at hp
 try split at hp
 all_goals first
  |(simp at hp;done)
  |(exfalso;omega)
  |exact z109.l0_sound hI st p hp
theorem z109.sound:Sn z109.pack 172:=by
 intro vs p h;unfold z109.pack at h;split at h<;>cases h
 exact Qo Qd Qe rfl rfl rfl (λg vs p h=>by unfold z109.C at h;simp only at h;split at h;exact z13.sound vs p h;exact z14.sound vs p h;simp at h) ⟨Tryz.func172,rfl,by kernel_rfl⟩ z109.loopsT rfl (z109.link _ _) (by intro v r h;unfold z109.dec at h;split at h<;>cases h;exact ⟨rfl,rfl⟩)
theorem z110.sound:Sn z110.pack 85:=by
 intro vs p h;unfold z110.pack at h;split at h<;>cases h
 exact Qg Qd Qe rfl rfl rfl rfl (λg vs p h=>by unfold z110.C at h;simp only at h;split at h;exact z107.sound vs p h;exact z7.sound vs p h;exact z108.sound vs p h;exact z109.sound vs p h;simp at h) ⟨Tryz.func85,rfl,by kernel_rfl⟩ rfl (z110.link _ _ _ _) (by intro v r h;unfold z110.dec at h;split at h<;>cases h;exact ⟨rfl,rfl⟩)
theorem z111.sound:Sn z111.pack 63:=by
 intro vs p h;unfold z111.pack at h;split at h<;>cases h
 exact Qg Qd Qe rfl rfl rfl rfl (λg vs p h=>by unfold z111.C at h;simp only at h;split at h;exact z106.sound vs p h;exact z110.sound vs p h;simp at h) ⟨Tryz.func63,rfl,by kernel_rfl⟩ rfl (z111.link _ _ _ _) (by intro v r h;unfold z111.dec at h;split at h<;>cases h;exact ⟨rfl,rfl⟩)
theorem z112.sound:Sn z112.pack 197:=by
 intro vs p h;unfold z112.pack at h;split at h<;>cases h
 exact Qg Qd Qe rfl rfl rfl rfl (λg vs p h=>by simp [z112.C] at h) ⟨Tryz.func197,rfl,by kernel_rfl⟩ rfl (z112.link _ _) (by intro v r h;unfold z112.dec at h;split at h<;>cases h;exact ⟨rfl,rfl⟩)
theorem z113.sound:Sn z113.pack 117:=by
 intro vs p h;unfold z113.pack at h;split at h<;>cases h
 exact Qg Qd Qe rfl rfl rfl rfl (λg vs p h=>by unfold z113.C at h;simp only at h;split at h;exact z111.sound vs p h;exact z112.sound vs p h;simp at h) ⟨Tryz.func117,rfl,by kernel_rfl⟩ rfl (z113.link _ _ _ _) (by intro v r h;unfold z113.dec at h;split at h<;>cases h;exact ⟨rfl,rfl⟩)
theorem z115.l2_sound (hI:InlOK Tryz.prog z115.C λR=>z115.C.inlK 6):Qh z115.C 6 221 2 0 (Qf 2 (ifun Tryz.f221).body) z115.l2sh z115.l2pack:=by
 refine Qi λls p h=>?_
 unfold z115.l2pack at h;split at h<;>cases h
 rename_i a b c e g j m n q
 exact Qm hI (sh:=z115.l2sh) (so:=z115.l2sh) (F:=λR rec done x=>z115.l2P b c rec done x) (enc:=λ(x':(Int×Int))=>Qb z115.l2sh [.li a,.li b,.li c,.i e,.i x'.1,.i x'.2,.li m,.li n,.li q]) [4,5] [4,5] (g,j) (by kernel_rfl) (by kernel_rfl) (λx=>by kernel_rfl) (λo=>by kernel_rfl) λR k d x'=>z115.l2_link R k d a b c e (x'.1) (x'.2) m n q
theorem z115.l0a_sound (hI:InlOK Tryz.prog z115.C λR=>z115.C.inlK 6):Qh z115.C 6 221 0 0 (Qf 0 (ifun Tryz.f221).body) z115.l0ash z115.l0apack:=by
 refine Qi λls p h=>?_
 unfold z115.l0apack at h;split at h<;>cases h
 rename_i a b c e g j m
 exact Qm hI (sh:=z115.l0ash) (so:=z115.l0ash) (F:=λR rec done x=>z115.l0aP a b rec done x) (enc:=λ(x':((List Int)×Int×(List Int)))=>Qb z115.l0ash [.li a,.li b,.li x'.1,.i x'.2.1,.li g,.li j,.li x'.2.2]) [2,3,6] [2,3,6] (c,e,m) (by kernel_rfl) (by kernel_rfl) (λx=>by kernel_rfl) (λo=>by kernel_rfl) λR k d x'=>z115.l0a_link R k d a b (x'.1) (x'.2.1) g j (x'.2.2)
theorem Qzz:Qk (ifun Tryz.f221).body=true:=by kernel_rfl
theorem z115.loopsT (hI:InlOK Tryz.prog z115.C λR=>z115.C.inlK 6):LoopsOK z115.C (λR=>z115.C.inlK 6) 221 0 (ifun Tryz.f221).body:=by
 intro id b hm st p hp
 obtain rfl:=Ql Qzz hm
 unfold z115.C at hp
 simp only at hp
 try split at hp
 all_goals first
  |(simp at hp;done)
  |(exfalso;omega)
  |exact z115.l2_sound hI st p hp
  |exact z115.l0a_sound hI st p hp
theorem z115.sound:Sn z115.pack 221:=by
 intro vs p h;unfold z115.pack at h;split at h<;>cases h
 exact Qo Qd Qe rfl rfl rfl (λg vs p h=>by unfold z115.C at h;simp only at h;split at h;exact z14.sound vs p h;exact z8.sound vs p h;exact z15.sound vs p h;exact z108.sound vs p h;exact z109.sound vs p h;simp at h) ⟨Tryz.func221,rfl,by kernel_rfl⟩ z115.loopsT rfl (z115.link _ _) (by intro v r h;unfold z115.dec at h;split at h<;>cases h;exact ⟨rfl,rfl⟩)
theorem z116.l0_sound (hI:InlOK Tryz.prog z116.C λR=>z116.C.inlK 6):Qh z116.C 6 256 0 0 (Qf 0 (ifun Tryz.f256).body) z116.l0sh z116.l0pack:=by
 refine Qi λls p h=>?_
 unfold z116.l0pack at h;split at h<;>cases h
 rename_i a b c
 exact Qm hI (sh:=z116.l0sh) (so:=z116.l0sh) (F:=λR rec done x=>z116.l0P rec done x) (enc:=λ(x':((List Int)×(List Int)))=>Qb z116.l0sh [.li x'.1,.li x'.2,.li c]) [0,1] [0,1] (a,b) (by kernel_rfl) (by kernel_rfl) (λx=>by kernel_rfl) (λo=>by kernel_rfl) λR k d x'=>z116.l0_link R k d (x'.1) (x'.2) c
theorem Qtq:Qk (ifun Tryz.f256).body=true:=by kernel_rfl
theorem z116.loopsT (hI:InlOK Tryz.prog z116.C λR=>z116.C.inlK 6):LoopsOK z116.C (λR=>z116.C.inlK 6) 256 0 (ifun Tryz.f256).body:=by
 intro id b hm st p hp
 obtain rfl:=Ql Qtq hm
 unfold z116.C at hp
 simp only at hp
 try split at hp
 all_goals first
  |(simp at hp;done)
  |(exfalso;omega)
  |exact z116.l0_sound hI st p hp
theorem z116.sound:Sn z116.pack 256:=by
 intro vs p h;unfold z116.pack at h;split at h<;>cases h
 exact Qo Qd Qe rfl rfl rfl (λg vs p h=>by unfold z116.C at h;simp only at h;split at h;exact z115.sound vs p h;simp at h) ⟨Tryz.func256,rfl,by kernel_rfl⟩ z116.loopsT rfl (z116.link _ _) (by intro v r h;unfold z116.dec at h;split at h<;>cases h;exact ⟨rfl,rfl⟩)
theorem z117.sound:Sn z117.pack 206:=by
 intro vs p h;unfold z117.pack at h;split at h<;>cases h
 exact Qg Qd Qe rfl rfl rfl rfl (λg vs p h=>by unfold z117.C at h;simp only at h;split at h;exact z116.sound vs p h;exact z115.sound vs p h;exact z7.sound vs p h;simp at h) ⟨Tryz.func206,rfl,by kernel_rfl⟩ rfl (z117.link _ _ _) (by intro v r h;unfold z117.dec at h;split at h<;>cases h;exact ⟨rfl,rfl⟩)
theorem z118.sound:Sn z118.pack 205:=by
 intro vs p h;unfold z118.pack at h;split at h<;>cases h
 exact Qg Qd Qe rfl rfl rfl rfl (λg vs p h=>by unfold z118.C at h;simp only at h;split at h;exact z106.sound vs p h;exact z117.sound vs p h;simp at h) ⟨Tryz.func205,rfl,by kernel_rfl⟩ rfl (z118.link _ _ _ _) (by intro v r h;unfold z118.dec at h;split at h<;>cases h;exact ⟨rfl,rfl⟩)
theorem z119.sound:Sn z119.pack 125:=by
 intro vs p h;unfold z119.pack at h;split at h<;>cases h
 exact Qg Qd Qe rfl rfl rfl rfl (λg vs p h=>by unfold z119.C at h;simp only at h;split at h;exact z9.sound vs p h;exact z118.sound vs p h;simp at h) ⟨Tryz.func125,rfl,by kernel_rfl⟩ rfl (z119.link _ _) (by intro v r h;unfold z119.dec at h;split at h<;>cases h;exact ⟨rfl,rfl⟩)
theorem z120.l0b10_sound (hI:InlOK Tryz.prog z120.C λR=>z120.C.inlK 6):Qh z120.C 6 126 0 0 (Qf 0 (ifun Tryz.f126).body) z120.l0b10sh z120.l0b10pack:=by
 refine Qi λls p h=>?_
 unfold z120.l0b10pack at h;split at h<;>cases h
 rename_i a c e g j m n q r t u v w y
 exact Q4 hI (sh:=z120.l0b10sh) (so:=z120.l0b10sh) (so':=z120.l0b10so1) (F:=λR rec done x=>z120.l0b10P a rec done x) (enc:=λ(x':(Int×(List UInt8)×Int×Int×Bool))=>Qb z120.l0b10sh [.s a,.i c,.b e,.i x'.1,.s x'.2.1,.i x'.2.2.1,.i x'.2.2.2.1,.b x'.2.2.2.2,.li r,.b t,.i u,.li v,.b w,.i y]) (.exit 0) [3,4,5,6,7] [3,4,5,6,7] [0] (g,j,m,n,q) (by kernel_rfl) (by kernel_rfl) (λx=>by kernel_rfl) (λo=>by kernel_rfl) (λo=>by kernel_rfl) λR k d x'=>z120.l0b10_link R k d a c e (x'.1) (x'.2.1) (x'.2.2.1) (x'.2.2.2.1) (x'.2.2.2.2) r t u v w y
theorem Q0l:Qk (ifun Tryz.f126).body=true:=by kernel_rfl
theorem z120.loopsT (hI:InlOK Tryz.prog z120.C λR=>z120.C.inlK 6):LoopsOK z120.C (λR=>z120.C.inlK 6) 126 0 (ifun Tryz.f126).body:=by
 intro id b hm st p hp
 obtain rfl:=Ql Q0l hm
 unfold z120.C at hp
 simp only at hp
 try split at hp
 all_goals first
  |(simp at hp;done)
  |(exfalso;omega)
  |exact z120.l0b10_sound hI st p hp
theorem z120.sound:Sn z120.pack 126:=by
 intro vs p h;unfold z120.pack at h;split at h<;>cases h
 exact Qo Qd Qe rfl rfl rfl (λg vs p h=>by unfold z120.C at h;simp only at h;split at h;exact z101.sound vs p h;exact z7.sound vs p h;simp at h) ⟨Tryz.func126,rfl,by kernel_rfl⟩ z120.loopsT rfl (z120.link _) (by intro v r h;unfold z120.dec at h;split at h<;>cases h;exact ⟨rfl,rfl⟩)
theorem z121.sound:Sn z121.pack 127:=by
 intro vs p h;unfold z121.pack at h;split at h<;>cases h
 exact Qg Qd Qe rfl rfl rfl rfl (λg vs p h=>by unfold z121.C at h;simp only at h;split at h;exact z105.sound vs p h;exact z117.sound vs p h;simp at h) ⟨Tryz.func127,rfl,by kernel_rfl⟩ rfl (z121.link _ _ _) (by intro v r h;unfold z121.dec at h;split at h<;>cases h;exact ⟨rfl,rfl⟩)
theorem z122.sound:Sn z122.pack 207:=by
 intro vs p h;unfold z122.pack at h;split at h<;>cases h
 exact Qg Qd Qe rfl rfl rfl rfl (λg vs p h=>by unfold z122.C at h;simp only at h;split at h;exact z7.sound vs p h;exact z16.sound vs p h;simp at h) ⟨Tryz.func207,rfl,by kernel_rfl⟩ rfl (z122.link _ _ _ _ _ _) (by intro v r h;unfold z122.dec at h;split at h<;>cases h;exact ⟨rfl,rfl⟩)
theorem z123.sound:Sn z123.pack 128:=by
 intro vs p h;unfold z123.pack at h;split at h<;>cases h
 exact Qg Qd Qe rfl rfl rfl rfl (λg vs p h=>by unfold z123.C at h;simp only at h;split at h;exact z122.sound vs p h;exact z113.sound vs p h;simp at h) ⟨Tryz.func128,rfl,by kernel_rfl⟩ rfl (z123.link _ _ _ _ _ _) (by intro v r h;unfold z123.dec at h;split at h<;>cases h;exact ⟨rfl,rfl⟩)
theorem z124.sound:Sn z124.pack 129:=by
 intro vs p h;unfold z124.pack at h;split at h<;>cases h
 exact Qg Qd Qe rfl rfl rfl rfl (λg vs p h=>by unfold z124.C at h;simp only at h;split at h;exact z122.sound vs p h;exact z7.sound vs p h;exact z16.sound vs p h;exact z118.sound vs p h;simp at h) ⟨Tryz.func129,rfl,by kernel_rfl⟩ rfl (z124.link _ _ _ _ _ _) (by intro v r h;unfold z124.dec at h;split at h<;>cases h;exact ⟨rfl,rfl⟩)
theorem z125.sound:Sn z125.pack 39:=by
 intro vs p h;unfold z125.pack at h;split at h<;>cases h
 exact Qg Qd Qe rfl rfl rfl rfl (λg vs p h=>by unfold z125.C at h;simp only at h;split at h;exact z119.sound vs p h;exact z120.sound vs p h;exact z121.sound vs p h;exact z123.sound vs p h;exact z124.sound vs p h;simp at h) ⟨Tryz.func39,rfl,by kernel_rfl⟩ rfl (z125.link _) (by intro v r h;unfold z125.dec at h;split at h<;>cases h;exact ⟨rfl,rfl⟩)
theorem z126.sound:Sn z126.pack 80:=by
 intro vs p h;unfold z126.pack at h;split at h<;>cases h
 exact Qg Qd Qe rfl rfl rfl rfl (λg vs p h=>by unfold z126.C at h;simp only at h;split at h;exact z11.sound vs p h;simp at h) ⟨Tryz.func80,rfl,by kernel_rfl⟩ rfl (z126.link _ _ _) (by intro v r h;unfold z126.dec at h;split at h<;>cases h;exact ⟨rfl,rfl⟩)
theorem z132.l0_sound (hI:InlOK Tryz.prog z132.C λR=>z132.C.inlK 6):Qh z132.C 6 81 0 0 (Qf 0 (ifun Tryz.f81).body) z132.l0sh z132.l0pack:=by
 refine Qi λls p h=>?_
 unfold z132.l0pack at h;split at h<;>cases h
 rename_i a b c e
 exact Q4 hI (sh:=z132.l0sh) (so:=z132.l0sh) (so':=z132.l0so1) (F:=λR rec done x=>z132.l0P b c rec done x) (enc:=λ(x':Int)=>Qb z132.l0sh [.i a,.li b,.li c,.i x']) (.exit 0) [3] [3] [0] e (by kernel_rfl) (by kernel_rfl) (λx=>by kernel_rfl) (λo=>by kernel_rfl) (λo=>by kernel_rfl) λR k d x'=>z132.l0_link R k d a b c (x')
theorem Qwy:Qk (ifun Tryz.f81).body=true:=by kernel_rfl
theorem z132.loopsT (hI:InlOK Tryz.prog z132.C λR=>z132.C.inlK 6):LoopsOK z132.C (λR=>z132.C.inlK 6) 81 0 (ifun Tryz.f81).body:=by
 intro id b hm st p hp
 obtain rfl:=Ql Qwy hm
 unfold z132.C at hp
 simp only at hp
 try split at hp
 all_goals first
  |(simp at hp;done)
  |(exfalso;omega)
  |exact z132.l0_sound hI st p hp
theorem z132.sound:Sn z132.pack 81:=by
 intro vs p h;unfold z132.pack at h;split at h<;>cases h
 exact Qo Qd Qe rfl rfl rfl (λg vs p h=>by simp [z132.C] at h) ⟨Tryz.func81,rfl,by kernel_rfl⟩ z132.loopsT rfl (z132.link _ _ _ _ _ _) (by intro v r h;unfold z132.dec at h;split at h<;>cases h;exact ⟨rfl,rfl⟩)
theorem z147.sound:Sn z147.pack 71:=by
 intro vs p h;unfold z147.pack at h;split at h<;>cases h
 exact Qg Qd Qe rfl rfl rfl rfl (λg vs p h=>by unfold z147.C at h;simp only at h;split at h;exact z20.sound vs p h;simp at h) ⟨Tryz.func71,rfl,by kernel_rfl⟩ rfl (z147.link _ _ _) (by intro v r h;unfold z147.dec at h;split at h<;>cases h;exact ⟨rfl,rfl⟩)
theorem z148.sound:Sn z148.pack 216:=by
 intro vs p h;unfold z148.pack at h;split at h<;>cases h
 exact Qg Qd Qe rfl rfl rfl rfl (λg vs p h=>by simp [z148.C] at h) ⟨Tryz.func216,rfl,by kernel_rfl⟩ rfl (z148.link _ _ _) (by intro v r h;unfold z148.dec at h;split at h<;>cases h;exact ⟨rfl,rfl⟩)
theorem z149.sound:Sn z149.pack 217:=by
 intro vs p h;unfold z149.pack at h;split at h<;>cases h
 exact Qg Qd Qe rfl rfl rfl rfl (λg vs p h=>by unfold z149.C at h;simp only at h;split at h;exact z24.sound vs p h;exact z29.sound vs p h;exact z60.sound vs p h;simp at h) ⟨Tryz.func217,rfl,by kernel_rfl⟩ rfl (z149.link _ _ _ _) (by intro v r h;unfold z149.dec at h;split at h<;>cases h;exact ⟨rfl,rfl⟩)
theorem z150.sound:Sn z150.pack 150:=by
 intro vs p h;unfold z150.pack at h;split at h<;>cases h
 exact Qg Qd Qe rfl rfl rfl rfl (λg vs p h=>by unfold z150.C at h;simp only at h;split at h;exact z79.sound vs p h;exact z148.sound vs p h;exact z59.sound vs p h;exact z73.sound vs p h;exact z68.sound vs p h;exact z19.sound vs p h;exact z149.sound vs p h;exact z38.sound vs p h;exact z24.sound vs p h;exact z147.sound vs p h;exact z21.sound vs p h;simp at h) ⟨Tryz.func150,rfl,by kernel_rfl⟩ rfl (z150.link _ _ _ _) (by intro v r h;unfold z150.dec at h;split at h<;>cases h;exact ⟨rfl,rfl⟩)
theorem z151.sound:Sn z151.pack 78:=by
 intro vs p h;unfold z151.pack at h;split at h<;>cases h
 exact Qg Qd Qe rfl rfl rfl rfl (λg vs p h=>by unfold z151.C at h;simp only at h;split at h;exact z74.sound vs p h;exact z54.sound vs p h;exact z31.sound vs p h;exact z73.sound vs p h;exact z40.sound vs p h;exact z70.sound vs p h;simp at h) ⟨Tryz.func78,rfl,by kernel_rfl⟩ rfl (z151.link _ _ _ _ _ _) (by intro v r h;unfold z151.dec at h;split at h<;>cases h;exact ⟨rfl,rfl⟩)
theorem z152.sound:Sn z152.pack 89:=by
 intro vs p h;unfold z152.pack at h;split at h<;>cases h
 exact Qg Qd Qe rfl rfl rfl rfl (λg vs p h=>by unfold z152.C at h;simp only at h;split at h;exact z54.sound vs p h;exact z73.sound vs p h;exact z40.sound vs p h;exact z70.sound vs p h;simp at h) ⟨Tryz.func89,rfl,by kernel_rfl⟩ rfl (z152.link _ _ _ _ _ _) (by intro v r h;unfold z152.dec at h;split at h<;>cases h;exact ⟨rfl,rfl⟩)
theorem z153.sound:Sn z153.pack 230:=by
 intro vs p h;unfold z153.pack at h;split at h<;>cases h
 exact Qg Qd Qe rfl rfl rfl rfl (λg vs p h=>by unfold z153.C at h;simp only at h;split at h;exact z48.sound vs p h;exact z71.sound vs p h;simp at h) ⟨Tryz.func230,rfl,by kernel_rfl⟩ rfl (z153.link _ _) (by intro v r h;unfold z153.dec at h;split at h<;>cases h;exact ⟨rfl,rfl⟩)
theorem z154.sound:Sn z154.pack 229:=by
 intro vs p h;unfold z154.pack at h;split at h<;>cases h
 exact Qg Qd Qe rfl rfl rfl rfl (λg vs p h=>by unfold z154.C at h;simp only at h;split at h;exact z153.sound vs p h;simp at h) ⟨Tryz.func229,rfl,by kernel_rfl⟩ rfl (z154.link _ _ _ _ _ _) (by intro v r h;unfold z154.dec at h;split at h<;>cases h;exact ⟨rfl,rfl⟩)
theorem z155.sound:Sn z155.pack 65:=by
 intro vs p h;unfold z155.pack at h;split at h<;>cases h
 exact Qg Qd Qe rfl rfl rfl rfl (λg vs p h=>by unfold z155.C at h;simp only at h;split at h;exact z98.sound vs p h;simp at h) ⟨Tryz.func65,rfl,by kernel_rfl⟩ rfl (z155.link _ _ _ _ _ _) (by intro v r h;unfold z155.dec at h;split at h<;>cases h;exact ⟨rfl,rfl⟩)
theorem z156.sound:Sn z156.pack 231:=by
 intro vs p h;unfold z156.pack at h;split at h<;>cases h
 exact Qg Qd Qe rfl rfl rfl rfl (λg vs p h=>by unfold z156.C at h;simp only at h;split at h;exact z155.sound vs p h;simp at h) ⟨Tryz.func231,rfl,by kernel_rfl⟩ rfl (z156.link _ _ _ _ _ _) (by intro v r h;unfold z156.dec at h;split at h<;>cases h;exact ⟨rfl,rfl⟩)
theorem z157.sound:Sn z157.pack 269:=by
 intro vs p h;unfold z157.pack at h;split at h<;>cases h
 exact Qg Qd Qe rfl rfl rfl rfl (λg vs p h=>by unfold z157.C at h;simp only at h;split at h;exact z87.sound vs p h;simp at h) ⟨Tryz.func269,rfl,by kernel_rfl⟩ rfl (z157.link _) (by intro v r h;unfold z157.dec at h;split at h<;>cases h;exact ⟨rfl,rfl⟩)
theorem z158.sound:Sn z158.pack 232:=by
 intro vs p h;unfold z158.pack at h;split at h<;>cases h
 exact Qg Qd Qe rfl rfl rfl rfl (λg vs p h=>by unfold z158.C at h;simp only at h;split at h;exact z156.sound vs p h;exact z157.sound vs p h;exact z153.sound vs p h;exact z151.sound vs p h;simp at h) ⟨Tryz.func232,rfl,by kernel_rfl⟩ rfl (z158.link _ _ _ _ _ _) (by intro v r h;unfold z158.dec at h;split at h<;>cases h;exact ⟨rfl,rfl⟩)
theorem z159.sound:Sn z159.pack 165:=by
 intro vs p h;unfold z159.pack at h;split at h<;>cases h
 exact Qg Qd Qe rfl rfl rfl rfl (λg vs p h=>by unfold z159.C at h;simp only at h;split at h;exact z82.sound vs p h;exact z89.sound vs p h;exact z96.sound vs p h;exact z154.sound vs p h;exact z156.sound vs p h;exact z153.sound vs p h;exact z158.sound vs p h;simp at h) ⟨Tryz.func165,rfl,by kernel_rfl⟩ rfl (z159.link _ _ _ _ _ _ _) (by intro v r h;unfold z159.dec at h;split at h<;>cases h;exact ⟨rfl,rfl⟩)
theorem z163.sound:Sn z163.pack 220:=by
 intro vs p h;unfold z163.pack at h;split at h<;>cases h
 exact Qg Qd Qe rfl rfl rfl rfl (λg vs p h=>by unfold z163.C at h;simp only at h;split at h;exact z122.sound vs p h;exact z110.sound vs p h;exact z15.sound vs p h;exact z117.sound vs p h;simp at h) ⟨Tryz.func220,rfl,by kernel_rfl⟩ rfl (z163.link _ _ _ _ _ _) (by intro v r h;unfold z163.dec at h;split at h<;>cases h;exact ⟨rfl,rfl⟩)
theorem z164.l0_sound (hI:InlOK Tryz.prog z164.C λR=>z164.C.inlK 6):Qh z164.C 6 233 0 0 (Qf 0 (ifun Tryz.f233).body) z164.l0sh z164.l0pack:=by
 refine Qi λls p h=>?_
 unfold z164.l0pack at h;split at h<;>cases h
 rename_i a b c e g j
 exact Qm hI (sh:=z164.l0sh) (so:=z164.l0sh) (F:=λR rec done x=>z164.l0P e rec done x) (enc:=λ(x':(Int×Int))=>Qb z164.l0sh [.i a,.i x'.1,.i x'.2,.i e,.i g,.i j]) [1,2] [1,2] (b,c) (by kernel_rfl) (by kernel_rfl) (λx=>by kernel_rfl) (λo=>by kernel_rfl) λR k d x'=>z164.l0_link R k d a (x'.1) (x'.2) e g j
theorem z164.l2_sound (hI:InlOK Tryz.prog z164.C λR=>z164.C.inlK 6):Qh z164.C 6 233 2 0 (Qf 2 (ifun Tryz.f233).body) z164.l2sh z164.l2pack:=by
 refine Qi λls p h=>?_
 unfold z164.l2pack at h;split at h<;>cases h
 rename_i a b c e g j
 exact Qm hI (sh:=z164.l2sh) (so:=z164.l2sh) (F:=λR rec done x=>z164.l2P e g rec done x) (enc:=λ(x':(Int×Int))=>Qb z164.l2sh [.i a,.i x'.1,.i x'.2,.i e,.i g,.i j]) [1,2] [1,2] (b,c) (by kernel_rfl) (by kernel_rfl) (λx=>by kernel_rfl) (λo=>by kernel_rfl) λR k d x'=>z164.l2_link R k d a (x'.1) (x'.2) e g j
theorem Qv7:Qk (ifun Tryz.f233).body=true:=by kernel_rfl
theorem z164.loopsT (hI:InlOK Tryz.prog z164.C λR=>z164.C.inlK 6):LoopsOK z164.C (λR=>z164.C.inlK 6) 233 0 (ifun Tryz.f233).body:=by
 intro id b hm st p hp
 obtain rfl:=Ql Qv7 hm
 unfold z164.C at hp
 simp only at hp
 try split at hp
 all_goals first
  |(simp at hp;done)
  |(exfalso;omega)
  |exact z164.l0_sound hI st p hp
  |exact z164.l2_sound hI st p hp
theorem z164.sound:Sn z164.pack 233:=by
 intro vs p h;unfold z164.pack at h;split at h<;>cases h
 exact Qo Qd Qe rfl rfl rfl (λg vs p h=>by unfold z164.C at h;simp only at h;split at h;exact z10.sound vs p h;exact z11.sound vs p h;simp at h) ⟨Tryz.func233,rfl,by kernel_rfl⟩ z164.loopsT rfl (z164.link _ _ _) (by intro v r h;unfold z164.dec at h;split at h<;>cases h;exact ⟨rfl,rfl⟩)
theorem z165.l0_sound (hI:InlOK Tryz.prog z165.C λR=>z165.C.inlK 6):Qh z165.C 6 166 0 0 (Qf 0 (ifun Tryz.f166).body) z165.l0sh z165.l0pack:=by
 refine Qi λls p h=>?_
 unfold z165.l0pack at h;split at h<;>cases h
 rename_i a c e g j m n q r s t u
 exact Qm hI (sh:=z165.l0sh) (so:=z165.l0sh) (F:=λR rec done x=>z165.l0P a c g rec done x) (enc:=λ(x':(Int×(List Int)×Bool×(List Int)))=>Qb z165.l0sh [.i a,.i c,.i x'.1,.i g,.i j,.i m,.li n,.b q,.li r,.li x'.2.1,.b x'.2.2.1,.li x'.2.2.2]) [2,9,10,11] [2,9,10,11] (e,s,t,u) (by kernel_rfl) (by kernel_rfl) (λx=>by kernel_rfl) (λo=>by kernel_rfl) λR k d x'=>z165.l0_link R k d a c (x'.1) g j m n q r (x'.2.1) (x'.2.2.1) (x'.2.2.2)
theorem Qxg:Qk (ifun Tryz.f166).body=true:=by kernel_rfl
theorem z165.loopsT (hI:InlOK Tryz.prog z165.C λR=>z165.C.inlK 6):LoopsOK z165.C (λR=>z165.C.inlK 6) 166 0 (ifun Tryz.f166).body:=by
 intro id b hm st p hp
 obtain rfl:=Ql Qxg hm
 unfold z165.C at hp
 simp only at hp
 try split at hp
 all_goals first
  |(simp at hp;done)
  |(exfalso;omega)
  |exact z165.l0_sound hI st p hp
theorem z165.sound:Sn z165.pack 166:=by
 intro vs p h;unfold z165.pack at h;split at h<;>cases h
 exact Qo Qd Qe rfl rfl rfl (λg vs p h=>by unfold z165.C at h;simp only at h;split at h;exact z119.sound vs p h;exact z164.sound vs p h;exact z10.sound vs p h;exact z163.sound vs p h;simp at h) ⟨Tryz.func166,rfl,by kernel_rfl⟩ z165.loopsT rfl (z165.link _ _ _ _ _ _ _) (by intro v r h;unfold z165.dec at h;split at h<;>cases h;exact ⟨rfl,rfl⟩)
theorem z166.sound:Sn z166.pack 167:=by
 intro vs p h;unfold z166.pack at h;split at h<;>cases h
 exact Qg Qd Qe rfl rfl rfl rfl (λg vs p h=>by simp [z166.C] at h) ⟨Tryz.func167,rfl,by kernel_rfl⟩ rfl (z166.link _ _) (by intro v r h;unfold z166.dec at h;split at h<;>cases h;exact ⟨rfl,rfl⟩)
theorem z167.sound:Sn z167.pack 168:=by
 intro vs p h;unfold z167.pack at h;split at h<;>cases h
 exact Qg Qd Qe rfl rfl rfl rfl (λg vs p h=>by unfold z167.C at h;simp only at h;split at h;exact z16.sound vs p h;exact z15.sound vs p h;exact z117.sound vs p h;simp at h) ⟨Tryz.func168,rfl,by kernel_rfl⟩ rfl (z167.link _ _ _ _ _ _) (by intro v r h;unfold z167.dec at h;split at h<;>cases h;exact ⟨rfl,rfl⟩)
theorem z169.sound:Sn z169.pack 155:=by
 intro vs p h;unfold z169.pack at h;split at h<;>cases h
 exact Qg Qd Qe rfl rfl rfl rfl (λg vs p h=>by unfold z169.C at h;simp only at h;split at h;exact z115.sound vs p h;exact z107.sound vs p h;exact z15.sound vs p h;exact z108.sound vs p h;exact z7.sound vs p h;simp at h) ⟨Tryz.func155,rfl,by kernel_rfl⟩ rfl (z169.link _ _ _ _) (by intro v r h;unfold z169.dec at h;split at h<;>cases h;exact ⟨rfl,rfl⟩)
theorem z185.sound:Sn z185.pack 79:=by
 intro vs p h;unfold z185.pack at h;split at h<;>cases h
 exact Qg Qd Qe rfl rfl rfl rfl (λg vs p h=>by unfold z185.C at h;simp only at h;split at h;exact z91.sound vs p h;exact z159.sound vs p h;exact z76.sound vs p h;exact z47.sound vs p h;exact z152.sound vs p h;exact z150.sound vs p h;simp at h) ⟨Tryz.func79,rfl,by kernel_rfl⟩ rfl (z185.link _ _ _ _ _ _ _ _ _ _ _ _ _ _ _ _ _ _) (by intro v r h;unfold z185.dec at h;split at h<;>cases h;exact ⟨rfl,rfl⟩)
theorem z186.sound:Sn z186.pack 82:=by
 intro vs p h;unfold z186.pack at h;split at h<;>cases h
 exact Qg Qd Qe rfl rfl rfl rfl (λg vs p h=>by unfold z186.C at h;simp only at h;split at h;exact z125.sound vs p h;exact z165.sound vs p h;exact z166.sound vs p h;exact z167.sound vs p h;exact z169.sound vs p h;simp at h) ⟨Tryz.func82,rfl,by kernel_rfl⟩ rfl (z186.link _ _ _ _ _ _ _ _ _ _ _ _ _ _ _ _ _ _) (by intro v r h;unfold z186.dec at h;split at h<;>cases h;exact ⟨rfl,rfl⟩)
theorem z187.l0_sound (hI:InlOK Tryz.prog z187.C λR=>z187.C.inlK 6):Qh z187.C 6 84 0 0 (Qf 0 (ifun Tryz.f84).body) z187.l0sh z187.l0pack:=by
 refine Qi λls p h=>?_
 unfold z187.l0pack at h;split at h<;>cases h
 rename_i a c e g j m n q r s t u
 exact Q4 hI (sh:=z187.l0sh) (so:=z187.l0sh) (so':=z187.l0so1) (F:=λR rec done x=>z187.l0P c e rec done x) (enc:=λ(x':(Int×(List Int)×Bool×(List Int)×Bool))=>Qb z187.l0sh [.i a,.lr c,.i e,.i x'.1,.li j,.b m,.li n,.b q,.li x'.2.1,.b x'.2.2.1,.li x'.2.2.2.1,.b x'.2.2.2.2]) (.exit 0) [3,8,9,10,11] [3,8,9,10,11] [0,1,2,3,4,5,6,7,8] (g,r,s,t,u) (by kernel_rfl) (by kernel_rfl) (λx=>by kernel_rfl) (λo=>by kernel_rfl) (λo=>by kernel_rfl) λR k d x'=>z187.l0_link R k d a c e (x'.1) j m n q (x'.2.1) (x'.2.2.1) (x'.2.2.2.1) (x'.2.2.2.2)
theorem Qyx:Qk (ifun Tryz.f84).body=true:=by kernel_rfl
theorem z187.loopsT (hI:InlOK Tryz.prog z187.C λR=>z187.C.inlK 6):LoopsOK z187.C (λR=>z187.C.inlK 6) 84 0 (ifun Tryz.f84).body:=by
 intro id b hm st p hp
 obtain rfl:=Ql Qyx hm
 unfold z187.C at hp
 simp only at hp
 try split at hp
 all_goals first
  |(simp at hp;done)
  |(exfalso;omega)
  |exact z187.l0_sound hI st p hp
theorem z187.sound:Sn z187.pack 84:=by
 intro vs p h;unfold z187.pack at h;split at h<;>cases h
 exact Qo Qd Qe rfl rfl rfl (λg vs p h=>by unfold z187.C at h;simp only at h;split at h;exact z46.sound vs p h;exact z31.sound vs p h;simp at h) ⟨Tryz.func84,rfl,by kernel_rfl⟩ z187.loopsT rfl (z187.link _) (by intro v r h;unfold z187.dec at h;split at h<;>cases h;exact ⟨rfl,rfl⟩)
theorem z188.sound:Sn z188.pack 88:=by
 intro vs p h;unfold z188.pack at h;split at h<;>cases h
 exact Qg Qd Qe rfl rfl rfl rfl (λg vs p h=>by unfold z188.C at h;simp only at h;split at h;exact z76.sound vs p h;exact z48.sound vs p h;exact z71.sound vs p h;exact z152.sound vs p h;simp at h) ⟨Tryz.func88,rfl,by kernel_rfl⟩ rfl (z188.link _ _) (by intro v r h;unfold z188.dec at h;split at h<;>cases h;exact ⟨rfl,rfl⟩)
theorem z189.sound:Sn z189.pack 270:=by
 intro vs p h;unfold z189.pack at h;split at h<;>cases h
 exact Qg Qd Qe rfl rfl rfl rfl (λg vs p h=>by unfold z189.C at h;simp only at h;split at h;exact z19.sound vs p h;exact z61.sound vs p h;simp at h) ⟨Tryz.func270,rfl,by kernel_rfl⟩ rfl (z189.link _) (by intro v r h;unfold z189.dec at h;split at h<;>cases h;exact ⟨rfl,rfl⟩)
theorem z190.sound:Sn z190.pack 238:=by
 intro vs p h;unfold z190.pack at h;split at h<;>cases h
 exact Qg Qd Qe rfl rfl rfl rfl (λg vs p h=>by unfold z190.C at h;simp only at h;split at h;exact z189.sound vs p h;exact z43.sound vs p h;simp at h) ⟨Tryz.func238,rfl,by kernel_rfl⟩ rfl (z190.link _ _) (by intro v r h;unfold z190.dec at h;split at h<;>cases h;exact ⟨rfl,rfl⟩)
theorem z191.sound:Sn z191.pack 239:=by
 intro vs p h;unfold z191.pack at h;split at h<;>cases h
 exact Qg Qd Qe rfl rfl rfl rfl (λg vs p h=>by unfold z191.C at h;simp only at h;split at h;exact z21.sound vs p h;simp at h) ⟨Tryz.func239,rfl,by kernel_rfl⟩ rfl (z191.link _) (by intro v r h;unfold z191.dec at h;split at h<;>cases h;exact ⟨rfl,rfl⟩)
theorem z192.sound:Sn z192.pack 175:=by
 intro vs p h;unfold z192.pack at h;split at h<;>cases h
 exact Qg Qd Qe rfl rfl rfl rfl (λg vs p h=>by unfold z192.C at h;simp only at h;split at h;exact z147.sound vs p h;exact z48.sound vs p h;exact z47.sound vs p h;exact z75.sound vs p h;exact z73.sound vs p h;exact z148.sound vs p h;exact z59.sound vs p h;exact z24.sound vs p h;exact z190.sound vs p h;exact z30.sound vs p h;exact z54.sound vs p h;exact z191.sound vs p h;exact z40.sound vs p h;exact z71.sound vs p h;simp at h) ⟨Tryz.func175,rfl,by kernel_rfl⟩ rfl (z192.link _ _ _ _ _ _ _) (by intro v r h;unfold z192.dec at h;split at h<;>cases h;exact ⟨rfl,rfl⟩)
theorem z193.sound:Sn z193.pack 87:=by
 intro vs p h;unfold z193.pack at h;split at h<;>cases h
 exact Qg Qd Qe rfl rfl rfl rfl (λg vs p h=>by unfold z193.C at h;simp only at h;split at h;exact z188.sound vs p h;exact z20.sound vs p h;exact z47.sound vs p h;exact z192.sound vs p h;exact z150.sound vs p h;simp at h) ⟨Tryz.func87,rfl,by kernel_rfl⟩ rfl (z193.link _ _ _ _ _ _) (by intro v r h;unfold z193.dec at h;split at h<;>cases h;exact ⟨rfl,rfl⟩)
theorem z194.sound:Sn z194.pack 236:=by
 intro vs p h;unfold z194.pack at h;split at h<;>cases h
 exact Qg Qd Qe rfl rfl rfl rfl (λg vs p h=>by unfold z194.C at h;simp only at h;split at h;exact z20.sound vs p h;exact z48.sound vs p h;exact z71.sound vs p h;exact z150.sound vs p h;simp at h) ⟨Tryz.func236,rfl,by kernel_rfl⟩ rfl (z194.link _ _ _ _) (by intro v r h;unfold z194.dec at h;split at h<;>cases h;exact ⟨rfl,rfl⟩)
theorem z195.sound:Sn z195.pack 173:=by
 intro vs p h;unfold z195.pack at h;split at h<;>cases h
 exact Qg Qd Qe rfl rfl rfl rfl (λg vs p h=>by unfold z195.C at h;simp only at h;split at h;exact z46.sound vs p h;exact z193.sound vs p h;exact z194.sound vs p h;simp at h) ⟨Tryz.func173,rfl,by kernel_rfl⟩ rfl (z195.link _ _ _ _ _ _ _ _ _ _) (by intro v r h;unfold z195.dec at h;split at h<;>cases h;exact ⟨rfl,rfl⟩)
theorem meth39_Cmp:MethOK Tryz.prog 39 "Cmp" 74:=λrecv w=>by kernel_rfl
theorem z196.meths (t:Nat) (m:String) (g:Nat) (h:z196.C.meth t m=some g):MethOK Tryz.prog t m g:=by
 unfold z196.C at h;simp only at h
 split at h
 ·rename_i e;obtain ⟨rfl,rfl⟩:=e;cases h;exact meth39_Cmp
 ·simp at h
theorem z196.sound:Sn z196.pack 237:=by
 intro vs p h;unfold z196.pack at h;split at h<;>cases h
 exact Qyw Qd Qe rfl rfl rfl rfl (λg vs p h=>by unfold z196.C at h;simp only at h;split at h;exact z34.sound vs p h;simp at h) z196.meths ⟨Tryz.func237,rfl,by kernel_rfl⟩ rfl (z196.link _ _ _ _) (by intro v r h;unfold z196.dec at h;split at h<;>cases h;exact ⟨rfl,rfl⟩)
theorem z197.sound:Sn z197.pack 174:=by
 intro vs p h;unfold z197.pack at h;split at h<;>cases h
 exact Qg Qd Qe rfl rfl rfl rfl (λg vs p h=>by unfold z197.C at h;simp only at h;split at h;exact z33.sound vs p h;exact z20.sound vs p h;exact z196.sound vs p h;simp at h) ⟨Tryz.func174,rfl,by kernel_rfl⟩ rfl (z197.link _ _ _ _ _ _ _) (by intro v r h;unfold z197.dec at h;split at h<;>cases h;exact ⟨rfl,rfl⟩)
theorem z198.l0_sound (hI:InlOK Tryz.prog z198.C λR=>z198.C.inlK 6):Qh z198.C 6 86 0 0 (Qf 0 (ifun Tryz.f86).body) z198.l0sh z198.l0pack:=by
 refine Qi λls p h=>?_
 unfold z198.l0pack at h;split at h<;>cases h
 rename_i a c e g j m n q r t u v w y z A B D E G H
 exact Q4 hI (sh:=z198.l0sh) (so:=z198.l0sh) (so':=z198.l0so1) (F:=λR rec done x=>z198.l0P c e g m n q r t u v w y z B D rec done x) (enc:=λ(x':(Int×(List Int)×Bool×(List (List V))))=>Qb z198.l0sh [.i a,.lr c,.lr e,.i g,.i x'.1,.s m,.s n,.i q,.i r,.i t,.i u,.i v,.i w,.i y,.i z,.lr A,.li B,.b D,.li x'.2.1,.b x'.2.2.1,.lr x'.2.2.2]) (.exit 0) [4,18,19,20] [4,18,19,20] [0,1,15,16,17] (j,E,G,H) (by kernel_rfl) (by kernel_rfl) (λx=>by kernel_rfl) (λo=>by kernel_rfl) (λo=>by kernel_rfl) λR k d x'=>z198.l0_link R k d a c e g (x'.1) m n q r t u v w y z A B D (x'.2.1) (x'.2.2.1) (x'.2.2.2)
theorem Q2i:Qk (ifun Tryz.f86).body=true:=by kernel_rfl
theorem z198.loopsT (hI:InlOK Tryz.prog z198.C λR=>z198.C.inlK 6):LoopsOK z198.C (λR=>z198.C.inlK 6) 86 0 (ifun Tryz.f86).body:=by
 intro id b hm st p hp
 obtain rfl:=Ql Q2i hm
 unfold z198.C at hp
 simp only at hp
 try split at hp
 all_goals first
  |(simp at hp;done)
  |(exfalso;omega)
  |exact z198.l0_sound hI st p hp
theorem z198.sound:Sn z198.pack 86:=by
 intro vs p h;unfold z198.pack at h;split at h<;>cases h
 exact Qo Qd Qe rfl rfl rfl (λg vs p h=>by unfold z198.C at h;simp only at h;split at h;exact z94.sound vs p h;exact z195.sound vs p h;exact z46.sound vs p h;exact z185.sound vs p h;exact z197.sound vs p h;exact z33.sound vs p h;exact z135.sound vs p h;exact z31.sound vs p h;simp at h) ⟨Tryz.func86,rfl,by kernel_rfl⟩ z198.loopsT rfl (z198.link _ _ _ _ _ _ _ _ _ _) (by intro v r h;unfold z198.dec at h;split at h<;>cases h;exact ⟨rfl,rfl⟩)
theorem z199.sound:Sn z199.pack 169:=by
 intro vs p h;unfold z199.pack at h;split at h<;>cases h
 exact Qg Qd Qe rfl rfl rfl rfl (λg vs p h=>by simp [z199.C] at h) ⟨Tryz.func169,rfl,by kernel_rfl⟩ rfl z199.link (by intro v r h;unfold z199.dec at h;split at h<;>cases h;exact ⟨rfl,rfl⟩)
theorem z200.sound:Sn z200.pack 83:=by
 intro vs p h;unfold z200.pack at h;split at h<;>cases h
 exact Qg Qd Qe rfl rfl rfl rfl (λg vs p h=>by unfold z200.C at h;simp only at h;split at h;exact z199.sound vs p h;exact z198.sound vs p h;exact z187.sound vs p h;exact z135.sound vs p h;exact z20.sound vs p h;simp at h) ⟨Tryz.func83,rfl,by kernel_rfl⟩ rfl z200.link (by intro v r h;unfold z200.dec at h;split at h<;>cases h;exact ⟨rfl,rfl⟩)
theorem Qrh:FunOK Tryz.prog 18 Tryz.f18 (ifun Tryz.f18).body:=⟨Tryz.func18,rfl,by kernel_rfl⟩
theorem z201.sound:Sn z201.pack 18:=by
 intro vs p h;unfold z201.pack at h;split at h<;>cases h
 exact Qg Qd Qe rfl rfl rfl rfl (λg vs p h=>by unfold z201.C at h;simp only at h;split at h;exact z18.sound vs p h;exact z48.sound vs p h;exact z185.sound vs p h;exact z126.sound vs p h;exact z132.sound vs p h;exact z20.sound vs p h;exact z135.sound vs p h;exact z9.sound vs p h;exact z186.sound vs p h;exact z6.sound vs p h;exact z200.sound vs p h;simp at h) Qrh rfl (z201.link _ _ _ _ _ _ _ _ _ _ _ _ _ _ _ _ _ _ _) (by intro v r h;unfold z201.dec at h;split at h<;>cases h;exact ⟨rfl,rfl⟩)
end
end Go.Proofs.YtgjncgiekniniaaGreatDoor.A
end
section
namespace Go.Proofs.YtgjncgiekniniaaGreatDoor.A
open Go Go.RowKit Go.ChangeShapes Go.WideShapes
noncomputable section
inductive SC where
 |b
 |i (k:IntKind)
 |s
inductive CT where
 |sc (c:SC)
 |sl (cs:List SC)
def scOf:CT->Option SC
 |.sc c=>some c
 |_=>none
def Q4g:List CT->Option (List SC)
 |[]=>some []
 |c::l=>(scOf c).bind λx=>(Q4g l).map (x :: ·)
def okS:SC->V->Prop
 |.b,v=>∃x,v=.bool x
 |.i k,v=>∃n,v=.int k n/\(Lit.int k n).wf=true
 |.s,v=>∃l,v=.str l/\l.length<=maxLen
def okSL:List SC->List V->Prop
 |[],vs=>vs=[]
 |c::cs,vs=>∃v l,vs=v::l/\okS c v/\okSL cs l
def okC:CT->V->Prop
 |.sc c,v=>okS c v
 |.sl [.i k],v=>∃l,v=.ints false k l/\(∀n∈l,(Lit.int k n).wf=true)/\l.length<=maxLen
 |.sl [.s],v=>∃l,v=.strs false l/\(∀s∈l,s.length<=maxLen)/\l.length<=maxLen
 |.sl cs,v=>∃l,v=.recs false cs.length l/\(∀r∈l,okSL cs r)/\l.length<=maxLen
def okCL:List CT->List V->Prop
 |[],vs=>vs=[]
 |c::cs,vs=>∃v l,vs=v::l/\okC c v/\okCL cs l
def ctsF (P:Program) (rec:TypeId->Option (List CT)):Nat->List Field->Option (List CT)
 |_,[]=>some []
 |off,f::fs=>if f.offset=off then (rec f.type).bind λl=>if P.cellsOf f.type=l.length then (ctsF P rec (off+l.length) fs).map (l ++ ·) else none else none
def ctsA (l:List CT):Nat->List CT
 |0=>[]
 |n+1=>l++ctsA l n
def cts (P:Program):Nat->TypeId->Option (List CT)
 |0,_=>none
 |
  n+1,t=>
  match P.underlying t with
  |some .bool=>some [.sc .b]
  |some (.int k)=>some [.sc (.i k)]
  |some .string=>some [.sc .s]
  |some (.struct fs)=>(ctsF P (cts P n) 0 fs.toList).bind λl=>if P.cellsOf t=l.length then some l else none
  |some (.array m e)=>(cts P n e).bind λl=>if P.cellsOf e=l.length/\P.cellsOf t=m*l.length then some (ctsA l m) else none
  |some (.slice e)=>(cts P n e).bind λl=>(Q4g l).bind λcs=>if P.cellsOf e=cs.length/\0<cs.length then some [.sl cs] else none
  |_=>none
abbrev noO:Nat->Prop:=λ_=>False
def Q4x (W:World) (c:CT) (cv:Value) (v:V):Prop:=okC c v/\Rep0 noO W cv v/\cv.oneCell'=true
def Q4f (W:World) (l:List CT) (cs:List Value) (vs:List V):Prop:=
 cs.length=l.length/\vs.length=l.length/\∀(j:Nat) (c:CT) (cv:Value) (v:V),l[j]? = some c->cs[j]? = some cv->vs[j]? = some v->Q4x W c cv v
theorem cellsR_nil (W:World):Q4f W [] [] []:=⟨rfl,rfl,λ(j:Nat) c cv v h=>by simp at h⟩
theorem Q4m {W:World} {c:CT} {cv:Value} {v:V} (h:Q4x W c cv v):Q4f W [c] [cv] [v]:=by
 refine ⟨rfl,rfl,λj c' cv' v' h1 h2 h3=>?_⟩
 cases j with
 |zero=>simp at h1 h2 h3;subst h1 h2 h3;exact h
 |succ j=>simp at h1
theorem Q4t {W:World} {l l':List CT} {cs cs':List Value} {vs vs':List V} (h:Q4f W l cs vs) (h':Q4f W l' cs' vs'):Q4f W (l++l') (cs++cs') (vs++vs'):=by
 obtain ⟨a1,a2,a3⟩:=h;obtain ⟨b1,b2,b3⟩:=h'
 refine ⟨by simp [a1,b1],by simp [a2,b2],λj c cv v h1 h2 h3=>?_⟩
 by_cases hj:j<l.length
 ·rw [List.getElem?_append_left hj] at h1
  rw [List.getElem?_append_left (by omega)] at h2 h3
  exact a3 j c cv v h1 h2 h3
 ·rw [List.getElem?_append_right (by omega)] at h1 h2 h3
  rw [a1] at h2;rw [a2] at h3
  exact b3 _ c cv v h1 h2 h3
theorem Q4p {W:World}:∀{l:List CT} {cs:List Value} {vs:List V},Q4f W l cs vs->okCL l vs
 |[],cs,vs,h=>List.length_eq_zero_iff.1 h.2.1
 |
  c::l,cs,vs,h=>by
  obtain ⟨h1,h2,h3⟩:=h
  match cs,vs,h1,h2 with
  |
   cv::cs,v::vs,h1,h2=>
   exact ⟨v,vs,rfl,(h3 0 c cv v rfl rfl rfl).1,Q4p (cs:=cs) ⟨by simpa using h1,by simpa using h2,λj c' cv' v' a b d=>h3 (j+1) c' cv' v' (by simpa using a) (by simpa using b) (by simpa using d)⟩⟩
theorem Q4y:∀{l:List CT} {ss:List SC} {vs:List V},Q4g l=some ss->okCL l vs->okSL ss vs
 |[],ss,vs,h,hv=>by simp [Q4g] at h;subst h;exact hv
 |
  c::l,ss,vs,h,hv=>by
  simp only [Q4g,Option.bind_eq_some_iff,Option.map_eq_some_iff] at h
  obtain ⟨x,hx,y,hy,rfl⟩:=h
  obtain ⟨v,r,rfl,h1,h2⟩:=hv
  refine ⟨v,r,rfl,?_,Q4y hy h2⟩
  cases c with
  |sc c=>simp [scOf] at hx;subst hx;exact h1
  |sl _=>simp [scOf] at hx
theorem Q4u:∀{l:List CT} {ss:List SC},Q4g l=some ss->ss.length=l.length
 |[],ss,h=>by simp [Q4g] at h;subst h;rfl
 |
  c::l,ss,h=>by
  simp only [Q4g,Option.bind_eq_some_iff,Option.map_eq_some_iff] at h
  obtain ⟨x,hx,y,hy,rfl⟩:=h
  simp [Q4u hy]
theorem Q4r {α:Type} {Q:Nat->α->Prop}:∀{n:Nat},(∀i,i<n->∃x,Q i x)->∃l:List α,l.length=n/\∀(i:Nat) (x:α),l[i]? = some x->Q i x
 |0,_=>⟨[],rfl,λi x h=>by simp at h⟩
 |
  n+1,h=>by
  obtain ⟨l,h1,h2⟩:=Q4r (n:=n) λi hi=>h i (by omega)
  obtain ⟨x,hx⟩:=h n (by omega)
  refine ⟨l++[x],by simp [h1],λi y hy=>?_⟩
  by_cases hi:i<l.length
  ·rw [List.getElem?_append_left hi] at hy;exact h2 i y hy
  ·rw [List.getElem?_append_right (by omega)] at hy
   have:i-l.length=0:=by
    rcases Nat.lt_or_ge (i-l.length) 1 with h0|h0
    ·omega
    ·rw [List.getElem?_eq_none (by simp;omega)] at hy;simp at hy
   rw [this] at hy;simp at hy;subst hy
   have:i=n:=by omega
   subst this;exact hx
theorem Q4w {α:Type} (z:Nat) (hz:0<z):∀(l:List (List α)) (j:Nat),(∀e∈l,e.length=z)->l.flatten[j]? = (l[j/z]?).bind (·[j%z]?)
 |[],j,_=>by simp
 |
  e::l,j,h=>by
  have he:=h e (by simp)
  rw [List.flatten_cons]
  by_cases hj:j<z
  ·rw [List.getElem?_append_left (by omega),Nat.div_eq_of_lt hj,Nat.mod_eq_of_lt hj];rfl
  ·rw [List.getElem?_append_right (by omega),Q4w z hz l _ (λx hx=>h x (by simp [hx])),he]
   have h1:j/z=(j-z)/z+1:=by rw [<-Nat.add_div_right (j-z) hz,Nat.sub_add_cancel (by omega)]
   have h2:j%z=(j-z)%z:=by rw [<-Nat.add_mod_right (j-z) z,Nat.sub_add_cancel (by omega)]
   rw [h1,h2];rfl
theorem ones {α:Type} {c:SC} {f:α->V} {Q:α->Prop} (hc:∀v,okS c v->∃n,v=f n/\Q n):∀vss:List (List V),(∀r∈vss,okSL [c] r) ->
  ∃zs:List α,vss.flatten=zs.map f/\zs.length=vss.length/\∀n∈zs,Q n
 |[],_=>⟨[],rfl,rfl,by simp⟩
 |
  r::vss,h=>by
  obtain ⟨zs,e1,e2,e3⟩:=ones hc vss λx hx=>h x (by simp [hx])
  obtain ⟨v,l,rfl,hv,hl⟩:=h r (by simp)
  have hl:l=[]:=hl
  subst hl
  obtain ⟨n,rfl,hq⟩:=hc v hv
  exact ⟨n::zs,by simp [e1],by simp [e2],by simpa using ⟨hq,e3⟩⟩
theorem Q47 {W:World} {t e n m:Nat} {ss:List SC} {l:List CT} {a:Addr} {len cap:Nat} (hs:Q4g l=some ss) (hz:0<ss.length) (hl:len<=cap) (hm:cap<=maxLen)
  (h:∀i,i<len->∃cs vs,W.cells? 0 (a.add (i*ss.length)) ss.length=some cs/\Q4f W l cs vs):∃v,okC (.sl ss) v/\Rep0 noO W (.slice (some a) len cap) v:=by
 obtain ⟨rows,h1,h2⟩:=Q4r h
 have hsl:=Q4u hs
 have hrow:∀(i:Nat) (r:List Value),rows[i]? = some r->∃vs:List V,r.length=ss.length/\okSL ss vs/\vs.length=ss.length/\∀(j:Nat) (cv:Value) (v:V),r[j]? = some cv->vs[j]? = some v->W.cell? (a.add (i*ss.length+j))=some cv/\Rep0 noO W cv v/\cv.oneCell'=true:=by
  intro i r hr
  obtain ⟨vs,hc,hv⟩:=h2 i r hr
  obtain ⟨_,hlen,hcell⟩:=World.cells?_some hc
  refine ⟨vs,hlen,Q4y hs (Q4p hv),hv.2.1.trans hsl.symm,λj cv v hj hjv=>?_⟩
  have hjl:j<l.length:=by have:=(List.getElem?_eq_some_iff.1 hj).1;omega
  have:=hv.2.2 j l[j] cv v (by simp) hj hjv
  refine ⟨?_,this.2⟩
  rw [<-Go.Deep.add_add,hcell j (by omega),hj]
 have hall:∀i,i<rows.length->∃vs:List V,okSL ss vs/\vs.length=ss.length/\∀(j:Nat) (v:V),vs[j]? = some v->∃cv,W.cell? (a.add (i*ss.length+j))=some cv/\Rep0 noO W cv v/\cv.oneCell'=true:=by
  intro i hi
  obtain ⟨vs,q1,q2,q3,q4⟩:=hrow i rows[i] (by simp [hi])
  refine ⟨vs,q2,q3,λj v hv=>?_⟩
  have:j<ss.length:=by have:=(List.getElem?_eq_some_iff.1 hv).1;omega
  exact ⟨_,q4 j (rows[i][j]'(by omega)) v (by simp) hv⟩
 obtain ⟨vss,g1,g2⟩:=Q4r hall
 have hvlen:∀e∈vss,e.length=ss.length:=λe he=>by obtain ⟨i,hi,rfl⟩:=List.getElem_of_mem he;exact (g2 i _ (by simp [hi])).2.1
 have gen:∀v:V,flatV v=some (len,vss.flatten)->isExact v=false->Rep0 noO W (.slice (some a) len cap) v:=by
  intro v hf hx
  have hcell:∀(j:Nat) (v:V),vss.flatten[j]? = some v->∃cv,W.cell? (a.add j)=some cv/\Rep0 noO W cv v/\cv.oneCell'=true:=by
   intro j v hv
   rw [Q4w ss.length hz vss j hvlen] at hv
   obtain ⟨r,hr,hv⟩:=Option.bind_eq_some_iff.1 hv
   obtain ⟨cv,k1,k2⟩:=(g2 _ r hr).2.2 _ v hv
   refine ⟨cv,?_,k2⟩
   rw [show j=j/ss.length*ss.length+j%ss.length by rw [Nat.mul_comm];exact (Nat.div_add_mod j ss.length).symm]
   exact k1
  refine .slice (some a) len cap v vss.flatten (λj=>(W.cell? (a.add j)).getD Go.undef) hf (by simp [hx]) hl (by simp) (λj hj=>?_) (λj hj=>?_) (λj hj=>?_)
  ·obtain ⟨cv,k1,k2,k3⟩:=hcell j _ (List.getElem?_eq_getElem hj)
   exact ⟨a,rfl,λh=>h.elim,by rw [k1];rfl⟩
  ·obtain ⟨cv,k1,k2,k3⟩:=hcell j _ (List.getElem?_eq_getElem hj)
   rw [k1];exact k3
  ·obtain ⟨cv,k1,k2,k3⟩:=hcell j _ (List.getElem?_eq_getElem hj)
   rw [k1];exact k2
 have hlen':vss.length=len:=by omega
 have recs:∃v,(∃l,v=V.recs false ss.length l/\(∀r∈l,okSL ss r)/\l.length<=maxLen)/\Rep0 noO W (.slice (some a) len cap) v:=by
  refine ⟨.recs false ss.length vss,⟨vss,rfl,λr hr=>?_,by omega⟩,gen _ ?_ rfl⟩
  ·obtain ⟨i,hi,rfl⟩:=List.getElem_of_mem hr;exact (g2 i _ (by simp [hi])).1
  ·simp only [flatV];rw [if_pos ⟨hz,hvlen⟩,hlen']
 match ss,hs,hz,recs,g2,gen,hvlen with
 |[],_,hz,_,_,_,_=>simp at hz
 |[.b],_,_,recs,_,_,_=>exact recs
 |x::y::_,_,_,recs,_,_,_=>exact by cases x<;>exact recs
 |
  [.i k],_,_,recs,g2,gen,hvlen=>
  obtain ⟨zs,e1,e2,e3⟩:=ones (c:=.i k) (f:=V.int k) (λv h=>h) vss λr hr=>by
   obtain ⟨i,hi,rfl⟩:=List.getElem_of_mem hr;exact (g2 i _ (by simp [hi])).1
  refine ⟨.ints false k zs,⟨zs,rfl,e3,by omega⟩,gen _ ?_ rfl⟩
  simp only [flatV];rw [e1,e2,hlen']
 |
  [.s],_,_,recs,g2,gen,hvlen=>
  obtain ⟨zs,e1,e2,e3⟩:=ones (c:=.s) (f:=V.str) (λv h=>h) vss λr hr=>by
   obtain ⟨i,hi,rfl⟩:=List.getElem_of_mem hr;exact (g2 i _ (by simp [hi])).1
  refine ⟨.strs false zs,⟨zs,rfl,e3,by omega⟩,gen _ ?_ rfl⟩
  simp only [flatV];rw [e1,e2,hlen']
theorem Q46 {W:World} {ss:List SC} (hz:0<ss.length):∃v,okC (.sl ss) v/\Rep0 noO W (.slice none 0 0) v:=by
 have gen:∀v:V,flatV v=some (0,[])->isExact v=false->Rep0 noO W (.slice none 0 0) v:=λv hf hx=>
  .slice none 0 0 v [] (λ_=>Go.undef) hf (by simp [hx]) (Nat.le_refl _) (λ_=>rfl) (λj hj=>by simp at hj) (λj hj=>by simp at hj) (λj hj=>by simp at hj)
 match ss,hz with
 |[.i k],_=>exact ⟨.ints false k [],⟨[],rfl,by simp,by simp⟩,gen _ rfl rfl⟩
 |[.s],_=>exact ⟨.strs false [],⟨[],rfl,by simp,by simp⟩,gen _ rfl rfl⟩
 |[.b],_=>exact ⟨.recs false 1 [],⟨[],rfl,by simp,by simp⟩,gen _ (by simp [flatV]) rfl⟩
 |a::a'::ss,_=>exact ⟨.recs false (a::a'::ss).length [],by cases a<;>exact ⟨[],rfl,by simp,by simp⟩,gen _ (by simp [flatV]) rfl⟩
section
variable {H:Type} {enc:TypeId×Value->H} {P:Program} {W:World}
theorem Q4o:∀(n:Nat) (t:TypeId) (l:List CT),cts P n t=some l->∀(fuel:Nat) (cs:List Value) (x:DataW H×List MemPlace),DataW.trod enc P W 0 (λ_=>true) true fuel t cs=some x ->
  ∃vs,Q4f W l cs vs
 |0,t,l,h,_,_,_,_=>by simp [cts] at h
 |
  n+1,t,l,h,fuel,cs,x,hx=>by
  unfold cts at h
  split at h
  ·rename_i ht
   simp at h;subst h
   obtain ⟨bb,rfl,_⟩:=DataW.trod_bool ht hx
   exact ⟨[.bool bb],Q4m ⟨⟨bb,rfl⟩,.bool bb,rfl⟩⟩
  ·rename_i k ht
   simp at h;subst h
   obtain ⟨b,rfl,_,hw⟩:=DataW.trod_int ht hx
   exact ⟨[.int k b],Q4m ⟨⟨b,rfl,hw⟩,.int k b,rfl⟩⟩
  ·rename_i ht
   simp at h;subst h
   obtain ⟨b,rfl,_,hw⟩:=DataW.trod_string ht hx
   exact ⟨[.str b.data.toList],Q4m ⟨⟨_,rfl,by simpa using hw⟩,.str _ _ rfl,rfl⟩⟩
  ·rename_i fs ht
   obtain ⟨l',h1,h2⟩:=Option.bind_eq_some_iff.1 h
   split at h2
   case isFalse=>simp at h2
   rename_i hsz
   simp at h2;subst h2
   obtain ⟨xs,m,_,_,hlen,hxl,hf⟩:=DataW.trod_struct ht hx
   have key:∀(gs:List Field) (off:Nat) (l':List CT),ctsF P (cts P n) off gs=some l'->(∀f∈gs,∃y,DataW.trod enc P W 0 (λ_=>true) true m f.type ((cs.drop f.offset).take (P.cellsOf f.type))=some y) ->
     ∃vs,Q4f W l' ((cs.drop off).take l'.length) vs:=by
    intro gs
    induction gs with
    |nil=>intro off l' h _;simp [ctsF] at h;subst h;exact ⟨[],by simpa using cellsR_nil W⟩
    |
     cons f gs ih=>
     intro off l' h hg
     unfold ctsF at h
     split at h
     case isFalse=>simp at h
     rename_i hoff
     obtain ⟨lf,h1,h2⟩:=Option.bind_eq_some_iff.1 h
     split at h2
     case isFalse=>simp at h2
     rename_i hsz
     obtain ⟨l2,h3,rfl⟩:=Option.map_eq_some_iff.1 h2
     obtain ⟨y,hy⟩:=hg f (by simp)
     obtain ⟨vs1,c1⟩:=Q4o n f.type lf h1 m _ y hy
     obtain ⟨vs2,c2⟩:=ih _ _ h3 λf' hf'=>hg f' (by simp [hf'])
     refine ⟨vs1++vs2,?_⟩
     have hc:=Q4t c1 c2
     rw [hoff,hsz] at hc
     have hl1:lf.length<=(cs.drop off).length:=by
      have:=c1.1;rw [hoff,hsz,List.length_take] at this;omega
     rw [List.length_append,List.take_add,List.drop_drop]
     exact hc
   have hall:∀f∈fs.toList,∃y,DataW.trod enc P W 0 (λ_=>true) true m f.type ((cs.drop f.offset).take (P.cellsOf f.type))=some y:=by
    intro f hf'
    obtain ⟨i,hi,rfl⟩:=List.getElem_of_mem hf'
    have hi':i<fs.size:=by simpa using hi
    have:=hf i (fs.toList[i]) (by simp [hi'])
    rw [List.getElem?_eq_getElem (by omega)] at this
    exact ⟨_,this⟩
   obtain ⟨vs,hv⟩:=key fs.toList 0 _ h1 hall
   refine ⟨vs,?_⟩
   rwa [List.drop_zero,List.take_of_length_le (by omega)] at hv
  ·rename_i m e ht
   obtain ⟨l',h1,h2⟩:=Option.bind_eq_some_iff.1 h
   split at h2
   case isFalse=>simp at h2
   rename_i hsz
   simp at h2;subst h2
   obtain ⟨xs,q,_,_,hlen,hxl,hf⟩:=DataW.trod_array ht hx
   have key:∀(k:Nat),k<=m->∃vs,Q4f W (ctsA l' k) ((cs.drop ((m-k)*l'.length)).take (k*l'.length)) vs:=by
    intro k
    induction k with
    |zero=>intro _;exact ⟨[],by simpa [ctsA] using cellsR_nil W⟩
    |
     succ k ih=>
     intro hk
     obtain ⟨vs2,c2⟩:=ih (by omega)
     have h3:=hf (m-(k+1)) (by omega)
     rw [List.getElem?_eq_getElem (by omega)] at h3
     obtain ⟨vs1,c1⟩:=Q4o n e l' h1 q _ _ h3
     refine ⟨vs1++vs2,?_⟩
     have hc:=Q4t c1 c2
     rw [hsz.1] at hc
     have e1:(m-k)*l'.length=(m-(k+1))*l'.length+l'.length:=by
      rw [<-Nat.succ_mul];congr 1;omega
     have e2:(k+1)*l'.length=l'.length+k*l'.length:=by rw [Nat.succ_mul,Nat.add_comm]
     rw [e1,<-List.drop_drop] at hc
     rw [e2,List.take_add]
     exact hc
   obtain ⟨vs,hv⟩:=key m (Nat.le_refl _)
   refine ⟨vs,?_⟩
   rwa [Nat.sub_self,Nat.zero_mul,List.drop_zero,List.take_of_length_le (by omega)] at hv
  ·rename_i e ht
   obtain ⟨l',h1,h2⟩:=Option.bind_eq_some_iff.1 h
   obtain ⟨ss,h3,h4⟩:=Option.bind_eq_some_iff.1 h2
   split at h4
   case isFalse=>simp at h4
   rename_i hsz
   simp at h4;subst h4
   rcases Go.Deep.open_slice ht hx with ⟨rfl,_⟩|⟨a,len,cap,m,q,D,Pl,rfl,_,hl,hm,hmm,_,hi⟩
   ·obtain ⟨v,k1,k2⟩:=Q46 (W:=W) hsz.2
    exact ⟨[v],Q4m ⟨k1,k2,rfl⟩⟩
   ·simp only [if_true] at hmm
    subst hmm
    rw [hsz.1] at hi
    obtain ⟨v,k1,k2⟩:=Q47 (t:=0) (e:=0) (n:=0) (m:=0) h3 hsz.2 hl hm λi hi'=>by
     obtain ⟨cs',c1,c2⟩:=hi i (by omega)
     obtain ⟨vs,c3⟩:=Q4o n e l' h1 q _ _ c2
     exact ⟨cs',vs,c1,c3⟩
    exact ⟨[v],Q4m ⟨k1,k2,rfl⟩⟩
  ·simp at h
inductive AT where
 |one (c:CT)
 |agg (l:List CT)
def okA:AT->V->Prop
 |.one c,v=>okC c v
 |.agg l,v=>∃vs,v=.agg vs/\okCL l vs
def okAL:List AT->List V->Prop
 |[],vs=>vs=[]
 |c::cs,vs=>∃v l,vs=v::l/\okA c v/\okAL cs l
def atOf (P:Program) (n:Nat) (t:TypeId):Option AT:=
 (cts P n t).bind λl=>match P.underlying t with
  |some (.struct _)|some (.array _ _)=>some (.agg l)
  |
   _=>match l with
   |[c]=>some (.one c)
   |_=>none
def Q4i (P:Program) (n:Nat):List TypeId->Option (List AT)
 |[]=>some []
 |t::ts=>(atOf P n t).bind λx=>(Q4i P n ts).map (x :: ·)
theorem Q40 {n:Nat} {t:TypeId} {q:AT} (hq:atOf P n t=some q) {base:Nat} {v:Value} {d:DataW H} {ps:List MemPlace} (hval:Value.okWide P W .any base t v) (h:DataW.Trod enc P W 0 (λ_=>true) true t v d ps) :
  ∃x,okA q x/\Rep0 noO W v x:=by
 obtain ⟨l,h1,h2⟩:=Option.bind_eq_some_iff.1 hq
 obtain ⟨fuel,hf⟩:=h
 obtain ⟨vs,hv⟩:=Q4o n t l h1 fuel _ _ hf
 have aggCase:(∃cs,v=.agg cs)->∃x,okA (.agg l) x/\Rep0 noO W v x:=by
  rintro ⟨cs,rfl⟩
  have hc:(Value.agg cs).cells.toList=cs.toList:=rfl
  rw [hc] at hv
  refine ⟨.agg vs,⟨vs,rfl,Q4p hv⟩,.agg cs vs (by have:=hv.1;have:=hv.2.1;simp at *;omega) (λj hj=>?_) (λj hj=>?_)⟩ <;>
  ·have hj1:j<cs.size:=by have:=hv.1;have:=hv.2.1;simp at *;omega
   have:=hv.2.2 j (l[j]'(by have:=hv.2.1;omega)) cs[j] vs[j] (by simp) (by simp [hj1]) (by simp)
   have e:cs.getD j Go.undef=cs[j]:=by simp [Array.getD,hj1]
   rw [e]
   first|exact this.2.2|exact this.2.1
 split at h2
 ·rename_i fs ht
  simp at h2;subst h2
  obtain ⟨cs,rfl,_⟩:=okWide_struct ht hval
  exact aggCase ⟨cs,rfl⟩
 ·rename_i m e ht
  simp at h2;subst h2
  unfold Value.okWide at hval
  rw [ht] at hval
  obtain ⟨cs,rfl,_⟩:=hval
  exact aggCase ⟨cs,rfl⟩
 ·rename_i hns hna
  split at h2
  case h_2=>simp at h2
  rename_i c
  simp at h2;subst h2
  obtain ⟨a1,a2,a3⟩:=hv
  match vs,a2 with
  |
   [x],_=>
   have hcells:v.cells = #[v]:=by
    cases v with
    |
     agg cs=>
     exfalso
     unfold Value.okWide at hval
     cases n with
     |zero=>simp [cts] at h1
     |
      succ n=>
      unfold cts at h1
      split at h1<;>rename_i ht
      ·rw [ht] at hval;simp [Cell.okWide,Cell.ok,ht] at hval
      ·rw [ht] at hval;simp [Cell.okWide,Cell.ok,ht] at hval
      ·rw [ht] at hval;simp [Cell.okWide,Cell.ok,ht] at hval
      ·exact hns _ ht
      ·exact hna _ _ ht
      ·rw [ht] at hval;simp [Cell.okWide,Cell.ok,ht] at hval
      ·simp at h1
    |_=>rfl
   rw [hcells] at a3
   have:=a3 0 c v x rfl rfl rfl
   exact ⟨x,this.1,this.2.1⟩
theorem Q4z {n:Nat}:∀{ts:List TypeId} {qs:List AT} {args:List Value} {ds:List (DataW H)} {ps:List MemPlace} {base:Nat},Q4i P n ts=some qs->DataW.TrodAll enc P W 0 (λ_=>true) true ts args ds ps ->
  (∀(j:Nat) t v,ts[j]? = some t->args[j]? = some v->Value.okWide P W .any base t v) ->
  ∃vs,args.length=vs.length/\okAL qs vs/\∀j (h:j<vs.length),Rep0 noO W (args.getD j Go.undef) vs[j]
 |
  [],qs,args,ds,ps,base,hq,h,_=>by
  simp [Q4i] at hq;subst hq
  obtain ⟨rfl,rfl,rfl⟩:=trodAll_nil h
  exact ⟨[],rfl,rfl,λj h=>by simp at h⟩
 |
  t::ts,qs,args,ds,ps,base,hq,h,hval=>by
  simp only [Q4i,Option.bind_eq_some_iff,Option.map_eq_some_iff] at hq
  obtain ⟨q,hq1,qs',hq2,rfl⟩:=hq
  obtain ⟨v,vs,d,ds',p,p',rfl,rfl,rfl,h1,h2⟩:=trodAll_cons h
  obtain ⟨x,k1,k2⟩:=Q40 hq1 (hval 0 t v rfl rfl) h1
  obtain ⟨xs,l1,l2,l3⟩:=Q4z hq2 h2 λj t v a b=>hval (j+1) t v (by simpa using a) (by simpa using b)
  refine ⟨x::xs,by simp [l1],⟨x,xs,rfl,k1,l2⟩,λj hj=>?_⟩
  cases j with
  |zero=>exact k2
  |succ j=>simpa using l3 j (by simpa using hj)
theorem Q45 {ts:List TypeId} (hl:laidOutB P=true) (hr:ts.all (λt=>P.readableRec t&&decide (t<P.types.size))=true) {W':World} (hb:Below W.heap.size W W') {sp:Nat->Bool} :
  ∀
   {vs:List Value} {ds:List (DataW H)} {ps:List MemPlace},DataW.TrodAll enc P W 0 (λ_=>true) true ts vs ds ps->(∀x∈ps,x.block<W.heap.size)->(∀x∈ps,sp x.block=true) ->
   DataW.TrodAll enc P W' 0 sp true ts vs ds ps:=by
 induction ts with
 |
  nil=>
  intro vs ds ps h _ _
  obtain ⟨rfl,rfl,rfl⟩:=trodAll_nil h
  exact trodAll_mk0
 |
  cons t ts ih=>
  intro vs ds ps h hlt hsp
  obtain ⟨v,vs',d,ds',p,p',rfl,rfl,rfl,h1,h2⟩:=trodAll_cons h
  simp only [List.all_cons,Bool.and_eq_true,decide_eq_true_eq] at hr
  exact trodAll_cons_mk (WideElems.Trod_stays hl hr.1.1 hr.1.2 h1 (λx hx=>hb.same (hlt x (by simp [hx]))) (λx hx=>hsp x (by simp [hx])))
   (ih hr.2 h2 (λx hx=>hlt x (by simp [hx])) (λx hx=>hsp x (by simp [hx])))
theorem Q43 {f:Func} {s:ChangeSpec} {apart fresh handsOn again:Bool} {W W':World} {args:Array Value} {v:Value} {ds gs:List (DataW H)} {before pa pv:List MemPlace}
  (hW:DataW.Whole enc P f.params.toList s.vars apart W args.toList ds gs before)
  (hres:∀(b:Nat) (sp:Nat->Bool) (hd:Bool),DataW.TrodAll enc P W' b sp hd f.resultTypes.toList (v.resultList f.resultTypes.size) (s.fn H (ds++gs)).results [])
  (hargs:∀sp:Nat->Bool,(∀p∈before,sp p.block=true)->DataW.TrodAll enc P W' 0 sp true f.params.toList args.toList (s.fn H (ds++gs)).args pa)
  (hvars:∀sp:Nat->Bool,(∀p∈before,sp p.block=true)->DataW.TrodVars enc P W' sp s.vars (s.fn H (ds++gs)).vars pv)
  (hps:before=pa++pv) (hb:Below W.heap.size W W')
  (hok:∀(j:Nat) (t:TypeId) (r:Value),f.resultTypes[j]? = some t->(v.resultList f.resultTypes.size)[j]? = some r->Value.okWide P W' .any 0 t r) :
  s.post enc P f apart fresh handsOn again W args v W':=by
 have hlt:∀p∈before,p.block<W.heap.size:=λp hp=>hW.lt p hp
 have hold:∀p∈before,(λb=>decide (b<W.heap.size)) p.block=true:=λp hp=>by simpa using hlt p hp
 refine ⟨ds,gs,before,[],pa,pv,hW,hres _ _ _,hargs _ hold,hvars _ hold,World.keptBut_mono (λp hp=>⟨hp,?_⟩) (hb.frame (·∈before)),λ_=>?_⟩
 ·rw [hps,List.mem_append] at hp
  exact Or.inr hp
 ·obtain ⟨_,_,_,_,_,hz,hn⟩:=hW
  refine ⟨hok,_,_,([]++pa)++pv,⟨[]++pa,pv,trodAll_append (hargs _ (λ_ _=>rfl)) (hres _ _ _),hvars _ (λ_ _=>rfl),rfl,?_,?_⟩,?_⟩
  ·intro b off hp
   have hin:MemPlace.cell b off∈before:=by rw [hps];simpa using hp
   rw [hb.frozen (hlt _ hin)]
   exact hz b off hin
  ·intro ha
   have:=hn ha
   rw [hps] at this
   simpa using this
  ·intro p hp _
   rw [hps]
   simpa using hp
theorem Q48 {g:Nat} {f:Func} {c:Code} (hf:FunOK P g f c) {s:ChangeSpec} {n:Nat} {qs:List AT} {tb:TypeId} (hl:laidOutB P=true) (hr:f.params.toList.all (λt=>P.readableRec t&&decide (t<P.types.size))=true)
  (hq:Q4i P n f.params.toList=some qs) (hres:f.resultTypes = #[tb]) (htb:P.underlying tb=some .bool) (hv:s.vars=[])
  (hs:∀ds:List (DataW H),ds.length=f.params.toList.length->s.fn H ds={results:=[.lit (.bool true)],args:=ds})
  (plain:∀vs,okAL qs vs->∃p r,SoundC P g vs p/\p.m=some r/\p.enc r=.bool true)
  (W:World) (base:Nat) (args:Array Value) (ds gs:List (DataW H)) (before:List MemPlace)
  (hval:∀(j:Nat) t v,f.params[j]? = some t->args[j]? = some v->Value.okWide P W .any base t v)
  (hW:DataW.Whole enc P f.params.toList s.vars false W args.toList ds gs before) :
  Calls P g args W λe W'=>∃v,e=.returned v/\s.post enc P f false true false false W args v W':=by
 have hW':=hW
 have hlt:∀p∈before,p.block<W.heap.size:=λp hp=>hW.lt p hp
 obtain ⟨p,q,hA,hV,rfl,hfz,hnd⟩:=hW
 have hA:DataW.TrodAll enc P W 0 (λ_=>true) true f.params.toList args.toList ds p:=hA
 rw [hv] at hV
 obtain ⟨rfl,rfl⟩:=trodVars_none hV
 obtain ⟨vs,h1,h2,h3⟩:=Q4z hq hA λj t v a b=>hval j t v (by simpa using a) (by simpa using b)
 obtain ⟨pk,r,hsound,hm,he⟩:=plain vs h2
 have hcall:=hsound noO W args r hm (by simpa using h1) (λj hj=>by
  have h4:=h3 j hj
  have:args.getD j Go.undef=args.toList.getD j Go.undef:=by
   have hj':j<args.size:=by rw [<-Array.length_toList,h1];exact hj
   simp [Array.getD,List.getD,hj']
  rwa [this]) (λb h=>h.elim)
 unfold CallR at hcall
 rw [hf.enters] at hcall
 have hlen:∀{ts:List TypeId} {vs:List Value} {ds:List (DataW H)} {ps:List MemPlace},DataW.TrodAll enc P W 0 (λ_=>true) true ts vs ds ps->ds.length=ts.length:=by
  intro ts
  induction ts with
  |nil=>intro vs ds ps h;obtain ⟨_,rfl,_⟩:=trodAll_nil h;rfl
  |cons t ts ih=>intro vs ds ps h;obtain ⟨_,_,_,_,_,_,_,rfl,_,_,h2⟩:=trodAll_cons h;simp [ih h2]
 refine hcall.mono λe W' h=>?_
 cases e with
 |
  returned cv=>
  obtain ⟨hg,hrep⟩:=h
  rw [he] at hrep
  obtain rfl:cv=.bool true:=by
   cases hrep
   ·rfl
   ·rename_i hf _;cases hf
  have hb:Below W.heap.size W W':=⟨hg.os,hg.tape,hg.output,hg.size,λk hk=>hg.block k hk (by simp)⟩
  have hfn:=hs ds (hlen hA)
  refine ⟨_,rfl,Q43 (pa:=p) (pv:=[]) hW' ?_ ?_ ?_ rfl hb ?_⟩
  ·intro b sp hd
   rw [List.append_nil,hfn,hres]
   exact trodAll_cons_mk (shut_bool htb _) trodAll_mk0
  ·intro sp hsp
   rw [List.append_nil,hfn]
   exact Q45 hl hr hb hA (λx hx=>hlt x (by simp [hx])) (λx hx=>hsp x (by simp [hx]))
  ·intro sp hsp
   rw [List.append_nil,hfn,hv]
   rfl
  ·exact ok_one hres rfl (okWide_bool_mk htb _)
 |_=>exact h.elim
end
end
end Go.Proofs.YtgjncgiekniniaaGreatDoor.A
end
section
namespace Go.Proofs.YtgjncgiekniniaaGreatDoor.A
open Go
theorem own:ownKnob Tryz.prog.godebug=none:=by kernel_rfl
theorem laidOut:laidOutB Tryz.prog=true:=by kernel_rfl
theorem rowed:mapsRowed Tryz.prog=true:=by kernel_rfl
theorem Q42:(Tryz.prog.stops == [])=true:=by kernel_rfl
theorem Q41:(Tryz.prog.stopKnobs == [])=true:=by kernel_rfl
theorem Q5a:Tryz.prog.stopsHeard=true:=by kernel_rfl
theorem Q44:Tryz.prog.mayEnter=true:=by kernel_rfl
theorem Q49:false=Tryz.prog.looks []:=by kernel_rfl
theorem main:Tryz.pinned.checked.prog.mainIs=some (true,("d4ffbc68b08c28ac251f33799dbb1d7e972ab3df77886f5ed4ce34a153cf9881":String).toList):=by kernel_rfl
noncomputable def relay (l:List Int):Obj->Obj
 |.cells _ t fz=>.cells (l.map λn=>Value.int .u8 n).toArray t fz
 |o=>o
noncomputable def accept:List Int:=[128,191,160,191,128,159,144,191,128,143,0,0,0,0,0,0,0,0,0,0,0,0,0,0,0,0,0,0,0,0,0,0]
noncomputable def Q4q (os:Os):World:=
 let w:=World.holding Tryz.prog os ⟨#[],#[],[]⟩
 {w with heap:=(w.heap.modify 3 (relay (Go.Pinned.utf8FirstZ.map Int.ofNat))).modify 4 (relay accept)}
theorem Qhl {n:Int} (h:(Lit.int .u64 n).wf=true):0<=n/\n<18446744073709551616:=by
 simp [Lit.wf,IntKind.min,IntKind.max,IntKind.signed,IntKind.bits] at h;omega
theorem Qc4 {n:Int} (h:(Lit.int .u32 n).wf=true):0<=n/\n<4294967296:=by
 simp [Lit.wf,IntKind.min,IntKind.max,IntKind.signed,IntKind.bits] at h;omega
theorem Qb9 {n:Int} (h:(Lit.int .u16 n).wf=true):0<=n/\n<65536:=by
 simp [Lit.wf,IntKind.min,IntKind.max,IntKind.signed,IntKind.bits] at h;omega
theorem Qs {n:Int} (h:(Lit.int .u8 n).wf=true):0<=n/\n<256:=by
 simp [Lit.wf,IntKind.min,IntKind.max,IntKind.signed,IntKind.bits] at h;omega
theorem Qwl {n:Int} (h:(Lit.int .i64 n).wf=true):-9223372036854775808<=n/\n<9223372036854775808:=by
 simp [Lit.wf,IntKind.min,IntKind.max,IntKind.signed,IntKind.bits] at h;omega
theorem Qkb {B:Nat} {l l':List Int}:inB B (l++l')↔inB B l/\inB B l':=by
 simp only [inB,List.mem_append]
 exact ⟨λh=>⟨λx hx=>h x (.inl hx),λx hx=>h x (.inr hx)⟩,λh x hx=>hx.elim (h.1 x) (h.2 x)⟩
theorem Qwb {B:Nat} (hB:2<=B) (i:Nat):∀n,(toB B n).getD i 0=((n/B^i%B:Nat):Int):=by
 induction i with
 |
  zero=>
  intro n
  rcases Nat.eq_zero_or_pos n with rfl|hn
  ·simp [toB_zero]
  ·rw [Wg hB hn];simp
 |
  succ i ih=>
  intro n
  rcases Nat.eq_zero_or_pos n with rfl|hn
  ·simp [toB_zero]
  ·rw [Wg hB hn,List.getD_cons_succ,ih,Nat.div_div_eq_div_mul,Nat.pow_succ,Nat.mul_comm B]
abbrev dg (n:Nat):List Int:=toB 10000 n
theorem b4:2<=10000:=by decide
theorem Qcf {l:List Int} (hl:inB 10000 l) (hs:Qaw l):z14.F l=some (dg (valB 10000 l).toNat):=Qmj b4 hl hs
theorem Qgb {l:List Int} {i:Nat}:z13.F l (i:Int)=some (l.getD i 0):=by
 unfold z13.F
 by_cases h:(i:Int)>=(l.length:Int)
 ·rw [bif_t h]
  have:l.getD i 0=0:=by simp [List.getD,List.getElem?_eq_none (show l.length<=i by omega)]
  rw [this]
 ·rw [Qa h,if_pos (by omega),Zi]
theorem Qfk {n:Nat} (hn:n<9223372036854775808):z8.F (n:Int)=some (dg n):=by
 have key:∀(n:Nat),n<9223372036854775808->∀s:List Int,Qaw s->(s.length+(dg n).length<=1000000000)->Runs (λrec x=>z8.l0P rec some x) ((n:Int),s) ((0:Int),s++dg n):=by
  intro n
  induction n using Nat.strongRecOn with
  |
   _ n ih=>
   intro hn s hs hl
   rcases Nat.eq_zero_or_pos n with rfl|h0
   ·refine .done λrec=>?_
    simp [z8.l0P,toB_zero]
   ·have e:dg n=((n%10000:Nat):Int)::dg (n/10000):=Wg b4 h0
    have hd:n/10000<n:=Nat.div_lt_self h0 (by decide)
    rw [e] at hl ⊢
    have h2:=ih (n/10000) hd (by omega) (s++[((n%10000:Nat):Int)]) (by simp at *;omega) (by simp at *;omega)
    rw [List.append_assoc,List.singleton_append] at h2
    refine .step (λrec=>?_) h2
    unfold z8.l0P
    simp only
    have e1:Int.tmod (n:Int) 10000=((n%10000:Nat):Int):=by rw [Yk (by omega)];rfl
    have e2:wr .i64 (Int.tdiv (n:Int) 10000)=((n/10000:Nat):Int):=by rw [Yd (by omega),Qc (by omega) (by omega)];rfl
    rw [bif_t (by omega),if_pos (by simp at *;omega),e1,e2]
 unfold z8.F z8.l0
 have hl:(dg n).length<=5:=Yj b4 (by omega)
 rw [(key n hn [] (by simp) (by simp;omega)).lfp]
 simp
def dig4 (d:Int):List Int:=[d%10,d/10%10,d/100%10,d/1000%10]
theorem Qxi {d:Int} (h0:0<=d):inB 10 (dig4 d):=by
 intro x hx;simp [dig4] at hx;rcases hx with rfl|rfl|rfl|rfl<;>omega
theorem Qu3 {d:Int} (h0:0<=d) (h:d<10000):valB 10 (dig4 d)=d:=by simp [dig4,valB];omega
theorem Qsx:∀{l:List Int},inB 10000 l->inB 10 (l.flatMap dig4)
 |[],_=>inB_nil 10
 |x::l,h=>by rw [Wt] at h;rw [List.flatMap_cons,Qkb];exact ⟨Qxi h.1.1,Qsx h.2⟩
theorem Qrt:∀{l:List Int},inB 10000 l->valB 10 (l.flatMap dig4)=valB 10000 l
 |[],_=>rfl
 |
  x::l,h=>by
  rw [Wt] at h
  rw [List.flatMap_cons,Qdy,Qu3 h.1.1 h.1.2,Qrt h.2]
  simp [dig4,valB]
theorem Qie:∀(l:List Int),(l.flatMap dig4).length=4*l.length
 |[]=>rfl
 |x::l=>by rw [List.flatMap_cons,List.length_append,Qie l];simp [dig4];omega
theorem Q1a (s:List UInt8) (hs:Qaw s) (d:Int) (h0:0<=d) (hd:d<10000):∃d',z5.l2 (s,d,(0:Int))=some (((dig4 d).reverse.map ch)++s,d',4):=by
 have hs':s.length<=1000000000:=hs
 have one:∀(s:List UInt8) (d:Int) (k:Nat),s.length<=1000000004->0<=d->d<10000->k<4->∀rec,z5.l2P rec some (s,d,(k:Int))=rec (ch (d%10)::s,d/10,((k+1:Nat):Int)):=by
  intro s d k hs h0 hd hk rec
  unfold z5.l2P
  simp only
  rw [bif_t (by omega),if_pos (by simp;omega),Yk h0,Yd h0,Qc (n:=48+d%10) (by omega) (by omega),Qgd (by omega) (by omega),Qc (n:=d/10) (by omega) (by omega),Qc (by omega) (by omega)]
  have:(48+d%10).toNat=48+(d%10).toNat:=by omega
  simp [ch,this]
 refine ⟨d/10/10/10/10,?_⟩
 unfold z5.l2
 refine Runs.lfp (.step (one s d 0 (by omega) h0 hd (by decide)) (.step (one _ (d/10) 1 (by simp;omega) (by omega) (by omega) (by decide)) (.step (one _ (d/10/10) 2 (by simp;omega) (by omega) (by omega) (by decide)) (.step (one _ (d/10/10/10) 3 (by simp;omega) (by omega) (by omega) (by decide)) (.done λrec=>?_)))))
 unfold z5.l2P
 simp only
 rw [Qa (by omega)]
 have e1:d/10/10=d/100:=by omega
 have e2:d/10/10/10=d/1000:=by omega
 simp [dig4,e1,show d/100/10=d/1000 by omega]
theorem Q3h {l:List Int} (hl:inB 10000 l) (hs:4*l.length<=1000000000):z5.l0 l ([],(0:Int))=some ((l.flatMap dig4).reverse.map ch,(l.length:Int)):=by
 have key:∀(k:Nat),k<=l.length->Runs (λrec x=>z5.l0P l rec some x) (((l.take (l.length-k)).flatMap dig4).reverse.map ch,((l.length-k:Nat):Int)) ((l.flatMap dig4).reverse.map ch,(l.length:Int)):=by
  intro k
  induction k with
  |
   zero=>
   intro _
   refine .done λrec=>?_
   unfold z5.l0P
   simp
  |
   succ k ih=>
   intro hk
   have hi:l.length-(k+1)<l.length:=by omega
   have hm:=hl l[l.length-(k+1)] (List.getElem_mem hi)
   obtain ⟨d',h2⟩:=Q1a (((l.take (l.length-(k+1))).flatMap dig4).reverse.map ch) (by
    show List.length _<=_;rw [List.length_map,List.length_reverse,Qie,List.length_take];omega) _ hm.1 hm.2
   refine .step (λrec=>?_) (ih (by omega))
   unfold z5.l0P
   simp only
   rw [bif_t (by omega),if_pos (by omega),Zi,Wa hi,h2]
   simp only [Zb]
   rw [Qc (by omega) (by omega)]
   have e:l.take (l.length-k)=l.take (l.length-(k+1))++[l[l.length-(k+1)]]:=by
    rw [<-List.take_succ_eq_append_getElem hi];congr 1;omega
   have e2:((l.length-(k+1):Nat):Int)+1=((l.length-k:Nat):Int):=by omega
   rw [e,e2,List.flatMap_append]
   simp only [List.flatMap_cons,List.flatMap_nil,List.append_nil,List.reverse_append,List.map_append]
 have:=key l.length (Nat.le_refl _)
 simp only [Nat.sub_self,List.take_zero,List.flatMap_nil,List.reverse_nil,List.map_nil] at this
 exact this.lfp
theorem Qq1 {d:Int} (h0:0<=d) (h:d<10):((ch d).toNat:Int)=48↔d=0:=by rw [Qhh h0 h];omega
theorem Qle {n:Nat} (hs:4*(dg n).length<=1000000000):z5.F (dg n)=some (txt n):=by
 unfold z5.F txt
 by_cases hn:n=0
 ·subst hn;simp [dg,toB_zero]
 ·have hne:dg n≠[]:=λe=>hn ((toB_nil b4).1 e)
  have hlen:=List.length_pos_iff.2 hne
  rw [Qa (by omega),if_neg hn,Q3h (Qx b4 n) hs]
  simp only [Zb]
  generalize hfl:(dg n).flatMap dig4=fl
  have hin:inB 10 fl:=by rw [<-hfl];exact Qsx (Qx b4 n)
  have hv:valB 10 fl=n:=by rw [<-hfl,Qrt (Qx b4 n),Q8 b4]
  have hl:fl.length<=1000000000:=by rw [<-hfl,Qie];exact hs
  have key:∀k:Nat,k<=fl.length->valB 10 (fl.take k)=n->∃m:Nat,m<=k/\Runs (λrec x=>z5.l4P (fl.reverse.map ch) rec some x) ((fl.length-k:Nat):Int) ((fl.length-m:Nat):Int)/\valB 10 (fl.take m)=n/\(m=0\/fl.getD (m-1) 0≠0):=by
   intro k
   induction k with
   |zero=>intro _ h;simp [valB] at h;omega
   |
    succ k ih=>
    intro hk h
    have hi:fl.length-(k+1)<(fl.reverse.map ch).length:=by simp;omega
    have hk':k<fl.length:=by omega
    have hm:=hin fl[k] (List.getElem_mem hk')
    have eg:(fl.reverse.map ch).getD (fl.length-(k+1)) 0=ch fl[k]:=by
     have e0:fl.length-1-(fl.length-(k+1))=k:=by omega
     simp only [List.getD,List.getElem?_eq_getElem hi,Option.getD_some,List.getElem_map,List.getElem_reverse,e0]
    by_cases hz:fl[k]=0
    ·obtain ⟨m,h1,h2,h3,h4⟩:=ih (by omega) (by rw [Yp hk',hz] at h;simpa using h)
     refine ⟨m,by omega,.step (λrec=>?_) h2,h3,h4⟩
     unfold z5.l4P
     rw [if_pos (by simp;omega),Zi,eg,bif_t ((Qq1 hm.1 hm.2).2 hz),Qc (by omega) (by omega)]
     congr 1;omega
    ·refine ⟨k+1,Nat.le_refl _,.done λrec=>?_,h,.inr (by rw [Nat.add_sub_cancel,Wa hk'];exact hz)⟩
     unfold z5.l4P
     rw [if_pos (by simp;omega),Zi,eg,Qa (λe=>hz ((Qq1 hm.1 hm.2).1 e))]
  obtain ⟨m,h1,h2,h3,h4⟩:=key fl.length (Nat.le_refl _) (by rw [List.take_length];exact hv)
  rw [Nat.sub_self] at h2
  unfold z5.l4
  rw [show (0:Int)=((0:Nat):Int) from rfl,h2.lfp]
  simp only [Zb]
  rw [if_pos (by rw [List.length_map,List.length_reverse];omega),Zi]
  have hm:m≠0:=by rintro rfl;simp [valB] at h3;omega
  have e:fl.take m=toB 10 n:=by
   have:=Qhq b10 (l:=fl.take m) (λx hx=>hin x (List.mem_of_mem_take hx)) λhne=>by
    rcases h4 with h4|h4
    ·exact absurd h4 hm
    ·rw [List.getLast_eq_getElem]
     rw [Wa (by omega)] at h4
     simp only [List.length_take,List.getElem_take]
     have:min m fl.length-1=m-1:=by omega
     simp only [this];exact h4
   rwa [h3,Zi] at this
  rw [<-e,<-List.map_drop,List.reverse_take]
theorem Q3y {a b s:List Int} {i k:Nat} {c:Int} (ha:inB 10000 a) (hb:inB 10000 b) (hs:inB 10000 s) (hi:i<a.length) (hk:i+k<s.length) (hsl:s.length<=4000000000) (hc:0<=c/\c<10000) (hgo:k<b.length\/0<c)
  (rec:Int×Int×List Int->Option (Int×Int×List Int)) :
  z15.l2aaP a b (i:Int) rec some (c,(k:Int),s) =
   rec ((s.getD (i+k) 0+a.getD i 0*b.getD k 0+c)/10000,((k+1:Nat):Int),s.set (i+k) ((s.getD (i+k) 0+a.getD i 0*b.getD k 0+c)%10000)):=by
 have h1:=Q2 (by decide) ha i
 have h2:=Q2 (by decide) hb k
 have h3:=Q2 (by decide) hs (i+k)
 have h4:0<=a.getD i 0*b.getD k 0:=Int.mul_nonneg h1.1 h2.1
 have h5:a.getD i 0*b.getD k 0<=9999*9999:=Int.mul_le_mul (by omega) (by omega) h2.1 (by decide)
 have e1:wr .i64 ((i:Int)+k)=((i+k:Nat):Int):=by rw [Qc (by omega) (by omega)];omega
 have e2:wr .i64 (a.getD i 0*b.getD k 0)=a.getD i 0*b.getD k 0:=Qc (by omega) (by omega)
 have e3:wr .i64 (s.getD (i+k) 0+a.getD i 0*b.getD k 0)=s.getD (i+k) 0+a.getD i 0*b.getD k 0:=Qc (by omega) (by omega)
 have e4:wr .i64 (s.getD (i+k) 0+a.getD i 0*b.getD k 0+c)=s.getD (i+k) 0+a.getD i 0*b.getD k 0+c:=Qc (by omega) (by omega)
 have e5:wr .i64 ((k:Int)+1)=((k+1:Nat):Int):=by rw [Qc (by omega) (by omega)];omega
 unfold z15.l2aaP
 simp only [Qgb,Zb,e1,Zi,e2,e3,e4,e5]
 rw [Yd (by omega),Yk (by omega),Qc (n:=(_:Int)/10000) (by omega) (by omega)]
 have c1:(0:Int)<=((i+k:Nat):Int)/\((i+k:Nat):Int)<(s.length:Int):=by omega
 have c2:(0:Int)<=(i:Int)/\(i:Int)<(a.length:Int):=by omega
 simp only [if_pos c1,if_pos hk,if_pos c2]
 by_cases hkb:(k:Int)<(b.length:Int)
 ·rw [bif_t hkb]
 ·rw [Qa hkb,bif_t (show c>0 by omega)]
theorem Qqu {a b:List Int} {i:Nat} {T:Int} (ha:inB 10000 a) (hb:inB 10000 b) (hi:i<a.length) (hT:T<(10000^(i+1+b.length):Nat)) :
  ∀
   (f k:Nat) (c:Int) (s:List Int),inB 10000 s->i+1+b.length<s.length->s.length<=4000000000->0<=c/\c<10000->b.length+2<=k+f ->
   valB 10000 s+(c+a.getD i 0*valB 10000 (b.drop k))*(10000^(i+k):Nat)=T ->
   ∃k' s',Runs (λrec x=>z15.l2aaP a b (i:Int) rec some x) (c,(k:Int),s) ((0:Int),k',s')/\inB 10000 s'/\s'.length=s.length/\valB 10000 s'=T
 |
  f,k,c,s,hs,hl,hl',hc,hf,hv=>by
  have hbd:=Wm (Jb hb k)
  have h1:=Q2 (B:=10000) (by decide) ha i
  have hsv:=Wm hs
  have hab:=Int.mul_nonneg h1.1 hbd
  by_cases hgo:k<b.length\/0<c
  ·have hk:k<=b.length:=by
    rcases hgo with h|h
    ·omega
    ·rcases Nat.lt_or_ge b.length k with hlt|hge
     ·exfalso
      have h2:(10000^(i+1+b.length):Nat)<=10000^(i+k):=Nat.pow_le_pow_right (by decide) (by omega)
      have h3:(1:Int)*(10000^(i+k):Nat)<=(c+a.getD i 0*valB 10000 (b.drop k))*(10000^(i+k):Nat):=Int.mul_le_mul_of_nonneg_right (by omega) (Int.natCast_nonneg _)
      have h4:((10000^(i+1+b.length):Nat):Int)<=(10000^(i+k):Nat):=by exact_mod_cast h2
      omega
     ·exact hge
   match f,hf with
   |0,hf=>omega
   |
    f+1,hf=>
    have h2:=Q2 (B:=10000) (by decide) hb k
    have h3:=Q2 (B:=10000) (by decide) hs (i+k)
    have h4:0<=a.getD i 0*b.getD k 0:=Int.mul_nonneg h1.1 h2.1
    have h5:a.getD i 0*b.getD k 0<=9999*9999:=Int.mul_le_mul (by omega) (by omega) h2.1 (by decide)
    obtain ⟨k',s',r1,r2,r3,r4⟩:=Qqu ha hb hi hT f (k+1) ((s.getD (i+k) 0+a.getD i 0*b.getD k 0+c)/10000) (s.set (i+k) ((s.getD (i+k) 0+a.getD i 0*b.getD k 0+c)%10000))
     (Yc hs (by omega)) (by rw [List.length_set];exact hl) (by rw [List.length_set];exact hl') (by omega) (by omega) (by
      rw [Yl (by omega),<-hv,Wb b k]
      generalize hx:s.getD (i+k) 0+a.getD i 0*b.getD k 0+c=x
      have e1:(10000^(i+(k+1)):Nat)=10000*10000^(i+k):=by rw [<-Nat.add_assoc,Nat.pow_succ,Nat.mul_comm]
      rw [e1,Int.natCast_mul]
      have e2:x=10000*(x/10000)+x%10000:=(Int.mul_ediv_add_emod x 10000).symm
      generalize x/10000=q at *
      generalize x%10000=m at *
      subst e2
      generalize ((10000^(i+k):Nat):Int)=p
      generalize valB 10000 (b.drop (k+1))=w
      generalize a.getD i 0=u at *
      generalize b.getD k 0=v at *
      generalize s.getD (i+k) 0=z at *
      have hc':c=10000*q+m-z-u*v:=by omega
      subst hc'
      grind)
    refine ⟨k',s',.step (λrec=>Q3y ha hb hs hi (by omega) hl' hc hgo rec) r1,r2,by rw [r3,List.length_set],r4⟩
  ·have hc0:c=0:=by omega
   have hkb:b.length<=k:=by omega
   subst hc0
   refine ⟨k,s,.done λrec=>?_,hs,rfl,?_⟩
   ·unfold z15.l2aaP
    simp only
    rw [Qa (by omega),Qa (by omega)]
   ·rw [List.drop_eq_nil_of_le hkb] at hv
    simpa [valB] using hv
theorem Qp8 {a b:List Int} (ha:inB 10000 a) (hb:inB 10000 b) (hal:a.length+b.length<=3000000000) :
  ∀
   (f i:Nat) (s:List Int),i+f=a.length->inB 10000 s->s.length=a.length+b.length+1->valB 10000 s=valB 10000 (a.take i)*valB 10000 b ->
   ∃s',Runs (λrec x=>z15.l0P a b rec some x) ((i:Int),s) ((a.length:Int),s')/\inB 10000 s'/\s'.length=s.length/\valB 10000 s'=valB 10000 a*valB 10000 b
 |
  0,i,s,hf,hs,hl,hv=>by
  have:i=a.length:=by omega
  subst this
  refine ⟨s,.done λrec=>?_,hs,rfl,by rwa [List.take_length] at hv⟩
  unfold z15.l0P
  simp
 |
  f+1,i,s,hf,hs,hl,hv=>by
  have hi:i<a.length:=by omega
  have hT:valB 10000 (a.take (i+1))*valB 10000 b<(10000^(i+1+b.length):Nat):=by
   have h1:=Yb b4 (Wo ha (i+1))
   have h2:=Yb b4 hb
   have h3:=Wm (Wo ha (i+1))
   have h4:=Wm hb
   rw [List.length_take,Nat.min_eq_left (by omega)] at h1
   rw [Nat.pow_add,Int.natCast_mul]
   rcases Int.lt_or_eq_of_le h4 with h0|h0
   ·exact Int.mul_lt_mul h1 (Int.le_of_lt h2) h0 (by omega)
   ·rw [<-h0,Int.mul_zero];exact Int.mul_pos (by omega) (by omega)
  obtain ⟨k',s',r1,r2,r3,r4⟩:=Qqu ha hb hi hT (b.length+2) 0 0 s hs (by omega) (by omega) (by omega) (by omega) (by
   rw [hv,Yp hi,List.drop_zero,Int.zero_add,Nat.add_zero,Wa hi];grind)
  obtain ⟨s2,q1,q2,q3,q4⟩:=Qp8 ha hb hal f (i+1) s' (by omega) r2 (by omega) r4
  refine ⟨s2,.step (λrec=>?_) q1,q2,by omega,q4⟩
  have e:z15.l2aa a b (i:Int) ((0:Int),(0:Int),s)=some ((0:Int),k',s'):=r1.lfp
  unfold z15.l0P
  simp only
  rw [bif_t (by omega),e]
  simp only [Zb]
  rw [Qc (by omega) (by omega)]
  rfl
theorem Qzr {a b:List Int} (ha:inB 10000 a) (hb:inB 10000 b) (hal:a.length+b.length<=900000000):z15.F a b=some (dg (valB 10000 a*valB 10000 b).toNat):=by
 unfold z15.F z15.l0
 have e:wr .i64 (wr .i64 ((a.length:Int)+(b.length:Int))+1)=((a.length+b.length+1:Nat):Int):=by
  rw [Qc (n:=(a.length:Int)+b.length) (by omega) (by omega),Qc (by omega) (by omega)];omega
 rw [e,if_pos (by omega),Zi]
 obtain ⟨s',r1,r2,r3,r4⟩:=Qp8 ha hb (by omega) a.length 0 (List.replicate (a.length+b.length+1) 0) (by omega) (Qa4 (by decide) _) (by simp) (by rw [Qca];simp [valB])
 rw [show ((0:Int),List.replicate (a.length+b.length+1) (0:Int))=(((0:Nat):Int),List.replicate (a.length+b.length+1) (0:Int)) from rfl,r1.lfp]
 simp only [Zb]
 rw [Qcf r2 (by show List.length _<=_;rw [r3];simp;omega),r4]
 rfl
theorem Qdp {m n:Nat} (hl:(dg m).length+(dg n).length<=900000000):z15.F (dg m) (dg n)=some (dg (m*n)):=by
 rw [Qzr (Qx b4 m) (Qx b4 n) hl,Q8 b4,Q8 b4]
 congr 2
theorem Qev (B:Nat) (l:List Int) (x:Int):valB B (l++[x])=valB B l+(B^l.length:Nat)*x:=by
 rw [Qdy];simp [valB]
theorem Qep {B:Nat} {l:List Int} {x:Int} (h:inB B l) (hx:0<=x/\x<B):inB B (l++[x]):=Qkb.2 ⟨h,Wt.2 ⟨hx,inB_nil B⟩⟩
theorem Q25 {a b s:List Int} {i:Nat} {c:Int} (ha:inB 10000 a) (hb:inB 10000 b) (hsl:s.length<=4000000000) (hil:i<=4000000000) (hc:0<=c/\c<10000) (hgo:i<a.length\/i<b.length\/0<c)
  (rec:Int×Int×List Int->Option (Int×Int×List Int)) :
  z107.l0b6P a b rec some (c,(i:Int),s)=rec ((a.getD i 0+b.getD i 0+c)/10000,((i+1:Nat):Int),s++[(a.getD i 0+b.getD i 0+c)%10000]):=by
 have h1:=Q2 (B:=10000) (by decide) ha i
 have h2:=Q2 (B:=10000) (by decide) hb i
 have e1:wr .i64 (a.getD i 0+b.getD i 0)=a.getD i 0+b.getD i 0:=Qc (by omega) (by omega)
 have e2:wr .i64 (a.getD i 0+b.getD i 0+c)=a.getD i 0+b.getD i 0+c:=Qc (by omega) (by omega)
 have e3:wr .i64 ((i:Int)+1)=((i+1:Nat):Int):=by rw [Qc (by omega) (by omega)];omega
 unfold z107.l0b6P
 simp only [Qgb,Zb,e1,e2,e3]
 rw [Yd (by omega),Yk (by omega),Qc (n:=(_:Int)/10000) (by omega) (by omega)]
 have c1:∀x:Int,(s.length+[x].length)*8<=140737488355328:=λx=>by simp;omega
 simp only [if_pos (c1 _)]
 by_cases h3:(i:Int)<(a.length:Int)
 ·rw [bif_t h3]
 ·rw [Qa h3]
  by_cases h4:(i:Int)<(b.length:Int)
  ·rw [bif_t h4]
  ·rw [Qa h4,bif_t (show c>0 by omega)]
theorem Qmn {a b:List Int} (ha:inB 10000 a) (hb:inB 10000 b) (hal:a.length+b.length<=900000000) :
  ∀
   (f i:Nat) (c:Int) (s:List Int),a.length+b.length+1<=i+f->i<=a.length+b.length+1->s.length=i->inB 10000 s->0<=c/\c<=1->(i=a.length+b.length+1->c=0) ->
   valB 10000 s+(c+valB 10000 (a.drop i)+valB 10000 (b.drop i))*(10000^i:Nat)=valB 10000 a+valB 10000 b ->
   ∃i' s',Runs (λrec x=>z107.l0b6P a b rec some x) (c,(i:Int),s) ((0:Int),i',s')/\inB 10000 s'/\s'.length<=a.length+b.length+1/\valB 10000 s'=valB 10000 a+valB 10000 b
 |
  f,i,c,s,hf,hi,hl,hs,hc,he,hv=>by
  by_cases hgo:i<a.length\/i<b.length\/0<c
  ·match f,hf with
   |
    0,hf=>
    have:i=a.length+b.length+1:=by omega
    have:=he this
    omega
   |
    f+1,hf=>
    have hi':i<a.length+b.length+1:=by
     rcases Nat.lt_or_ge i (a.length+b.length+1) with h|h
     ·exact h
     ·have:=he (by omega);omega
    have h1:=Q2 (B:=10000) (by decide) ha i
    have h2:=Q2 (B:=10000) (by decide) hb i
    obtain ⟨i',s',r1,r2,r3,r4⟩:=Qmn ha hb hal f (i+1) ((a.getD i 0+b.getD i 0+c)/10000) (s++[(a.getD i 0+b.getD i 0+c)%10000]) (by omega) (by omega) (by simp [hl]) (Qep hs (by omega)) (by omega)
     (λe=>by
      have h3:a.getD i 0=0\/b.getD i 0=0:=by
       by_cases ha':i<a.length
       ·right;simp [List.getD,List.getElem?_eq_none (show b.length<=i by omega)]
       ·left;simp [List.getD,List.getElem?_eq_none (show a.length<=i by omega)]
      have h5:a.getD i 0=0:=by
       by_cases ha':i<a.length
       ·have:b.length=0:=by omega
        exfalso
        have h6:i=a.length+b.length:=by omega
        omega
       ·simp [List.getD,List.getElem?_eq_none (show a.length<=i by omega)]
      have h6:b.getD i 0=0:=by simp [List.getD,List.getElem?_eq_none (show b.length<=i by omega)]
      omega)
     (by
      rw [Qev,<-hv,Wb a i,Wb b i,hl,Nat.pow_succ,Nat.mul_comm (10000^i) 10000,Int.natCast_mul]
      generalize hx:a.getD i 0+b.getD i 0+c=x
      have e2:x=10000*(x/10000)+x%10000:=(Int.mul_ediv_add_emod x 10000).symm
      generalize x/10000=q at *
      generalize x%10000=m at *
      subst e2
      generalize ((10000^i:Nat):Int)=p
      generalize valB 10000 (a.drop (i+1))=w
      generalize valB 10000 (b.drop (i+1))=w'
      generalize a.getD i 0=u at *
      generalize b.getD i 0=v at *
      have hc':c=10000*q+m-u-v:=by omega
      subst hc'
      grind)
    exact ⟨i',s',.step (λrec=>Q25 ha hb (by omega) (by omega) (by omega) hgo rec) r1,r2,r3,r4⟩
  ·have hc0:c=0:=by omega
   subst hc0
   refine ⟨i,s,.done λrec=>?_,hs,by omega,?_⟩
   ·unfold z107.l0b6P
    simp only
    rw [Qa (by omega),Qa (by omega),Qa (by omega)]
   ·rw [List.drop_eq_nil_of_le (by omega),List.drop_eq_nil_of_le (by omega)] at hv
    simpa [valB] using hv
theorem Qug {a b:List Int} (ha:inB 10000 a) (hb:inB 10000 b) (hal:a.length+b.length<=900000000):z107.F a b=some (dg (valB 10000 a+valB 10000 b).toNat):=by
 obtain ⟨i',s',r1,r2,r3,r4⟩:=Qmn ha hb hal (a.length+b.length+1) 0 0 [] (by omega) (by omega) rfl (inB_nil _) (by omega) (by omega) (by simp [valB])
 have e:z107.l0b6 a b ((0:Int),(0:Int),[])=some ((0:Int),i',s'):=r1.lfp
 unfold z107.F
 rw [e]
 simp only [Zb]
 rw [Qcf r2 (by show List.length _<=_;omega),r4]
 rfl
theorem Qoq {m n:Nat} (hl:(dg m).length+(dg n).length<=900000000):z107.F (dg m) (dg n)=some (dg (m+n)):=by
 rw [Qug (Qx b4 m) (Qx b4 n) hl,Q8 b4,Q8 b4]
 congr 2
end Go.Proofs.YtgjncgiekniniaaGreatDoor.A
end
