/- PlanLast: part 0 of what is its own. -/
import Derived.Test.YtgjncgiekniniaaGreatDoorCad3
import Derived.Test.YtgjncgiekniniaaGreatDoorRows
import Derived.WalkKit
import Derived.ProofKit
import Derived.OpenShut
import Derived.Carry
import Derived.ChangeSame
import Derived.Deep.Slices
import Derived.Test.YtgjncgiekniniaaGreatDoorCards
import Derived.Test.YtgjncgiekniniaaGreatDoorTie
import Derived.KernelRfl
import Derived.JoinedCond
set_option linter.unusedVariables false
set_option linter.unusedSimpArgs false
section
namespace Go.Proofs.YtgjncgiekniniaaGreatDoor.A
open Go Go.RowKit
section
variable {P:Program} {C:Ctx}
theorem Qyw (hT:C.T.check P=true) (hm:P.follows .mixedOrders=true) (hp:C.prim=λ_=>none) (hi:C.inl=λ_=>none) (hc:C.clone=λ_=>none) (hl:C.L=λ_ _ _ _=>none)
  (call:∀g vs p,C.call g vs=some p->SoundC P g vs p) (hmt:∀t m g,C.meth t m=some g->MethOK P t m g) {g:Nat} {f:Func} {c:Code} (hf:FunOK P g f c) {vs vs0:List V} {p:Pack} {dec:V->Option p.ρ}
  (hvs:vs.map Qax=vs0) (link:C.evTop g (ifun f) vs0 dec=p.m) (hdec:Qg9 dec p.enc):SoundC P g vs p:=
 Qfx ⟨hT,hm,λg vs p _ _ h=>call g vs p h,λg e _ h=>by rw [hc] at h;simp at h,hmt⟩
  ⟨λg h hh=>by rw [hp] at hh;simp at hh,λg fn h=>by rw [hi] at h;simp at h,λg fn h=>by rw [hi] at h;simp at h⟩ hf
  (λid b _ st p hp=>by rw [hl] at hp;simp at hp) hvs link hdec
end
end Go.Proofs.YtgjncgiekniniaaGreatDoor.A
end
section
namespace Go.Proofs.YtgjncgiekniniaaGreatDoor.A
open Go
noncomputable section
def z5.l2P {R:Type} (rec done:((List UInt8)×Int×Int)->Option R):((List UInt8)×Int×Int)->Option R:=λx=>match x with
 |(a,b,c)=>(bif (decide (c<4)) then (if ([(wr .u8 (wr .i64 ((48:Int)+(Int.tmod b 10))))].map λn=>UInt8.ofNat n.toNat).length+a.length<=9223372036854775807 then (rec ((([(wr .u8 (wr .i64 ((48:Int)+(Int.tmod b 10))))].map λn=>UInt8.ofNat n.toNat)++a),(wr .i64 (Int.tdiv b 10)),(wr .i64 (c+1)))) else none) else (done (a,b,c)))
def z5.l2 (x:((List UInt8)×Int×Int)):Option (((List UInt8)×Int×Int)):=lfp (λrec x=>z5.l2P rec some x) x
def z5.l0P (a:List Int) {R:Type} (rec done:((List UInt8)×Int)->Option R):((List UInt8)×Int)->Option R:=λx=>match x with
 |(b,c)=>(bif (decide (c<(((a).length:Nat):Int))) then (if 0<=c/\c<(a.length:Int) then ((z5.l2 (b,(a.getD (c).toNat 0),(0:Int))).bind λd=>(rec (d.1,(wr .i64 (c+1))))) else none) else (done (b,c)))
def z5.l0 (a:List Int) (x:((List UInt8)×Int)):Option (((List UInt8)×Int)):=lfp (λrec x=>z5.l0P a rec some x) x
def z5.l4P (a:List UInt8) {R:Type} (rec:Int->Option R) (done:(Int)->Option R):Int->Option R:=λb=>(if 0<=b/\b<(a.length:Int) then (bif (decide (((a.getD (b).toNat 0).toNat:Int)=48)) then (rec (wr .i64 (b+1))) else (done b)) else none)
def z5.l4 (a:List UInt8) (x:Int):Option ((Int)):=lfp (λrec x=>z5.l4P a rec some x) x
def z5.F (a0:List Int):Option ((List UInt8)):=
 (bif (decide ((((a0).length:Nat):Int)=0)) then (some ([48]:List UInt8)) else ((z5.l0 a0 (([]:List UInt8),(0:Int))).bind λo1=>((z5.l4 o1.1 0).bind λo2=>(if 0<=o2/\o2<=((o1.1).length:Int) then (some (o1.1.drop (o2).toNat)) else none))))
def z5.enc (r:(List UInt8)):V:=(.str r)
def z5.pack:List V->Option Pack
 |[(.ints _ .i64 a0)]=>some ⟨(List UInt8),z5.F a0,z5.enc⟩
 |_=>none
def z6.F (a0:List Int) (a1:Bool):Option ((List UInt8)):=
 ((z5.F a0).bind λr1=>(bif a1 then (if ([45]:List UInt8).length+r1.length<=9223372036854775807 then (some (([45]:List UInt8)++r1)) else none) else (some r1)))
def z6.enc (r:(List UInt8)):V:=(.str r)
def z6.pack:List V->Option Pack
 |[(.agg [(.ints _ .i64 a0),(.bool a1)])]=>some ⟨(List UInt8),z6.F a0 a1,z6.enc⟩
 |_=>none
def z7.F (a0:List Int) (a1:Bool):Option ((List Int)×Bool):=
 (bif a1 then (some (a0,(decide ((((a0).length:Nat):Int)>0)))) else (some (a0,false)))
def z7.enc (r:(List Int)×Bool):V:=(.agg [(.ints false .i64 r.1),(.bool r.2)])
def z7.pack:List V->Option Pack
 |[(.ints _ .i64 a0),(.bool a1)]=>some ⟨(List Int)×Bool,z7.F a0 a1,z7.enc⟩
 |_=>none
def z8.l0P {R:Type} (rec done:(Int×(List Int))->Option R):(Int×(List Int))->Option R:=λx=>match x with
 |(a,b)=>(bif (decide (a>0)) then (if ((b).length+([(Int.tmod a 10000)]).length)*8<=140737488355328 then (rec ((wr .i64 (Int.tdiv a 10000)),(b++[(Int.tmod a 10000)]))) else none) else (done (a,b)))
def z8.l0 (x:(Int×(List Int))):Option ((Int×(List Int))):=lfp (λrec x=>z8.l0P rec some x) x
def z8.F (a0:Int):Option ((List Int)):=
 ((z8.l0 (a0,[])).bind λo1=>(some o1.2))
def z8.enc (r:(List Int)):V:=(.ints false .i64 r)
def z8.pack:List V->Option Pack
 |[(.int .i64 a0)]=>some ⟨(List Int),z8.F a0,z8.enc⟩
 |_=>none
def z9.F (a0:Int):Option ((List Int)×Bool):=
 (bif (decide (a0<0)) then ((z8.F (wr .i64 (0-a0))).bind λr1=>((z7.F r1 true).bind λr2=>(some (r2.1,r2.2)))) else ((z8.F a0).bind λr3=>((z7.F r3 false).bind λr4=>(some (r4.1,r4.2)))))
def z9.enc (r:(List Int)×Bool):V:=(.agg [(.ints false .i64 r.1),(.bool r.2)])
def z9.pack:List V->Option Pack
 |[(.int .i64 a0)]=>some ⟨(List Int)×Bool,z9.F a0,z9.enc⟩
 |_=>none
def z10.j1 (a0:Int):Option (Bool):=
 (bif (decide ((Int.tmod a0 400)=0)) then (some true) else (bif (decide ((Int.tmod a0 4)=0)) then (some (!decide ((Int.tmod a0 100)=0))) else (some false)))
def z10.F (a0:Int):Option (Bool):=
 (bif (decide (a0<1)) then (some false) else (bif (decide (a0>9999)) then (some false) else (z10.j1 a0)))
def z10.enc (r:Bool):V:=(.bool r)
def z10.pack:List V->Option Pack
 |[(.int .i64 a0)]=>some ⟨Bool,z10.F a0,z10.enc⟩
 |_=>none
def z11.j1 (a1 a0:Int):Option (Int):=
 (bif (decide (a1=2)) then ((z10.F a0).bind λr2=>(bif r2 then (some 29) else (some 28))) else (bif (decide (a1=4)) then (some 30) else (bif (decide (a1=6)) then (some 30) else (bif (decide (a1=9)) then (some 30) else (bif (decide (a1=11)) then (some 30) else (some 31))))))
def z11.F (a0 a1:Int):Option (Int):=
 (bif (decide (a0<1)) then (some 0) else (bif (decide (a0>9999)) then (some 0) else (bif (decide (a1<1)) then (some 0) else (bif (decide (a1>12)) then (some 0) else (z11.j1 a1 a0)))))
def z11.enc (r:Int):V:=(.int .i64 r)
def z11.pack:List V->Option Pack
 |[(.int .i64 a0),(.int .i64 a1)]=>some ⟨Int,z11.F a0 a1,z11.enc⟩
 |_=>none
def z12.j7 (a0 a3 j5 j7:Int):Option (Int×Int×Int):=
 (some ((wr .i64 ((wr .i64 ((Int.tmod a0 a3)+a3))+1)),(wr .i64 (j5+1)),(wr .i64 (j7+1))))
def z12.j5 (a0 a3 j5 a2:Int):Option (Int×Int×Int):=
 ((z11.F (wr .i64 ((wr .i64 ((Int.tmod a0 a3)+a3))+1)) (wr .i64 (j5+1))).bind λr6=>(if r6=0 then none else (bif (decide ((Int.tmod a2 r6)<0)) then (z12.j7 a0 a3 j5 (wr .i64 ((Int.tmod a2 r6)+r6))) else (z12.j7 a0 a3 j5 (Int.tmod a2 r6)))))
def z12.j8 (a0 a3 j8 a2:Int):Option (Int×Int×Int):=
 ((z11.F (wr .i64 ((Int.tmod a0 a3)+1)) (wr .i64 (j8+1))).bind λr9=>(if r9=0 then none else (bif (decide ((Int.tmod a2 r9)<0)) then (some ((wr .i64 ((Int.tmod a0 a3)+1)),(wr .i64 (j8+1)),(wr .i64 ((wr .i64 ((Int.tmod a2 r9)+r9))+1)))) else (some ((wr .i64 ((Int.tmod a0 a3)+1)),(wr .i64 (j8+1)),(wr .i64 ((Int.tmod a2 r9)+1)))))))
def z12.F (a0 a1 a2 a3:Int):Option (Int×Int×Int):=
 (if a3=0 then none else (bif (decide ((Int.tmod a0 a3)<0)) then (bif (decide ((Int.tmod a1 12)<0)) then (z12.j5 a0 a3 (wr .i64 ((Int.tmod a1 12)+12)) a2) else (z12.j5 a0 a3 (Int.tmod a1 12) a2)) else (bif (decide ((Int.tmod a1 12)<0)) then (z12.j8 a0 a3 (wr .i64 ((Int.tmod a1 12)+12)) a2) else (z12.j8 a0 a3 (Int.tmod a1 12) a2))))
def z12.enc (r:Int×Int×Int):V:=(.agg [(.int .i64 r.1),(.int .i64 r.2.1),(.int .i64 r.2.2)])
def z12.pack:List V->Option Pack
 |[(.agg [(.int .i64 a0),(.int .i64 a1),(.int .i64 a2)]),(.int .i64 a3)]=>some ⟨Int×Int×Int,z12.F a0 a1 a2 a3,z12.enc⟩
 |_=>none
def z13.F (a0:List Int) (a1:Int):Option (Int):=
 (bif (decide (a1>=(((a0).length:Nat):Int))) then (some 0) else (if 0<=a1/\a1<(a0.length:Int) then (some (a0.getD (a1).toNat 0)) else none))
def z13.enc (r:Int):V:=(.int .i64 r)
def z13.pack:List V->Option Pack
 |[(.ints _ .i64 a0),(.int .i64 a1)]=>some ⟨Int,z13.F a0 a1,z13.enc⟩
 |_=>none
def z14.enc (r:(List Int)):V:=(.ints false .i64 r)
def z14.pack:List V->Option Pack
 |[(.ints _ .i64 a0)]=>some ⟨(List Int),z14.F a0,z14.enc⟩
 |_=>none
def z15.l2aaP (a b:List Int) (c:Int) {R:Type} (rec done:(Int×Int×(List Int))->Option R):(Int×Int×(List Int))->Option R:=λx=>match x with
 |(d,e,g)=>(bif (decide (e<(((b).length:Nat):Int))) then ((z13.F b e).bind λh=>(if 0<=(wr .i64 (c+e))/\(wr .i64 (c+e))<(g.length:Int) then (if ((wr .i64 (c+e))).toNat<g.length then (if 0<=c/\c<(a.length:Int) then (if 0<=(wr .i64 (c+e))/\(wr .i64 (c+e))<(g.length:Int) then (if ((wr .i64 (c+e))).toNat<g.length then (rec ((wr .i64 (Int.tdiv (wr .i64 ((wr .i64 ((g.getD ((wr .i64 (c+e))).toNat 0)+(wr .i64 ((a.getD (c).toNat 0)*h))))+d)) 10000)),(wr .i64 (e+1)),(g.set ((wr .i64 (c+e))).toNat (Int.tmod (wr .i64 ((wr .i64 ((g.getD ((wr .i64 (c+e))).toNat 0)+(wr .i64 ((a.getD (c).toNat 0)*h))))+d)) 10000)))) else none) else none) else none) else none) else none)) else (bif (decide (d>0)) then ((z13.F b e).bind λj=>(if 0<=(wr .i64 (c+e))/\(wr .i64 (c+e))<(g.length:Int) then (if ((wr .i64 (c+e))).toNat<g.length then (if 0<=c/\c<(a.length:Int) then (if 0<=(wr .i64 (c+e))/\(wr .i64 (c+e))<(g.length:Int) then (if ((wr .i64 (c+e))).toNat<g.length then (rec ((wr .i64 (Int.tdiv (wr .i64 ((wr .i64 ((g.getD ((wr .i64 (c+e))).toNat 0)+(wr .i64 ((a.getD (c).toNat 0)*j))))+d)) 10000)),(wr .i64 (e+1)),(g.set ((wr .i64 (c+e))).toNat (Int.tmod (wr .i64 ((wr .i64 ((g.getD ((wr .i64 (c+e))).toNat 0)+(wr .i64 ((a.getD (c).toNat 0)*j))))+d)) 10000)))) else none) else none) else none) else none) else none)) else (done (d,e,g))))
def z15.l2aa (a b:List Int) (c:Int) (x:(Int×Int×(List Int))):Option ((Int×Int×(List Int))):=lfp (λrec x=>z15.l2aaP a b c rec some x) x
def z15.l0P (a b:List Int) {R:Type} (rec done:(Int×(List Int))->Option R):(Int×(List Int))->Option R:=λx=>match x with
 |(c,d)=>(bif (decide (c<(((a).length:Nat):Int))) then ((z15.l2aa a b c ((0:Int),(0:Int),d)).bind λe=>(rec ((wr .i64 (c+1)),e.2.2))) else (done (c,d)))
def z15.l0 (a b:List Int) (x:(Int×(List Int))):Option ((Int×(List Int))):=lfp (λrec x=>z15.l0P a b rec some x) x
def z15.F (a0 a1:List Int):Option ((List Int)):=
 (if 0<=(wr .i64 ((wr .i64 ((((a0).length:Nat):Int)+(((a1).length:Nat):Int)))+1))/\(wr .i64 ((wr .i64 ((((a0).length:Nat):Int)+(((a1).length:Nat):Int)))+1))*8<=140737488355328 then ((z15.l0 a0 a1 ((0:Int),(List.replicate ((wr .i64 ((wr .i64 ((((a0).length:Nat):Int)+(((a1).length:Nat):Int)))+1))).toNat (0:Int)))).bind λo1=>((z14.F o1.2).bind λr2=>(some r2))) else none)
def z15.enc (r:(List Int)):V:=(.ints false .i64 r)
def z15.pack:List V->Option Pack
 |[(.ints _ .i64 a0),(.ints _ .i64 a1)]=>some ⟨(List Int),z15.F a0 a1,z15.enc⟩
 |_=>none
def z16.F (a0:List Int) (a1:Bool) (a2:List Int) (a3:Bool):Option ((List Int)×Bool):=
 ((z15.F a0 a2).bind λr1=>((z7.F r1 (!decide (a1=a3))).bind λr2=>(some (r2.1,r2.2))))
def z16.enc (r:(List Int)×Bool):V:=(.agg [(.ints false .i64 r.1),(.bool r.2)])
def z16.pack:List V->Option Pack
 |[(.agg [(.ints _ .i64 a0),(.bool a1)]),(.agg [(.ints _ .i64 a2),(.bool a3)])]=>some ⟨(List Int)×Bool,z16.F a0 a1 a2 a3,z16.enc⟩
 |_=>none
def z17.l0P (a:Int) {R:Type} (rec done:((List UInt8))->Option R):((List UInt8))->Option R:=λb=>(bif (decide ((b.length:Int)<=a)) then (if ([48]:List UInt8).length+b.length<=9223372036854775807 then (rec (([48]:List UInt8)++b)) else none) else (done b))
def z17.l0 (a:Int) (x:((List UInt8))):Option (((List UInt8))):=lfp (λrec x=>z17.l0P a rec some x) x
def z17.j3 (a1:Bool) (j3:List UInt8):Option ((List UInt8)):=
 (bif a1 then (if ([45]:List UInt8).length+j3.length<=9223372036854775807 then (some (([45]:List UInt8)++j3)) else none) else (some j3))
def z17.F (a0:List Int) (a1:Bool) (a2:Int):Option ((List UInt8)):=
 ((z5.F a0).bind λr1=>((z17.l0 a2 r1).bind λo2=>(bif (decide (a2>0)) then (if 0<=(wr .i64 ((o2.length:Int)-a2))/\(wr .i64 ((o2.length:Int)-a2))<=((o2).length:Int) then (if (o2.take ((wr .i64 ((o2.length:Int)-a2))).toNat).length+([46]:List UInt8).length<=9223372036854775807 then (if 0<=(wr .i64 ((o2.length:Int)-a2))/\(wr .i64 ((o2.length:Int)-a2))<=((o2).length:Int) then (if ((o2.take ((wr .i64 ((o2.length:Int)-a2))).toNat)++([46]:List UInt8)).length+(o2.drop ((wr .i64 ((o2.length:Int)-a2))).toNat).length<=9223372036854775807 then (z17.j3 a1 (((o2.take ((wr .i64 ((o2.length:Int)-a2))).toNat)++([46]:List UInt8))++(o2.drop ((wr .i64 ((o2.length:Int)-a2))).toNat))) else none) else none) else none) else none) else (z17.j3 a1 o2))))
def z17.enc (r:(List UInt8)):V:=(.str r)
def z17.pack:List V->Option Pack
 |[(.agg [(.ints _ .i64 a0),(.bool a1),(.int .i64 a2)])]=>some ⟨(List UInt8),z17.F a0 a1 a2,z17.enc⟩
 |_=>none
def z18.F (a0 a1 a2 a3 a4 a5 a6 a7 a8 a9 a10 a11 a12:Int):Option ((List UInt8)×(List UInt8)×Int×Int×Int×Int×Int×Int×Int×Int):=
 (if 0<=(Int.tmod (wr .i64 a8) 7)/\(Int.tmod (wr .i64 a8) 7)<([(1:Int),(1:Int),(2:Int),(3:Int),(4:Int),(6:Int),(12:Int)].length:Int) then (if a12=0 then none else ((z12.F a9 a10 a11 9000).bind λr1=>((z9.F (wr .i64 ((wr .i64 (Int.fdiv a0 (2^(min 2 (64:Nat)))))+1))).bind λr2=>(bif (decide (a1>60000)) then ((z9.F 100000000000).bind λr3=>((z9.F (wr .i64 ((wr .i64 (Int.fdiv a0 (2^(min 4 (64:Nat)))))+1))).bind λr4=>((z16.F r4.1 r4.2 r3.1 r3.2).bind λr5=>((z6.F r5.1 r5.2).bind λr6=>((z9.F (Int.tmod (wr .i64 a2) 100000)).bind λr7=>((z17.F r7.1 r7.2 (wr .i64 ((Int.tmod (wr .i64 a3) 7)+2))).bind λr8=>(some (r6,r8,(Int.tmod (wr .i64 a4) 3),(Int.tmod (wr .i64 a5) 3),(Int.tmod (wr .i64 a6) 5),r1.1,r1.2.1,r1.2.2,([(1:Int),(1:Int),(2:Int),(3:Int),(4:Int),(6:Int),(12:Int)].getD ((Int.tmod (wr .i64 a8) 7)).toNat 0),(wr .i64 ((1:Int)+(Int.tmod (wr .i64 a7) a12))))))))))) else ((z6.F r2.1 r2.2).bind λr9=>((z9.F (Int.tmod (wr .i64 a2) 100000)).bind λr10=>((z17.F r10.1 r10.2 (wr .i64 ((Int.tmod (wr .i64 a3) 7)+2))).bind λr11=>(some (r9,r11,(Int.tmod (wr .i64 a4) 3),(Int.tmod (wr .i64 a5) 3),(Int.tmod (wr .i64 a6) 5),r1.1,r1.2.1,r1.2.2,([(1:Int),(1:Int),(2:Int),(3:Int),(4:Int),(6:Int),(12:Int)].getD ((Int.tmod (wr .i64 a8) 7)).toNat 0),(wr .i64 ((1:Int)+(Int.tmod (wr .i64 a7) a12)))))))))))) else none)
def z18.enc (r:(List UInt8)×(List UInt8)×Int×Int×Int×Int×Int×Int×Int×Int):V:=(.agg [(.str r.1),(.str r.2.1),(.int .i64 r.2.2.1),(.int .i64 r.2.2.2.1),(.int .i64 r.2.2.2.2.1),(.int .i64 r.2.2.2.2.2.1),(.int .i64 r.2.2.2.2.2.2.1),(.int .i64 r.2.2.2.2.2.2.2.1),(.int .i64 r.2.2.2.2.2.2.2.2.1),(.int .i64 r.2.2.2.2.2.2.2.2.2)])
def z18.pack:List V->Option Pack
 |[(.agg [(.int .u64 a0),(.int .u16 a1),(.int .u32 a2),(.int .u8 a3),(.int .u8 a4),(.int .u8 a5),(.int .u8 a6),(.int .u8 a7),(.int .u8 a8),(.int .i64 a9),(.int .i64 a10),(.int .i64 a11)]),(.int .i64 a12)]=>some ⟨(List UInt8)×(List UInt8)×Int×Int×Int×Int×Int×Int×Int×Int,z18.F a0 a1 a2 a3 a4 a5 a6 a7 a8 a9 a10 a11 a12,z18.enc⟩
 |_=>none
def z77.F:Option ((List (List UInt8))):=
 (some [([97,110,110,117,105,116,121]:List UInt8),([108,105,110,101,97,114]:List UInt8),([98,117,108,108,101,116]:List UInt8)])
def z77.enc (r:(List (List UInt8))):V:=(.strs false r)
def z77.pack:List V->Option Pack
 |[]=>some ⟨(List (List UInt8)),z77.F,z77.enc⟩
 |_=>none
def z78.j1 (a0:Int):Option ((List UInt8)):=
 (z77.F.bind λr2=>(if 0<=a0/\a0<(r2.length:Int) then (some (r2.getD (a0).toNat [])) else none))
def z78.F (a0:Int):Option ((List UInt8)):=
 (bif (decide (a0<0)) then (some ([]:List UInt8)) else (bif (decide (a0>=3)) then (some ([]:List UInt8)) else (z78.j1 a0)))
def z78.enc (r:(List UInt8)):V:=(.str r)
def z78.pack:List V->Option Pack
 |[(.int .i64 a0)]=>some ⟨(List UInt8),z78.F a0,z78.enc⟩
 |_=>none
def z85.F (a0 a1:List UInt8) (a2 a3 a4 a5 a6 a7 a8 a9:Int):Option (Bool):=
 ((z78.F a2).bind λr1=>(bif (decide (r1=([]:List UInt8))) then (some true) else ((z84.F a3).bind λr2=>(bif (decide (r2=([]:List UInt8))) then (some true) else ((z81.F a4).bind λr3=>(bif (decide (r3=([]:List UInt8))) then (some true) else (bif (decide (a8<1)) then (some true) else (bif (decide (a8=5)) then (some true) else (if a8=0 then none else (some (!decide ((Int.tmod 12 a8)=0))))))))))))
def z85.enc (r:Bool):V:=(.bool r)
def z85.pack:List V->Option Pack
 |[(.agg [(.str a0),(.str a1),(.int .i64 a2),(.int .i64 a3),(.int .i64 a4),(.int .i64 a5),(.int .i64 a6),(.int .i64 a7),(.int .i64 a8),(.int .i64 a9)])]=>some ⟨Bool,z85.F a0 a1 a2 a3 a4 a5 a6 a7 a8 a9,z85.enc⟩
 |_=>none
def z90.j3 (a0 a1 a3 a2:Int):Option (Int×Int×Int×Int):=
 ((z88.F (wr .i64 (Int.tdiv (wr .i64 ((wr .i64 ((wr .i64 ((wr .i64 ((12:Int)*a0))+a1))-1))+a3)) 12)) (wr .i64 ((Int.tmod (wr .i64 ((wr .i64 ((wr .i64 ((wr .i64 ((12:Int)*a0))+a1))-1))+a3)) 12)+1))).bind λr4=>(some ((wr .i64 (Int.tdiv (wr .i64 ((wr .i64 ((wr .i64 ((wr .i64 ((12:Int)*a0))+a1))-1))+a3)) 12)),(wr .i64 ((Int.tmod (wr .i64 ((wr .i64 ((wr .i64 ((wr .i64 ((12:Int)*a0))+a1))-1))+a3)) 12)+1)),(if r4<a2 then r4 else a2),(0:Int))))
def z90.j2 (a0 a1 a3 a2:Int):Option (Int×Int×Int×Int):=
 (bif (decide ((wr .i64 ((wr .i64 ((wr .i64 ((wr .i64 ((12:Int)*a0))+a1))-1))+a3))<12)) then (some ((0:Int),(0:Int),(0:Int),(11:Int))) else (bif (decide ((wr .i64 (Int.tdiv (wr .i64 ((wr .i64 ((wr .i64 ((wr .i64 ((12:Int)*a0))+a1))-1))+a3)) 12))>9999)) then (some ((0:Int),(0:Int),(0:Int),(11:Int))) else (z90.j3 a0 a1 a3 a2)))
def z90.F (a0 a1 a2 a3:Int):Option (Int×Int×Int×Int):=
 ((z89.F a0 a1 a2).bind λr1=>(bif (!decide (r1=0)) then (some ((0:Int),(0:Int),(0:Int),r1)) else (bif (decide (a3<(-119988:Int))) then (some ((0:Int),(0:Int),(0:Int),(11:Int))) else (bif (decide (a3>119988)) then (some ((0:Int),(0:Int),(0:Int),(11:Int))) else (z90.j2 a0 a1 a3 a2)))))
def z90.enc (r:Int×Int×Int×Int):V:=(.tup [(.agg [(.int .i64 r.1),(.int .i64 r.2.1),(.int .i64 r.2.2.1)]),(.int .i64 r.2.2.2)])
def z90.pack:List V->Option Pack
 |[(.agg [(.int .i64 a0),(.int .i64 a1),(.int .i64 a2)]),(.int .i64 a3)]=>some ⟨Int×Int×Int×Int,z90.F a0 a1 a2 a3,z90.enc⟩
 |_=>none
def z91.F (a0 a1:List UInt8) (a2 a3 a4 a5 a6 a7 a8 a9:Int):Option (Int):=
 ((z46.F a0).bind λr1=>(bif (!decide (r1.2.2=0)) then (some r1.2.2) else ((z20.F r1.1 r1.2.1).bind λr2=>(bif (decide (r2=0)) then (some 19) else ((z76.F a1).bind λr3=>(bif (!decide (r3.2.2.2=0)) then (some r3.2.2.2) else ((z85.F a0 a1 a2 a3 a4 a5 a6 a7 a8 a9).bind λr4=>(bif r4 then (some 2) else (bif (decide (a9<1)) then (some 6) else (bif (decide (a9>1200)) then (some 6) else ((z90.F a5 a6 a7 (wr .i64 (a8*a9))).bind λr8=>(some r8.2.2.2))))))))))))
def z91.enc (r:Int):V:=(.int .i64 r)
def z91.pack:List V->Option Pack
 |[(.agg [(.str a0),(.str a1),(.int .i64 a2),(.int .i64 a3),(.int .i64 a4),(.int .i64 a5),(.int .i64 a6),(.int .i64 a7),(.int .i64 a8),(.int .i64 a9)])]=>some ⟨Int,z91.F a0 a1 a2 a3 a4 a5 a6 a7 a8 a9,z91.enc⟩
 |_=>none
def z92.l0P (a b c d e:Int) {R:Type} (rec:(Int×(List (List V)))->Option R) (done:((Int×(List (List V)))⊕((List (List V))×Int×(List (List V))))->Option R):(Int×(List (List V)))->Option R:=λx=>match x with
 |(g,h)=>(bif (decide (g<=b)) then ((z90.F c d e (wr .i64 (g*(if 119989<a then 119989 else a)))).bind λj=>(bif (!decide (j.2.2.2=0)) then (done (.inr ([],j.2.2.2,h))) else (if ((h).length+(([[(.int .i64 j.1),(.int .i64 j.2.1),(.int .i64 j.2.2.1)]]:List (List V))).length)*24<=140737488355328 then (rec ((wr .i64 (g+1)),(h++([[(.int .i64 j.1),(.int .i64 j.2.1),(.int .i64 j.2.2.1)]]:List (List V))))) else none))) else (done (.inl (g,h))))
def z92.l0 (a b c d e:Int) (x:(Int×(List (List V)))):Option (((Int×(List (List V)))⊕((List (List V))×Int×(List (List V))))):=lfp (λrec x=>z92.l0P a b c d e rec some x) x
def z92.j1 (a0 a1 a2 a3 a4:Int):Option ((List (List V))×Int):=
 ((z89.F a0 a1 a2).bind λr2=>(bif (!decide (r2=0)) then (some ([],r2)) else ((z92.l0 a3 a4 a0 a1 a2 ((1:Int),[])).bind λo3=>match o3 with | .inl p4=>(some (p4.2,(0:Int))) | .inr q5=>(some (q5.1,q5.2.1)))))
def z92.F (a0 a1 a2 a3 a4:Int):Option ((List (List V))×Int):=
 (bif (decide (a3<1)) then (some ([],(2:Int))) else (bif (decide (a4<0)) then (some ([],(2:Int))) else (bif (decide (a4>1200)) then (some ([],(2:Int))) else (z92.j1 a0 a1 a2 a3 a4))))
def z92.enc (r:(List (List V))×Int):V:=(.tup [(.recs false 3 r.1),(.int .i64 r.2)])
def z92.pack:List V->Option Pack
 |[(.agg [(.int .i64 a0),(.int .i64 a1),(.int .i64 a2)]),(.int .i64 a3),(.int .i64 a4)]=>some ⟨(List (List V))×Int,z92.F a0 a1 a2 a3 a4,z92.enc⟩
 |_=>none
def z93.F (a0 a1:List UInt8) (a2 a3 a4 a5 a6 a7 a8 a9:Int):Option ((List (List V))×Int):=
 ((z91.F a0 a1 a2 a3 a4 a5 a6 a7 a8 a9).bind λr1=>(bif (!decide (r1=0)) then (some ([],r1)) else ((z92.F a5 a6 a7 a8 a9).bind λr2=>(some (r2.1,r2.2)))))
def z93.enc (r:(List (List V))×Int):V:=(.tup [(.recs false 3 r.1),(.int .i64 r.2)])
def z93.pack:List V->Option Pack
 |[(.agg [(.str a0),(.str a1),(.int .i64 a2),(.int .i64 a3),(.int .i64 a4),(.int .i64 a5),(.int .i64 a6),(.int .i64 a7),(.int .i64 a8),(.int .i64 a9)])]=>some ⟨(List (List V))×Int,z93.F a0 a1 a2 a3 a4 a5 a6 a7 a8 a9,z93.enc⟩
 |_=>none
def z94.l0P (a:List (List V)) (b:Int) {R:Type} (rec done:(Int×(List (List V))×Int×Int×Int)->Option R):(Int×(List (List V))×Int×Int×Int)->Option R:=λx=>match x with
 |(c,d,e,g,h)=>(bif (decide (c<b)) then (if 0<=c/\c<(a.length:Int) then (V.asInt .i64 (((a.getD (c).toNat [])).getD 0 .undef) λj=>(V.asInt .i64 (((a.getD (c).toNat [])).getD 1 .undef) λk=>(V.asInt .i64 (((a.getD (c).toNat [])).getD 2 .undef) λm=>(if ((d).length+(([[(.int .i64 e),(.int .i64 g),(.int .i64 h),(.int .i64 j),(.int .i64 k),(.int .i64 m)]]:List (List V))).length)*48<=140737488355328 then (rec ((wr .i64 (c+1)),(d++([[(.int .i64 e),(.int .i64 g),(.int .i64 h),(.int .i64 j),(.int .i64 k),(.int .i64 m)]]:List (List V))),j,k,m)) else none)))) else none) else (done (c,d,e,g,h)))
def z94.l0 (a:List (List V)) (b:Int) (x:(Int×(List (List V))×Int×Int×Int)):Option ((Int×(List (List V))×Int×Int×Int)):=lfp (λrec x=>z94.l0P a b rec some x) x
def z94.F (a0 a1:List UInt8) (a2 a3 a4 a5 a6 a7 a8 a9:Int):Option ((List (List V))×Int):=
 ((z93.F a0 a1 a2 a3 a4 a5 a6 a7 a8 a9).bind λr1=>(bif (!decide (r1.2=0)) then (some ([],r1.2)) else ((z94.l0 r1.1 (((r1.1).length:Nat):Int) ((0:Int),[],a5,a6,a7)).bind λo2=>(some (o2.2.1,(0:Int))))))
def z94.enc (r:(List (List V))×Int):V:=(.tup [(.recs false 6 r.1),(.int .i64 r.2)])
def z94.pack:List V->Option Pack
 |[(.agg [(.str a0),(.str a1),(.int .i64 a2),(.int .i64 a3),(.int .i64 a4),(.int .i64 a5),(.int .i64 a6),(.int .i64 a7),(.int .i64 a8),(.int .i64 a9)])]=>some ⟨(List (List V))×Int,z94.F a0 a1 a2 a3 a4 a5 a6 a7 a8 a9,z94.enc⟩
 |_=>none
def z95.enc (r:Int):V:=(.int .i64 r)
def z95.pack:List V->Option Pack
 |[(.ints _ .i64 a0)]=>some ⟨Int,z95.F a0,z95.enc⟩
 |_=>none
def z96.enc (r:Int):V:=(.int .i64 r)
def z96.pack:List V->Option Pack
 |[(.agg [(.int .i64 a0),(.int .i64 a1),(.int .i64 a2)]),(.agg [(.int .i64 a3),(.int .i64 a4),(.int .i64 a5)])]=>some ⟨Int,z96.F a0 a1 a2 a3 a4 a5,z96.enc⟩
 |_=>none
def z97.enc (r:Int):V:=(.int .i64 r)
def z97.pack:List V->Option Pack
 |[(.int .i64 a0)]=>some ⟨Int,z97.F a0,z97.enc⟩
 |_=>none
def z98.enc (r:Int×Int):V:=(.tup [(.int .i64 r.1),(.int .i64 r.2)])
def z98.pack:List V->Option Pack
 |[(.agg [(.int .i64 a0),(.int .i64 a1),(.int .i64 a2)])]=>some ⟨Int×Int,z98.F a0 a1 a2,z98.enc⟩
 |_=>none
def z147.F (a0:List Int) (a1:Bool) (a2:List Int):Option (Int):=
 ((z20.F a0 a1).bind λr1=>(some r1))
def z147.enc (r:Int):V:=(.int .i64 r)
def z147.pack:List V->Option Pack
 |[(.agg [(.ints _ .u64 a0),(.bool a1),(.ints _ .u64 a2)])]=>some ⟨Int,z147.F a0 a1 a2,z147.enc⟩
 |_=>none
def z148.F (a0:List Int) (a1:Bool) (a2:List Int):Option ((List Int)×Bool):=
 (some (a0,a1))
def z148.enc (r:(List Int)×Bool):V:=(.agg [(.ints false .u64 r.1),(.bool r.2)])
def z148.pack:List V->Option Pack
 |[(.agg [(.ints _ .u64 a0),(.bool a1),(.ints _ .u64 a2)])]=>some ⟨(List Int)×Bool,z148.F a0 a1 a2,z148.enc⟩
 |_=>none
def z149.F (a0:Int) (a1 a2 a3:List Int):Option (Bool):=
 ((z24.F a2 a2).bind λr1=>((z29.F r1 a3).bind λr2=>(bif (decide (a0=1)) then (some true) else (bif (decide (a0=2)) then (some (decide (r2>=0))) else (bif (decide (a0=3)) then (some (decide (r2>0))) else (bif (decide (a0=4)) then ((z60.F a1).bind λr3=>(bif (decide ((((r3).length:Nat):Int)>0)) then ((z60.F a1).bind λr4=>(if (0:Int)<=(0:Int)/\(0:Int)<(r4.length:Int) then (bif (decide (r2>0)) then (some true) else (bif (decide (r2=0)) then (some (decide ((wr .u64 ((BitVec.ofInt (IntKind.bits .u64) (r4.getD 0 0) &&& BitVec.ofInt (IntKind.bits .u64) 1).toNat:Int))=1))) else (some false))) else none)) else (bif (decide (r2>0)) then (some true) else (bif (decide (r2=0)) then (some false) else (some false))))) else (some false)))))))
def z149.enc (r:Bool):V:=(.bool r)
def z149.pack:List V->Option Pack
 |[(.int .i64 a0),(.agg [(.ints _ .u64 a1)]),(.agg [(.ints _ .u64 a2)]),(.agg [(.ints _ .u64 a3)])]=>some ⟨Bool,z149.F a0 a1 a2 a3,z149.enc⟩
 |_=>none
def z150.j14 (a0:List Int) (a1:Bool) (a2 j14:List Int):Option ((List Int)×Bool×Int):=
 ((z147.F a0 a1 a2).bind λr15=>((z21.F j14 (decide (r15<0))).bind λr16=>(some (r16.1,r16.2,(0:Int)))))
def z150.F (a0:List Int) (a1:Bool) (a2:List Int) (a3:Int):Option ((List Int)×Bool×Int):=
 ((z79.F a3).bind λr1=>(bif (!r1) then (some ([],false,(2:Int))) else ((z148.F a0 a1 a2).bind λr2=>((z59.F r2.1 r2.2).bind λr3=>((z73.F a0 a1 a2).bind λr4=>((z68.F r3 r4).bind λr5=>((z19.F r5.2.1).bind λr6=>(bif (!r6) then ((z73.F a0 a1 a2).bind λr7=>((z149.F a3 r5.1 r5.2.1 r7).bind λr8=>(bif r8 then ((z38.F [(1:Int)]).bind λr12=>((z24.F r5.1 r12).bind λr13=>(z150.j14 a0 a1 a2 r13))) else (z150.j14 a0 a1 a2 r5.1)))) else (z150.j14 a0 a1 a2 r5.1)))))))))
def z150.enc (r:(List Int)×Bool×Int):V:=(.tup [(.agg [(.ints false .u64 r.1),(.bool r.2.1)]),(.int .i64 r.2.2)])
def z150.pack:List V->Option Pack
 |[(.agg [(.ints _ .u64 a0),(.bool a1),(.ints _ .u64 a2)]),(.int .i64 a3)]=>some ⟨(List Int)×Bool×Int,z150.F a0 a1 a2 a3,z150.enc⟩
 |_=>none
def z151.enc (r:(List Int)×Bool×(List Int)):V:=(.agg [(.ints false .u64 r.1),(.bool r.2.1),(.ints false .u64 r.2.2)])
def z151.pack:List V->Option Pack
 |[(.agg [(.ints _ .u64 a0),(.bool a1),(.ints _ .u64 a2)]),(.agg [(.ints _ .u64 a3),(.bool a4),(.ints _ .u64 a5)])]=>some ⟨(List Int)×Bool×(List Int),z151.F a0 a1 a2 a3 a4 a5,z151.enc⟩
 |_=>none
def z152.enc (r:(List Int)×Bool×(List Int)):V:=(.agg [(.ints false .u64 r.1),(.bool r.2.1),(.ints false .u64 r.2.2)])
def z152.pack:List V->Option Pack
 |[(.agg [(.ints _ .u64 a0),(.bool a1),(.ints _ .u64 a2)]),(.agg [(.ints _ .u64 a3),(.bool a4),(.ints _ .u64 a5)])]=>some ⟨(List Int)×Bool×(List Int),z152.F a0 a1 a2 a3 a4 a5,z152.enc⟩
 |_=>none
def z153.enc (r:(List Int)×Bool×(List Int)):V:=(.agg [(.ints false .u64 r.1),(.bool r.2.1),(.ints false .u64 r.2.2)])
def z153.pack:List V->Option Pack
 |[(.int .i64 a0),(.int .i64 a1)]=>some ⟨(List Int)×Bool×(List Int),z153.F a0 a1,z153.enc⟩
 |_=>none
def z154.enc (r:(List Int)×Bool×(List Int)):V:=(.agg [(.ints false .u64 r.1),(.bool r.2.1),(.ints false .u64 r.2.2)])
def z154.pack:List V->Option Pack
 |[(.agg [(.int .i64 a0),(.int .i64 a1),(.int .i64 a2)]),(.agg [(.int .i64 a3),(.int .i64 a4),(.int .i64 a5)])]=>some ⟨(List Int)×Bool×(List Int),z154.F a0 a1 a2 a3 a4 a5,z154.enc⟩
 |_=>none
def z155.enc (r:Int×Int):V:=(.tup [(.int .i64 r.1),(.int .i64 r.2)])
def z155.pack:List V->Option Pack
 |[(.agg [(.int .i64 a0),(.int .i64 a1),(.int .i64 a2)]),(.agg [(.int .i64 a3),(.int .i64 a4),(.int .i64 a5)])]=>some ⟨Int×Int,z155.F a0 a1 a2 a3 a4 a5,z155.enc⟩
 |_=>none
def z156.enc (r:Int):V:=(.int .i64 r)
def z156.pack:List V->Option Pack
 |[(.agg [(.int .i64 a0),(.int .i64 a1),(.int .i64 a2)]),(.agg [(.int .i64 a3),(.int .i64 a4),(.int .i64 a5)])]=>some ⟨Int,z156.F a0 a1 a2 a3 a4 a5,z156.enc⟩
 |_=>none
def z157.enc (r:Int):V:=(.int .i64 r)
def z157.pack:List V->Option Pack
 |[(.int .i64 a0)]=>some ⟨Int,z157.F a0,z157.enc⟩
 |_=>none
def z158.enc (r:(List Int)×Bool×(List Int)):V:=(.agg [(.ints false .u64 r.1),(.bool r.2.1),(.ints false .u64 r.2.2)])
def z158.pack:List V->Option Pack
 |[(.agg [(.int .i64 a0),(.int .i64 a1),(.int .i64 a2)]),(.agg [(.int .i64 a3),(.int .i64 a4),(.int .i64 a5)])]=>some ⟨(List Int)×Bool×(List Int),z158.F a0 a1 a2 a3 a4 a5,z158.enc⟩
 |_=>none
def z159.enc (r:(List Int)×Bool×(List Int)×Int):V:=(.tup [(.agg [(.ints false .u64 r.1),(.bool r.2.1),(.ints false .u64 r.2.2.1)]),(.int .i64 r.2.2.2)])
def z159.pack:List V->Option Pack
 |[(.int .i64 a0),(.agg [(.int .i64 a1),(.int .i64 a2),(.int .i64 a3)]),(.agg [(.int .i64 a4),(.int .i64 a5),(.int .i64 a6)])]=>some ⟨(List Int)×Bool×(List Int)×Int,z159.F a0 a1 a2 a3 a4 a5 a6,z159.enc⟩
 |_=>none
def z175.F (a0:List Int) (a1:Bool) (a2 a3:List Int) (a4:Bool) (a5:List Int):Option (Int):=
 ((z74.F a3 a4 a5).bind λr1=>((z54.F a0 a1 r1.1 r1.2).bind λr2=>((z74.F a0 a1 a2).bind λr3=>((z54.F a3 a4 r3.1 r3.2).bind λr4=>((z34.F r2.1 r2.2 r4.1 r4.2).bind λr5=>(some r5))))))
def z175.enc (r:Int):V:=(.int .i64 r)
def z175.pack:List V->Option Pack
 |[(.agg [(.ints _ .u64 a0),(.bool a1),(.ints _ .u64 a2)]),(.agg [(.ints _ .u64 a3),(.bool a4),(.ints _ .u64 a5)])]=>some ⟨Int,z175.F a0 a1 a2 a3 a4 a5,z175.enc⟩
 |_=>none
def z185.F (a0:List Int) (a1:Bool) (a2 a3:List UInt8) (a4 a5 a6 a7 a8 a9 a10 a11 a12 a13 a14 a15 a16 a17:Int):Option ((List Int)×Bool×Int):=
 ((z91.F a2 a3 a4 a5 a6 a7 a8 a9 a10 a11).bind λr1=>(bif (!decide (r1=0)) then (some ([],false,r1)) else ((z159.F a5 a12 a13 a14 a15 a16 a17).bind λr2=>(bif (!decide (r2.2.2.2=0)) then (some ([],false,r2.2.2.2)) else ((z76.F a3).bind λr3=>((z47.F a0 a1).bind λr4=>((z152.F r4.1 r4.2.1 r4.2.2 r3.1 r3.2.1 r3.2.2.1).bind λr5=>((z152.F r5.1 r5.2.1 r5.2.2 r2.1 r2.2.1 r2.2.2.1).bind λr6=>((z150.F r6.1 r6.2.1 r6.2.2 a6).bind λr7=>(some (r7.1,r7.2.1,r7.2.2)))))))))))
def z185.enc (r:(List Int)×Bool×Int):V:=(.tup [(.agg [(.ints false .u64 r.1),(.bool r.2.1)]),(.int .i64 r.2.2)])
def z185.pack:List V->Option Pack
 |[(.agg [(.ints _ .u64 a0),(.bool a1)]),(.agg [(.str a2),(.str a3),(.int .i64 a4),(.int .i64 a5),(.int .i64 a6),(.int .i64 a7),(.int .i64 a8),(.int .i64 a9),(.int .i64 a10),(.int .i64 a11)]),(.agg [(.int .i64 a12),(.int .i64 a13),(.int .i64 a14)]),(.agg [(.int .i64 a15),(.int .i64 a16),(.int .i64 a17)])]=>some ⟨(List Int)×Bool×Int,z185.F a0 a1 a2 a3 a4 a5 a6 a7 a8 a9 a10 a11 a12 a13 a14 a15 a16 a17,z185.enc⟩
 |_=>none
def z187.l0P (a:List (List V)) (b:Int) {R:Type} (rec:(Int×(List Int)×Bool×(List Int)×Bool)->Option R) (done:((Int×(List Int)×Bool×(List Int)×Bool)⊕(Int×(List Int)×Bool×(List Int)×Bool×(List Int)×Bool×(List Int)×Bool))->Option R):(Int×(List Int)×Bool×(List Int)×Bool)->Option R:=λx=>match x with
 |(c,d,e,g,h)=>(bif (decide (c<b)) then (if 0<=c/\c<(a.length:Int) then (V.asInt .i64 (((a.getD (c).toNat [])).getD 0 .undef) λj=>(V.asInt .i64 (((a.getD (c).toNat [])).getD 1 .undef) λk=>(V.asInt .i64 (((a.getD (c).toNat [])).getD 2 .undef) λm=>(V.asStr (((a.getD (c).toNat [])).getD 3 .undef) λn=>(V.asStr (((a.getD (c).toNat [])).getD 4 .undef) λo=>(V.asStr (((a.getD (c).toNat [])).getD 5 .undef) λp=>(V.asStr (((a.getD (c).toNat [])).getD 6 .undef) λq=>(V.asStr (((a.getD (c).toNat [])).getD 7 .undef) λr=>((z46.F o).bind λs=>(bif (!decide (s.2.2=0)) then (done (.inr (s.2.2,[],false,[],false,d,e,g,h))) else ((z46.F p).bind λt=>(bif (!decide (t.2.2=0)) then (done (.inr (t.2.2,[],false,[],false,d,e,g,h))) else ((z31.F d e s.1 s.2.1).bind λu=>((z31.F g h t.1 t.2.1).bind λv=>(rec ((wr .i64 (c+1)),u.1,u.2,v.1,v.2)))))))))))))))) else none) else (done (.inl (c,d,e,g,h))))
def z187.l0 (a:List (List V)) (b:Int) (x:(Int×(List Int)×Bool×(List Int)×Bool)):Option (((Int×(List Int)×Bool×(List Int)×Bool)⊕(Int×(List Int)×Bool×(List Int)×Bool×(List Int)×Bool×(List Int)×Bool))):=lfp (λrec x=>z187.l0P a b rec some x) x
def z187.F (a0:List (List V)):Option ((List Int)×Bool×(List Int)×Bool×Int):=
 ((z187.l0 a0 (((a0).length:Nat):Int) ((0:Int),[],false,[],false)).bind λo1=>match o1 with | .inl p2=>(some (p2.2.1,p2.2.2.1,p2.2.2.2.1,p2.2.2.2.2,(0:Int))) | .inr q3=>(some (q3.2.1,q3.2.2.1,q3.2.2.2.1,q3.2.2.2.2.1,q3.1)))
def z187.enc (r:(List Int)×Bool×(List Int)×Bool×Int):V:=(.tup [(.agg [(.ints false .u64 r.1),(.bool r.2.1)]),(.agg [(.ints false .u64 r.2.2.1),(.bool r.2.2.2.1)]),(.int .i64 r.2.2.2.2)])
def z187.pack:List V->Option Pack
 |[(.recs _ 8 a0)]=>some ⟨(List Int)×Bool×(List Int)×Bool×Int,z187.F a0,z187.enc⟩
 |_=>none
def z188.j2 (a1:Int) (r1:(List Int)×Bool×(List Int)×Int):Option ((List Int)×Bool×(List Int)×Int):=
 ((z48.F a1).bind λr3=>((z48.F 12).bind λr4=>((z71.F r3.1 r3.2 r4.1 r4.2).bind λr5=>((z152.F r1.1 r1.2.1 r1.2.2.1 r5.1 r5.2.1 r5.2.2.1).bind λr6=>(some (r6.1,r6.2.1,r6.2.2,(0:Int)))))))
def z188.F (a0:List UInt8) (a1:Int):Option ((List Int)×Bool×(List Int)×Int):=
 ((z76.F a0).bind λr1=>(bif (!decide (r1.2.2.2=0)) then (some ([],false,[],r1.2.2.2)) else (bif (decide (a1<1)) then (some ([],false,[],(2:Int))) else (bif (decide (a1>12)) then (some ([],false,[],(2:Int))) else (z188.j2 a1 r1)))))
def z188.enc (r:(List Int)×Bool×(List Int)×Int):V:=(.tup [(.agg [(.ints false .u64 r.1),(.bool r.2.1),(.ints false .u64 r.2.2.1)]),(.int .i64 r.2.2.2)])
def z188.pack:List V->Option Pack
 |[(.str a0),(.int .i64 a1)]=>some ⟨(List Int)×Bool×(List Int)×Int,z188.F a0 a1,z188.enc⟩
 |_=>none
def z189.F (a0:List Int):Option (Int):=
 ((z19.F a0).bind λr1=>(bif r1 then (some 0) else (if 0<=(wr .i64 ((((a0).length:Nat):Int)-1))/\(wr .i64 ((((a0).length:Nat):Int)-1))<(a0.length:Int) then ((z61.F (a0.getD ((wr .i64 ((((a0).length:Nat):Int)-1))).toNat 0)).bind λr2=>(some (wr .i64 ((wr .i64 ((64:Int)*(wr .i64 ((((a0).length:Nat):Int)-1))))+r2)))) else none)))
def z189.enc (r:Int):V:=(.int .i64 r)
def z189.pack:List V->Option Pack
 |[(.agg [(.ints _ .u64 a0)])]=>some ⟨Int,z189.F a0,z189.enc⟩
 |_=>none
def z190.F (a0:List Int) (a1:Int):Option ((List Int)×Int):=
 (bif (decide (a1<0)) then (some ([],(2:Int))) else (bif (decide (a1>1200)) then (some ([],(6:Int))) else ((z189.F a0).bind λr1=>(bif (decide ((wr .i64 (r1*a1))>262144)) then (some ([],(6:Int))) else ((z43.F a0 a1).bind λr5=>(some (r5,(0:Int))))))))
def z190.enc (r:(List Int)×Int):V:=(.tup [(.agg [(.ints false .u64 r.1)]),(.int .i64 r.2)])
def z190.pack:List V->Option Pack
 |[(.agg [(.ints _ .u64 a0)]),(.int .i64 a1)]=>some ⟨(List Int)×Int,z190.F a0 a1,z190.enc⟩
 |_=>none
def z191.F (a0:List Int):Option ((List Int)×Bool):=
 ((z21.F a0 false).bind λr1=>(some (r1.1,r1.2)))
def z191.enc (r:(List Int)×Bool):V:=(.agg [(.ints false .u64 r.1),(.bool r.2)])
def z191.pack:List V->Option Pack
 |[(.agg [(.ints _ .u64 a0)])]=>some ⟨(List Int)×Bool,z191.F a0,z191.enc⟩
 |_=>none
def z192.j13 (r11 r12:(List Int)×Int) (a0:List Int) (a1:Bool) (a2 a3:List Int) (a4:Bool) (a5:List Int) (r7:(List Int)):Option ((List Int)×Bool×(List Int)×Int):=
 ((z30.F r11.1 r12.1).bind λr14=>((z148.F a0 a1 a2).bind λr15=>((z148.F a3 a4 a5).bind λr16=>((z54.F r15.1 r15.2 r16.1 r16.2).bind λr17=>((z191.F r11.1).bind λr18=>((z54.F r17.1 r17.2 r18.1 r18.2).bind λr19=>((z73.F a0 a1 a2).bind λr20=>((z40.F r20 r7).bind λr21=>((z40.F r21 r14.1).bind λr22=>((z191.F r22).bind λr23=>((z71.F r19.1 r19.2 r23.1 r23.2).bind λr24=>(some (r24.1,r24.2.1,r24.2.2.1,r24.2.2.2)))))))))))))
def z192.j1 (j1:Bool) (a3:List Int) (a4:Bool) (a5:List Int) (a6:Int) (a0:List Int) (a1:Bool) (a2:List Int):Option ((List Int)×Bool×(List Int)×Int):=
 (bif j1 then (some ([],false,[],(2:Int))) else ((z147.F a3 a4 a5).bind λr2=>(bif (decide (r2<0)) then (some ([],false,[],(18:Int))) else ((z147.F a3 a4 a5).bind λr3=>(bif (decide (r3=0)) then ((z48.F a6).bind λr4=>((z47.F r4.1 r4.2).bind λr5=>((z75.F a0 a1 a2 r5.1 r5.2.1 r5.2.2).bind λr6=>(some (r6.1,r6.2.1,r6.2.2.1,r6.2.2.2))))) else ((z73.F a3 a4 a5).bind λr7=>((z148.F a3 a4 a5).bind λr8=>((z59.F r8.1 r8.2).bind λr9=>((z24.F r9 r7).bind λr10=>((z190.F r10 a6).bind λr11=>((z190.F r7 a6).bind λr12=>(bif (!decide (r11.2=0)) then (some ([],false,[],(6:Int))) else (bif (!decide (r12.2=0)) then (some ([],false,[],(6:Int))) else (z192.j13 r11 r12 a0 a1 a2 a3 a4 a5 r7))))))))))))))
def z192.F (a0:List Int) (a1:Bool) (a2 a3:List Int) (a4:Bool) (a5:List Int) (a6:Int):Option ((List Int)×Bool×(List Int)×Int):=
 (bif (decide (a6<1)) then (z192.j1 true a3 a4 a5 a6 a0 a1 a2) else (z192.j1 (decide (a6>1200)) a3 a4 a5 a6 a0 a1 a2))
def z192.enc (r:(List Int)×Bool×(List Int)×Int):V:=(.tup [(.agg [(.ints false .u64 r.1),(.bool r.2.1),(.ints false .u64 r.2.2.1)]),(.int .i64 r.2.2.2)])
def z192.pack:List V->Option Pack
 |[(.agg [(.ints _ .u64 a0),(.bool a1),(.ints _ .u64 a2)]),(.agg [(.ints _ .u64 a3),(.bool a4),(.ints _ .u64 a5)]),(.int .i64 a6)]=>some ⟨(List Int)×Bool×(List Int)×Int,z192.F a0 a1 a2 a3 a4 a5 a6,z192.enc⟩
 |_=>none
def z193.F (a0:List Int) (a1:Bool) (a2:List UInt8) (a3 a4 a5:Int):Option ((List Int)×Bool×Int):=
 ((z188.F a2 a3).bind λr1=>(bif (!decide (r1.2.2.2=0)) then (some ([],false,r1.2.2.2)) else ((z20.F a0 a1).bind λr2=>(bif (decide (r2<0)) then (some ([],false,(19:Int))) else ((z47.F a0 a1).bind λr3=>((z192.F r3.1 r3.2.1 r3.2.2 r1.1 r1.2.1 r1.2.2.1 a4).bind λr4=>(bif (!decide (r4.2.2.2=0)) then (some ([],false,r4.2.2.2)) else ((z150.F r4.1 r4.2.1 r4.2.2.1 a5).bind λr5=>(some (r5.1,r5.2.1,r5.2.2))))))))))
def z193.enc (r:(List Int)×Bool×Int):V:=(.tup [(.agg [(.ints false .u64 r.1),(.bool r.2.1)]),(.int .i64 r.2.2)])
def z193.pack:List V->Option Pack
 |[(.agg [(.ints _ .u64 a0),(.bool a1)]),(.str a2),(.int .i64 a3),(.int .i64 a4),(.int .i64 a5)]=>some ⟨(List Int)×Bool×Int,z193.F a0 a1 a2 a3 a4 a5,z193.enc⟩
 |_=>none
def z194.j2 (a2:Int) (a0:List Int) (a1:Bool) (a3:Int):Option ((List Int)×Bool×Int):=
 ((z48.F a2).bind λr3=>((z71.F a0 a1 r3.1 r3.2).bind λr4=>((z150.F r4.1 r4.2.1 r4.2.2.1 a3).bind λr5=>(some (r5.1,r5.2.1,r5.2.2)))))
def z194.F (a0:List Int) (a1:Bool) (a2 a3:Int):Option ((List Int)×Bool×Int):=
 ((z20.F a0 a1).bind λr1=>(bif (decide (r1<0)) then (some ([],false,(19:Int))) else (bif (decide (a2<1)) then (some ([],false,(2:Int))) else (bif (decide (a2>1200)) then (some ([],false,(2:Int))) else (z194.j2 a2 a0 a1 a3)))))
def z194.enc (r:(List Int)×Bool×Int):V:=(.tup [(.agg [(.ints false .u64 r.1),(.bool r.2.1)]),(.int .i64 r.2.2)])
def z194.pack:List V->Option Pack
 |[(.agg [(.ints _ .u64 a0),(.bool a1)]),(.int .i64 a2),(.int .i64 a3)]=>some ⟨(List Int)×Bool×Int,z194.F a0 a1 a2 a3,z194.enc⟩
 |_=>none
def z195.F (a0 a1:List UInt8) (a2 a3 a4 a5 a6 a7 a8 a9:Int):Option ((List Int)×Bool×Int):=
 ((z46.F a0).bind λr1=>(bif (decide (a2=0)) then ((z193.F r1.1 r1.2.1 a1 a8 a9 a4).bind λr2=>(some (r2.1,r2.2.1,r2.2.2))) else (bif (decide (a2=1)) then ((z194.F r1.1 r1.2.1 a9 a4).bind λr3=>(some (r3.1,r3.2.1,r3.2.2))) else (some ([],false,(0:Int))))))
def z195.enc (r:(List Int)×Bool×Int):V:=(.tup [(.agg [(.ints false .u64 r.1),(.bool r.2.1)]),(.int .i64 r.2.2)])
def z195.pack:List V->Option Pack
 |[(.agg [(.str a0),(.str a1),(.int .i64 a2),(.int .i64 a3),(.int .i64 a4),(.int .i64 a5),(.int .i64 a6),(.int .i64 a7),(.int .i64 a8),(.int .i64 a9)])]=>some ⟨(List Int)×Bool×Int,z195.F a0 a1 a2 a3 a4 a5 a6 a7 a8 a9,z195.enc⟩
 |_=>none
def z196.F (a0:List Int) (a1:Bool) (a2:List Int) (a3:Bool):Option ((List Int)×Bool):=
 ((z34.F a0 a1 a2 a3).bind λr1=>(bif (decide (r1<0)) then (some (a0,a1)) else (some (a2,a3))))
def z196.enc (r:(List Int)×Bool):V:=(.agg [(.ints false .u64 r.1),(.bool r.2)])
def z196.pack:List V->Option Pack
 |[(.agg [(.ints _ .u64 a0),(.bool a1)]),(.agg [(.ints _ .u64 a2),(.bool a3)])]=>some ⟨(List Int)×Bool,z196.F a0 a1 a2 a3,z196.enc⟩
 |_=>none
def z197.F (a0:Int) (a1:List Int) (a2:Bool) (a3:List Int) (a4:Bool) (a5:List Int) (a6:Bool):Option ((List Int)×Bool):=
 (bif (decide (a0=0)) then ((z33.F a1 a2 a5 a6).bind λr1=>((z20.F r1.1 r1.2).bind λr2=>(bif (decide (r2<0)) then (some ([],false)) else ((z196.F r1.1 r1.2 a3 a4).bind λr6=>(some (r6.1,r6.2)))))) else ((z196.F a1 a2 a3 a4).bind λr7=>(some (r7.1,r7.2))))
def z197.enc (r:(List Int)×Bool):V:=(.agg [(.ints false .u64 r.1),(.bool r.2)])
def z197.pack:List V->Option Pack
 |[(.int .i64 a0),(.agg [(.ints _ .u64 a1),(.bool a2)]),(.agg [(.ints _ .u64 a3),(.bool a4)]),(.agg [(.ints _ .u64 a5),(.bool a6)])]=>some ⟨(List Int)×Bool,z197.F a0 a1 a2 a3 a4 a5 a6,z197.enc⟩
 |_=>none
def z198.j1031a {R:Type} (rec:(Int×(List Int)×Bool×(List (List V)))->Option R) (done:((Int×(List Int)×Bool×(List (List V)))⊕((List (List V))×Int×(List Int)×Bool×(List (List V))))->Option R) (a:List Int) (b:Bool) (c:List Int) (d:Bool) (e:(List Int)×Bool×Int) (g:List (List V)) (h j k m:Int):Option R:=
 ((z33.F a b c d).bind λn=>((z135.F a b).bind λo=>((z135.F e.1 e.2.1).bind λp=>((z135.F c d).bind λq=>((z31.F e.1 e.2.1 c d).bind λr=>((z135.F r.1 r.2).bind λs=>((z135.F n.1 n.2).bind λt=>(if ((g).length+(([[(.int .i64 h),(.int .i64 j),(.int .i64 k),(.str o),(.str p),(.str q),(.str s),(.str t)]]:List (List V))).length)*104<=140737488355328 then (rec ((wr .i64 (m+1)),n.1,n.2,(g++([[(.int .i64 h),(.int .i64 j),(.int .i64 k),(.str o),(.str p),(.str q),(.str s),(.str t)]]:List (List V))))) else none))))))))
def z198.l0P (a b:List (List V)) (c:Int) (d e:List UInt8) (g h j k m n o p:Int) (q:List Int) (r:Bool) {R:Type} (rec:(Int×(List Int)×Bool×(List (List V)))->Option R) (done:((Int×(List Int)×Bool×(List (List V)))⊕((List (List V))×Int×(List Int)×Bool×(List (List V))))->Option R):(Int×(List Int)×Bool×(List (List V)))->Option R:=λx=>match x with
 |(s,t,u,v)=>(bif (decide (s<c)) then (if 0<=s/\s<(b.length:Int) then (V.asInt .i64 (((b.getD (s).toNat [])).getD 0 .undef) λw=>(V.asInt .i64 (((b.getD (s).toNat [])).getD 1 .undef) λy=>(V.asInt .i64 (((b.getD (s).toNat [])).getD 2 .undef) λz=>(V.asInt .i64 (((b.getD (s).toNat [])).getD 3 .undef) λA=>(V.asInt .i64 (((b.getD (s).toNat [])).getD 4 .undef) λB=>(V.asInt .i64 (((b.getD (s).toNat [])).getD 5 .undef) λC=>((z185.F t u d e g h j k m n o p w y z A B C).bind λD=>(bif (!decide (D.2.2=0)) then (done (.inr ([],D.2.2,t,u,v))) else ((z197.F g q r t u D.1 D.2.1).bind λE=>(bif (decide (s=(wr .i64 ((((a).length:Nat):Int)-1)))) then (z198.j1031a rec done t u t u D v A B C s) else (z198.j1031a rec done t u E.1 E.2 D v A B C s))))))))))) else none) else (done (.inl (s,t,u,v))))
def z198.l0 (a b:List (List V)) (c:Int) (d e:List UInt8) (g h j k m n o p:Int) (q:List Int) (r:Bool) (x:(Int×(List Int)×Bool×(List (List V)))):Option (((Int×(List Int)×Bool×(List (List V)))⊕((List (List V))×Int×(List Int)×Bool×(List (List V))))):=lfp (λrec x=>z198.l0P a b c d e g h j k m n o p q r rec some x) x
def z198.F (a0 a1:List UInt8) (a2 a3 a4 a5 a6 a7 a8 a9:Int):Option ((List (List V))×Int):=
 ((z94.F a0 a1 a2 a3 a4 a5 a6 a7 a8 a9).bind λr1=>(bif (!decide (r1.2=0)) then (some ([],r1.2)) else ((z195.F a0 a1 a2 a3 a4 a5 a6 a7 a8 a9).bind λr2=>(bif (!decide (r2.2.2=0)) then (some ([],r2.2.2)) else ((z46.F a0).bind λr3=>((z198.l0 r1.1 r1.1 (((r1.1).length:Nat):Int) a0 a1 a2 a3 a4 a5 a6 a7 a8 a9 r2.1 r2.2.1 ((0:Int),r3.1,r3.2.1,[])).bind λo4=>match o4 with | .inl p5=>(some (p5.2.2.2,(0:Int))) | .inr q6=>(some (q6.1,q6.2.1))))))))
def z198.enc (r:(List (List V))×Int):V:=(.tup [(.recs false 8 r.1),(.int .i64 r.2)])
def z198.pack:List V->Option Pack
 |[(.agg [(.str a0),(.str a1),(.int .i64 a2),(.int .i64 a3),(.int .i64 a4),(.int .i64 a5),(.int .i64 a6),(.int .i64 a7),(.int .i64 a8),(.int .i64 a9)])]=>some ⟨(List (List V))×Int,z198.F a0 a1 a2 a3 a4 a5 a6 a7 a8 a9,z198.enc⟩
 |_=>none
def z199.F:Option ((List UInt8)×(List UInt8)×Int×Int×Int×Int×Int×Int×Int×Int):=
 (some (([49,48,48,48,48,48]:List UInt8),([49,50]:List UInt8),(0:Int),(0:Int),(2:Int),(2024:Int),(1:Int),(1:Int),(1:Int),(2:Int)))
def z199.enc (r:(List UInt8)×(List UInt8)×Int×Int×Int×Int×Int×Int×Int×Int):V:=(.agg [(.str r.1),(.str r.2.1),(.int .i64 r.2.2.1),(.int .i64 r.2.2.2.1),(.int .i64 r.2.2.2.2.1),(.int .i64 r.2.2.2.2.2.1),(.int .i64 r.2.2.2.2.2.2.1),(.int .i64 r.2.2.2.2.2.2.2.1),(.int .i64 r.2.2.2.2.2.2.2.2.1),(.int .i64 r.2.2.2.2.2.2.2.2.2)])
def z199.pack:List V->Option Pack
 |[]=>some ⟨(List UInt8)×(List UInt8)×Int×Int×Int×Int×Int×Int×Int×Int,z199.F,z199.enc⟩
 |_=>none
def z200.j4 (r2:(List (List V))×Int):Option (Bool):=
 ((z187.F r2.1).bind λr5=>(if (0:Int)<=(0:Int)/\(0:Int)<(r2.1.length:Int) then (V.asInt .i64 (((r2.1.getD 0 [])).getD 0 .undef) λc6=>(V.asInt .i64 (((r2.1.getD 0 [])).getD 1 .undef) λc7=>(V.asInt .i64 (((r2.1.getD 0 [])).getD 2 .undef) λc8=>(V.asStr (((r2.1.getD 0 [])).getD 3 .undef) λc9=>(V.asStr (((r2.1.getD 0 [])).getD 4 .undef) λc10=>(V.asStr (((r2.1.getD 0 [])).getD 5 .undef) λc11=>(V.asStr (((r2.1.getD 0 [])).getD 6 .undef) λc12=>(V.asStr (((r2.1.getD 0 [])).getD 7 .undef) λc13=>(bif (decide (c12=([53,48,55,53,49]:List UInt8))) then (if (0:Int)<=(0:Int)/\(0:Int)<(r2.1.length:Int) then (V.asInt .i64 (((r2.1.getD 0 [])).getD 0 .undef) λc14=>(V.asInt .i64 (((r2.1.getD 0 [])).getD 1 .undef) λc15=>(V.asInt .i64 (((r2.1.getD 0 [])).getD 2 .undef) λc16=>(V.asStr (((r2.1.getD 0 [])).getD 3 .undef) λc17=>(V.asStr (((r2.1.getD 0 [])).getD 4 .undef) λc18=>(V.asStr (((r2.1.getD 0 [])).getD 5 .undef) λc19=>(V.asStr (((r2.1.getD 0 [])).getD 6 .undef) λc20=>(V.asStr (((r2.1.getD 0 [])).getD 7 .undef) λc21=>(bif (decide (c18=([49,48,48,48]:List UInt8))) then (if (0:Int)<=(1:Int)/\(1:Int)<(r2.1.length:Int) then (V.asInt .i64 (((r2.1.getD 1 [])).getD 0 .undef) λc22=>(V.asInt .i64 (((r2.1.getD 1 [])).getD 1 .undef) λc23=>(V.asInt .i64 (((r2.1.getD 1 [])).getD 2 .undef) λc24=>(V.asStr (((r2.1.getD 1 [])).getD 3 .undef) λc25=>(V.asStr (((r2.1.getD 1 [])).getD 4 .undef) λc26=>(V.asStr (((r2.1.getD 1 [])).getD 5 .undef) λc27=>(V.asStr (((r2.1.getD 1 [])).getD 6 .undef) λc28=>(V.asStr (((r2.1.getD 1 [])).getD 7 .undef) λc29=>(bif (decide (c29=([48]:List UInt8))) then (bif (decide (r5.2.2.2.2=0)) then ((z135.F r5.2.2.1 r5.2.2.2.1).bind λr30=>(bif (decide (r30=([49,48,48,48,48,48]:List UInt8))) then ((z20.F r5.1 r5.2.1).bind λr31=>(some (decide (r31>0)))) else (some false))) else (some false)) else (some false)))))))))) else none) else (some false)))))))))) else none) else (some false)))))))))) else none))
def z200.F:Option (Bool):=
 (z199.F.bind λr1=>((z198.F r1.1 r1.2.1 r1.2.2.1 r1.2.2.2.1 r1.2.2.2.2.1 r1.2.2.2.2.2.1 r1.2.2.2.2.2.2.1 r1.2.2.2.2.2.2.2.1 r1.2.2.2.2.2.2.2.2.1 r1.2.2.2.2.2.2.2.2.2).bind λr2=>((z198.F ([]:List UInt8) ([]:List UInt8) 0 0 0 0 0 0 0 0).bind λr3=>(bif (!decide (r2.2=0)) then (some false) else (bif (!decide ((((r2.1).length:Nat):Int)=2)) then (some false) else (bif (!decide (r3.2=5)) then (some false) else (z200.j4 r2)))))))
def z200.enc (r:Bool):V:=(.bool r)
def z200.pack:List V->Option Pack
 |[]=>some ⟨Bool,z200.F,z200.enc⟩
 |_=>none
def z203.l0b6P (a b:List (List V)) (c:Int) (d:List Int) (e:Bool) (g:List Int) (h:Bool) (j:List Int) {R:Type} (rec:(Int×(List Int)×Bool×(List Int))->Option R) (done:((Int×(List Int)×Bool×(List Int))⊕(Bool×(List Int)×Bool×(List Int)))->Option R):(Int×(List Int)×Bool×(List Int))->Option R:=λx=>match x with
 |(k,m,n,o)=>(bif (decide (k<c)) then (if 0<=k/\k<(b.length:Int) then (V.asInt .i64 (((b.getD (k).toNat [])).getD 0 .undef) λp=>(V.asInt .i64 (((b.getD (k).toNat [])).getD 1 .undef) λq=>(V.asInt .i64 (((b.getD (k).toNat [])).getD 2 .undef) λr=>(V.asStr (((b.getD (k).toNat [])).getD 3 .undef) λs=>(V.asStr (((b.getD (k).toNat [])).getD 4 .undef) λt=>(V.asStr (((b.getD (k).toNat [])).getD 5 .undef) λu=>(V.asStr (((b.getD (k).toNat [])).getD 6 .undef) λv=>(V.asStr (((b.getD (k).toNat [])).getD 7 .undef) λw=>((z152.F m n o g h j).bind λy=>((z151.F m n o y.1 y.2.1 y.2.2).bind λz=>((z48.F 1).bind λA=>((z47.F A.1 A.2).bind λB=>((z151.F z.1 z.2.1 z.2.2 B.1 B.2.1 B.2.2).bind λC=>(bif (decide (k<(wr .i64 ((((a).length:Nat):Int)-1)))) then (bif (!decide (w=([48]:List UInt8))) then ((z135.F d e).bind λD=>(bif (!decide (v=D)) then (done (.inr (false,C.1,C.2.1,C.2.2))) else (rec ((wr .i64 (k+1)),C.1,C.2.1,C.2.2)))) else (rec ((wr .i64 (k+1)),C.1,C.2.1,C.2.2))) else (rec ((wr .i64 (k+1)),C.1,C.2.1,C.2.2)))))))))))))))) else none) else (done (.inl (k,m,n,o))))
def z203.l0b6 (a b:List (List V)) (c:Int) (d:List Int) (e:Bool) (g:List Int) (h:Bool) (j:List Int) (x:(Int×(List Int)×Bool×(List Int))):Option (((Int×(List Int)×Bool×(List Int))⊕(Bool×(List Int)×Bool×(List Int)))):=lfp (λrec x=>z203.l0b6P a b c d e g h j rec some x) x
def z203.j7 (r2:(List (List V))×Int) (r4:(List Int)×Bool×Int) (r5:(List Int)×Bool×(List Int)×Int):Option (Bool):=
 (if (0:Int)<=(0:Int)/\(0:Int)<(r2.1.length:Int) then (V.asInt .i64 (((r2.1.getD 0 [])).getD 0 .undef) λc8=>(V.asInt .i64 (((r2.1.getD 0 [])).getD 1 .undef) λc9=>(V.asInt .i64 (((r2.1.getD 0 [])).getD 2 .undef) λc10=>(V.asStr (((r2.1.getD 0 [])).getD 3 .undef) λc11=>(V.asStr (((r2.1.getD 0 [])).getD 4 .undef) λc12=>(V.asStr (((r2.1.getD 0 [])).getD 5 .undef) λc13=>(V.asStr (((r2.1.getD 0 [])).getD 6 .undef) λc14=>(V.asStr (((r2.1.getD 0 [])).getD 7 .undef) λc15=>((z42.F c12).bind λr16=>((z34.F r4.1 r4.2.1 r16.1 r16.2.1).bind λr17=>(bif (decide (r17<=0)) then (some true) else ((z203.l0b6 r2.1 r2.1 (((r2.1).length:Nat):Int) r4.1 r4.2.1 r5.1 r5.2.1 r5.2.2.1 ((0:Int),[],false,[])).bind λo18=>match o18 with | .inl p19=>(if 0<=(wr .i64 ((((r2.1).length:Nat):Int)-1))/\(wr .i64 ((((r2.1).length:Nat):Int)-1))<(r2.1.length:Int) then (V.asInt .i64 (((r2.1.getD ((wr .i64 ((((r2.1).length:Nat):Int)-1))).toNat [])).getD 0 .undef) λc21=>(V.asInt .i64 (((r2.1.getD ((wr .i64 ((((r2.1).length:Nat):Int)-1))).toNat [])).getD 1 .undef) λc22=>(V.asInt .i64 (((r2.1.getD ((wr .i64 ((((r2.1).length:Nat):Int)-1))).toNat [])).getD 2 .undef) λc23=>(V.asStr (((r2.1.getD ((wr .i64 ((((r2.1).length:Nat):Int)-1))).toNat [])).getD 3 .undef) λc24=>(V.asStr (((r2.1.getD ((wr .i64 ((((r2.1).length:Nat):Int)-1))).toNat [])).getD 4 .undef) λc25=>(V.asStr (((r2.1.getD ((wr .i64 ((((r2.1).length:Nat):Int)-1))).toNat [])).getD 5 .undef) λc26=>(V.asStr (((r2.1.getD ((wr .i64 ((((r2.1).length:Nat):Int)-1))).toNat [])).getD 6 .undef) λc27=>(V.asStr (((r2.1.getD ((wr .i64 ((((r2.1).length:Nat):Int)-1))).toNat [])).getD 7 .undef) λc28=>((z42.F c27).bind λr29=>((z33.F r29.1 r29.2.1 r4.1 r4.2.1).bind λr30=>((z59.F r30.1 r30.2).bind λr31=>((z21.F r31 false).bind λr32=>((z47.F r32.1 r32.2).bind λr33=>((z48.F 3).bind λr34=>((z47.F r34.1 r34.2).bind λr35=>((z152.F p19.2.1 p19.2.2.1 p19.2.2.2 r35.1 r35.2.1 r35.2.2).bind λr36=>((z175.F r33.1 r33.2.1 r33.2.2 r36.1 r36.2.1 r36.2.2).bind λr37=>(some (decide (r37<=0)))))))))))))))))))) else none) | .inr q20=>(some q20.1))))))))))))) else none)
def z203.F (a0 a1 a2 a3 a4 a5 a6 a7 a8 a9 a10 a11:Int):Option (Bool):=
 ((z18.F a0 a1 a2 a3 a4 a5 a6 a7 a8 a9 a10 a11 24).bind λr1=>((z198.F r1.1 r1.2.1 0 0 r1.2.2.2.2.1 r1.2.2.2.2.2.1 r1.2.2.2.2.2.2.1 (if 28<r1.2.2.2.2.2.2.2.1 then 28 else r1.2.2.2.2.2.2.2.1) r1.2.2.2.2.2.2.2.2.1 r1.2.2.2.2.2.2.2.2.2).bind λr2=>((z42.F r1.1).bind λr3=>((z193.F r3.1 r3.2.1 r1.2.1 r1.2.2.2.2.2.2.2.2.1 r1.2.2.2.2.2.2.2.2.2 r1.2.2.2.2.1).bind λr4=>((z188.F r1.2.1 r1.2.2.2.2.2.2.2.2.1).bind λr5=>(z200.F.bind λr6=>(bif (!r6) then (some false) else (bif (!decide (r2.2=0)) then (some false) else (bif (!decide (r4.2.2=0)) then (some false) else (bif (!decide (r5.2.2.2=0)) then (some false) else (bif (!decide ((((r2.1).length:Nat):Int)=r1.2.2.2.2.2.2.2.2.2)) then (some false) else (z203.j7 r2 r4 r5))))))))))))
def z203.enc (r:Bool):V:=(.bool r)
def z203.pack:List V->Option Pack
 |[(.agg [(.int .u64 a0),(.int .u16 a1),(.int .u32 a2),(.int .u8 a3),(.int .u8 a4),(.int .u8 a5),(.int .u8 a6),(.int .u8 a7),(.int .u8 a8),(.int .i64 a9),(.int .i64 a10),(.int .i64 a11)])]=>some ⟨Bool,z203.F a0 a1 a2 a3 a4 a5 a6 a7 a8 a9 a10 a11,z203.enc⟩
 |_=>none
end
end Go.Proofs.YtgjncgiekniniaaGreatDoor.A
end
section
set_option maxRecDepth 100000
namespace Go.Proofs.YtgjncgiekniniaaGreatDoor.A
open Go
noncomputable section
def z10.C:Ctx where
 T:=tab
def z10.dec:V->Option (Bool)
 |(.bool x0)=>some x0
 |_=>none
theorem z10.link (a0:Int):z10.C.evTop 219 (ifun Tryz.f219) [(.int .i64 a0)] z10.dec=z10.F a0:=by kernel_rfl
def z15.l2aash:Env×Store:=((.ints false .i64 [])::(.ints false .i64 []) :: .undef :: .undef::(.sref 0 0)::(.sref 1 0)::(.int .i64 0)::(.int .i64 0)::(.int .i64 0)::un 54 [],[(.arr 0 true 3 (.ints false .i64 [])),(.arr 0 false 3 (.ints false .i64 []))])
def z15.l2aaout0 (a b:List Int) (c d e:Int) (g h:List Int) (o:Int×Int×(List Int)):X×Env×Store:=((.exit 2),Qb z15.l2aash [.li a,.li b,.i c,.i o.1,.i o.2.1,.li g,.li o.2.2])
def z15.l2aapack:List Leaf->Option LPack
 |[.li a,.li b,.i c,.i d,.i e,.li g,.li h]=>some (.one _ (z15.l2aa a b c (d,e,h)) (z15.l2aaout0 a b c d e g h))
 |_=>none
def z15.l0sh:Env×Store:=((.ints false .i64 [])::(.ints false .i64 []) :: .undef :: .undef::(.sref 0 0)::(.sref 1 0)::(.int .i64 0)::un 56 [],[(.arr 0 true 3 (.ints false .i64 [])),(.arr 0 false 3 (.ints false .i64 []))])
def z15.l0out0 (a b:List Int) (c:Int) (d e:List Int) (o:Int×(List Int)):X×Env×Store:=((.exit 0),Qb z15.l0sh [.li a,.li b,.i o.1,.li d,.li o.2])
def z15.l0pack:List Leaf->Option LPack
 |[.li a,.li b,.i c,.li d,.li e]=>some (.one _ (z15.l0 a b (c,e)) (z15.l0out0 a b c d e))
 |_=>none
def z15.C:Ctx where
 T:=tab
 draws:=λf i=>match f,i with|208,10=>([(38,[(5,0)],0),(39,[(6,0)],0),(40,[(8,0)],0),(41,[(38,2),(39,3)],6),(42,[(37,1),(40,4)],15),(43,[(41,5)],31),(44,[(0,0)],0),(45,[(6,0)],0),(46,[(43,7),(44,8)],192),(47,[(45,9)],448),(48,[(9,0)],0),(49,[(46,10),(47,11)],1984),(50,[(42,6),(48,12)],4095),(51,[(7,0)],0),(52,[(49,13),(50,14)],16383),(11,[(51,15)],32767)],4503462188418048)|_,_=>([],0)
 call:=λg args=>match g with|234=>z13.pack args|235=>z14.pack args|_=>none
 keep:=λf i=>match f,i with|208,2=>([0,1,4,5,6,7,8],[0,1],[])|208,0=>([0,1,4,5,6,29,30],[0,1],[])|_,_=>([],[],[])
 keepE:=λf i=>match f,i with|208,2=>([0,1,4,5,6,7,8],[0,1],[])|208,0=>([0,1,4,5,6,29,30],[0,1],[])|_,_=>([],[],[])
 keepR:=λf i=>match f,i with|208,2=>([4],[0,1],[4])|208,0=>([4],[0,1],[4])|_,_=>([],[],[])
 L:=λf i b st=>match f,i,b with|208,2,0=>(matchSt z15.l2aash st).bind z15.l2aapack|208,0,0=>(matchSt z15.l0sh st).bind z15.l0pack|_,_,_=>none
def z15.dec:V->Option ((List Int))
 |(.ints _ .i64 x0)=>some x0
 |_=>none
theorem z15.l2aa_link (R:Type) (k:Env×Store->Option R) (d:X×Env×Store->Option R) (a b:List Int) (c e g:Int) (h j:List Int) :
  z15.C.loopP 208 2 (Qf 2 (ifun Tryz.f208).body) 2 k d (Qb z15.l2aash [.li a,.li b,.i c,.i e,.i g,.li h,.li j]) =
  z15.l2aaP a b c (λx'=>k (Qb z15.l2aash [.li a,.li b,.i c,.i x'.1,.i x'.2.1,.li h,.li x'.2.2])) (λo=>d (z15.l2aaout0 a b c e g h j o)) (e,g,j):=by kernel_rfl
theorem z15.l0_link (R:Type) (k:Env×Store->Option R) (d:X×Env×Store->Option R) (a b:List Int) (c:Int) (e g:List Int) :
  z15.C.loopP 208 0 (Qf 0 (ifun Tryz.f208).body) 2 k d (Qb z15.l0sh [.li a,.li b,.i c,.li e,.li g]) =
  z15.l0P a b (λx'=>k (Qb z15.l0sh [.li a,.li b,.i x'.1,.li e,.li x'.2])) (λo=>d (z15.l0out0 a b c e g o)) (c,g):=by kernel_rfl
theorem z15.link (a0 a1:List Int):z15.C.evTop 208 (ifun Tryz.f208) [(.ints false .i64 a0),(.ints false .i64 a1)] z15.dec=z15.F a0 a1:=by kernel_rfl
def z17.l0sh:Env×Store:=(.undef::(.ptr 0 0)::(.str ([]:List UInt8))::(.str ([]:List UInt8))::un 36 [],[(.cells 213 [(.ints false .i64 []),(.bool false),(.int .i64 0)])])
def z17.l0out0 (a c:List UInt8) (d:List Int) (e:Bool) (g:Int) (o:(List UInt8)):X×Env×Store:=((.exit 0),Qb z17.l0sh [.s a,.s o,.li d,.b e,.i g])
def z17.l0pack:List Leaf->Option LPack
 |[.s a,.s c,.li d,.b e,.i g]=>some (.one _ (z17.l0 g c) (z17.l0out0 a c d e g))
 |_=>none
def z17.C:Ctx where
 T:=tab
 draws:=λf i=>match f,i with|132,5=>([(19,[(3,17)],0),(20,[(3,17)],0),(21,[(19,2)],2),(22,[(1,0)],0),(23,[(21,4)],8),(24,[(20,3),(22,5)],30),(25,[(18,1),(23,6)],63),(26,[(24,7)],127),(27,[(3,17)],0),(28,[(3,17)],0),(29,[(27,10)],512),(30,[(1,0)],0),(31,[(29,12)],2048),(32,[(28,11),(30,13)],7680),(33,[(26,9),(31,14)],16128),(34,[(25,8),(32,15)],32767),(4,[(33,16)],65535)],17179607048)|_,_=>([],0)
 call:=λg args=>match g with|102=>z5.pack args|_=>none
 keep:=λf i=>match f,i with|132,0=>([1,2,3],[0],[])|_,_=>([],[],[])
 keepE:=λf i=>match f,i with|132,0=>([1,2,3],[0],[])|_,_=>([],[],[])
 keepR:=λf i=>match f,i with|132,0=>([2],[0],[2])|_,_=>([],[],[])
 L:=λf i b st=>match f,i,b with|132,0,0=>(matchSt z17.l0sh st).bind z17.l0pack|_,_,_=>none
def z17.dec:V->Option ((List UInt8))
 |(.str x0)=>some x0
 |_=>none
theorem z17.l0_link (R:Type) (k:Env×Store->Option R) (d:X×Env×Store->Option R) (a c:List UInt8) (e:List Int) (g:Bool) (h:Int) :
  z17.C.loopP 132 0 (Qf 0 (ifun Tryz.f132).body) 1 k d (Qb z17.l0sh [.s a,.s c,.li e,.b g,.i h]) =
  z17.l0P h (λx'=>k (Qb z17.l0sh [.s a,.s x',.li e,.b g,.i h])) (λo=>d (z17.l0out0 a c e g h o)) c:=by kernel_rfl
theorem z17.link (a0:List Int) (a1:Bool) (a2:Int):z17.C.evTop 132 (ifun Tryz.f132) [(.agg [(.ints false .i64 a0),(.bool a1),(.int .i64 a2)])] z17.dec=z17.F a0 a1 a2:=by kernel_rfl
def z18.C:Ctx where
 T:=tab
 call:=λg args=>match g with|95=>z12.pack args|60=>z9.pack args|131=>z16.pack args|26=>z6.pack args|132=>z17.pack args|_=>none
def z18.dec:V->Option ((List UInt8)×(List UInt8)×Int×Int×Int×Int×Int×Int×Int×Int)
 |(.agg [(.str x0),(.str x1),(.int .i64 x2),(.int .i64 x3),(.int .i64 x4),(.int .i64 x5),(.int .i64 x6),(.int .i64 x7),(.int .i64 x8),(.int .i64 x9)])=>some (x0,x1,x2,x3,x4,x5,x6,x7,x8,x9)
 |_=>none
theorem z18.link (a0 a1 a2 a3 a4 a5 a6 a7 a8 a9 a10 a11 a12:Int):z18.C.evTop 43 (ifun Tryz.f43) [(.agg [(.int .u64 a0),(.int .u16 a1),(.int .u32 a2),(.int .u8 a3),(.int .u8 a4),(.int .u8 a5),(.int .u8 a6),(.int .u8 a7),(.int .u8 a8),(.int .i64 a9),(.int .i64 a10),(.int .i64 a11)]),(.int .i64 a12)] z18.dec=z18.F a0 a1 a2 a3 a4 a5 a6 a7 a8 a9 a10 a11 a12:=by kernel_rfl
def z77.C:Ctx where
 T:=tab
def z77.dec:V->Option ((List (List UInt8)))
 |(.strs _ x0)=>some x0
 |_=>none
theorem z77.link:z77.C.evTop 137 (ifun Tryz.f137) [] z77.dec=z77.F:=by kernel_rfl
def z85.C:Ctx where
 T:=tab
 call:=λg args=>match g with|47=>z78.pack args|209=>z84.pack args|149=>z81.pack args|_=>none
def z85.dec:V->Option (Bool)
 |(.bool x0)=>some x0
 |_=>none
theorem z85.link (a0 a1:List UInt8) (a2 a3 a4 a5 a6 a7 a8 a9:Int):z85.C.evTop 133 (ifun Tryz.f133) [(.agg [(.str a0),(.str a1),(.int .i64 a2),(.int .i64 a3),(.int .i64 a4),(.int .i64 a5),(.int .i64 a6),(.int .i64 a7),(.int .i64 a8),(.int .i64 a9)])] z85.dec=z85.F a0 a1 a2 a3 a4 a5 a6 a7 a8 a9:=by kernel_rfl
def z90.C:Ctx where
 T:=tab
 draws:=λf i=>match f,i with|134,10=>([(48,[(8,0)],0),(49,[(47,1)],1),(50,[(8,0)],0),(51,[(49,3)],4),(52,[(8,0)],0),(53,[(51,5)],16),(54,[(50,4),(52,6)],60),(55,[(48,2),(53,7)],127),(56,[(8,0)],255),(0,[(55,9),(54,8)],511)],71916856549572608)|_,_=>([],0)
 call:=λg args=>match g with|142=>z89.pack args|210=>z88.pack args|_=>none
def z90.dec:V->Option (Int×Int×Int×Int)
 |(.tup [(.agg [(.int .i64 x0),(.int .i64 x1),(.int .i64 x2)]),(.int .i64 x3)])=>some (x0,x1,x2,x3)
 |_=>none
theorem z90.link (a0 a1 a2 a3:Int):z90.C.evTop 134 (ifun Tryz.f134) [(.agg [(.int .i64 a0),(.int .i64 a1),(.int .i64 a2)]),(.int .i64 a3)] z90.dec=z90.F a0 a1 a2 a3:=by kernel_rfl
def z95.l0sh:Env×Store:=(.undef :: .undef::(.int .i64 0)::(.int .i64 0) :: .undef :: .undef::(.ints false .i64 [])::(.int .i64 0)::(.int .i64 0)::un 9 [],[])
def z95.l0so1:Env×Store:=(.undef :: .undef::(.int .i64 0)::un 15 [],[])
def z95.l0out0 (a b:Int) (c:List Int) (d e o:Int):X×Env×Store:=((.exit 0),Qb z95.l0sh [.i a,.i b,.li c,.i d,.i o])
def z95.l0out1 (a b:Int) (c:List Int) (d e o:Int):X×Env×Store:=(.ret,Qb z95.l0so1 [.i o])
def z95.l0pack:List Leaf->Option LPack
 |[.i a,.i b,.li c,.i d,.i e]=>some (.two _ _ (z95.l0 b c d e) (z95.l0out0 a b c d e) (z95.l0out1 a b c d e))
 |_=>none
def z95.C:Ctx where
 T:=tab
 keep:=λf i=>match f,i with|145,0=>([2,3,6,7,8],[],[])|_,_=>([],[],[])
 keepE:=λf i=>match f,i with|145,0=>([2,3,6,7,8],[],[])|_,_=>([],[],[])
 keepR:=λf i=>match f,i with|145,0=>([2],[],[2])|_,_=>([],[],[])
 L:=λf i b st=>match f,i,b with|145,0,0=>(matchSt z95.l0sh st).bind z95.l0pack|_,_,_=>none
def z95.dec:V->Option (Int)
 |(.int .i64 x0)=>some x0
 |_=>none
theorem z95.l0_link (R:Type) (k:Env×Store->Option R) (d:X×Env×Store->Option R) (a b:Int) (c:List Int) (e g:Int) :
  z95.C.loopP 145 0 (Qf 0 (ifun Tryz.f145).body) 0 k d (Qb z95.l0sh [.i a,.i b,.li c,.i e,.i g]) =
  z95.l0P b c e (λx'=>k (Qb z95.l0sh [.i a,.i b,.li c,.i e,.i x'])) (λo=>match o with | .inl o=>d (z95.l0out0 a b c e g o) | .inr o=>d (z95.l0out1 a b c e g o)) g:=by kernel_rfl
theorem z95.link (a0:List Int):z95.C.evTop 145 (ifun Tryz.f145) [(.ints false .i64 a0)] z95.dec=z95.F a0:=by kernel_rfl
def z96.C:Ctx where
 T:=tab
 draws:=λf i=>match f,i with|57,1=>([(6,[(2,0)],0),(7,[(5,1)],1),(8,[(3,0)],0),(9,[(7,3)],4),(10,[(6,2),(8,4)],15),(11,[(2,0)],0),(12,[(10,6)],32),(13,[(3,0)],0),(14,[(12,8)],128),(15,[(11,7),(13,9)],511),(16,[(2,0)],0),(17,[(15,11)],1024),(18,[(3,0)],0),(19,[(17,13)],4096),(20,[(16,12),(18,14)],16383),(21,[(9,5),(14,10),(19,15)],32767),(22,[(20,16)],65535),(5,[(21,17)],131071)],4194288)|_,_=>([],0)
 call:=λg args=>match g with|146=>z26.pack args|145=>z95.pack args|_=>none
def z96.dec:V->Option (Int)
 |(.int .i64 x0)=>some x0
 |_=>none
theorem z96.link (a0 a1 a2 a3 a4 a5:Int):z96.C.evTop 57 (ifun Tryz.f57) [(.agg [(.int .i64 a0),(.int .i64 a1),(.int .i64 a2)]),(.agg [(.int .i64 a3),(.int .i64 a4),(.int .i64 a5)])] z96.dec=z96.F a0 a1 a2 a3 a4 a5:=by kernel_rfl
def z147.C:Ctx where
 T:=tab
 call:=λg args=>match g with|28=>z20.pack args|_=>none
def z147.dec:V->Option (Int)
 |(.int .i64 x0)=>some x0
 |_=>none
theorem z147.link (a0:List Int) (a1:Bool) (a2:List Int):z147.C.evTop 71 (ifun Tryz.f71) [(.agg [(.ints false .u64 a0),(.bool a1),(.ints false .u64 a2)])] z147.dec=z147.F a0 a1 a2:=by kernel_rfl
def z148.C:Ctx where
 T:=tab
def z148.dec:V->Option ((List Int)×Bool)
 |(.agg [(.ints _ .u64 x0),(.bool x1)])=>some (x0,x1)
 |_=>none
theorem z148.link (a0:List Int) (a1:Bool) (a2:List Int):z148.C.evTop 216 (ifun Tryz.f216) [(.agg [(.ints false .u64 a0),(.bool a1),(.ints false .u64 a2)])] z148.dec=z148.F a0 a1 a2:=by kernel_rfl
def z149.C:Ctx where
 T:=tab
 draws:=λf i=>match f,i with|217,1=>([(12,[(6,0)],0),(13,[(6,0)],0),(14,[(11,1),(12,2)],3),(15,[(7,0)],0),(16,[(13,3),(14,4)],15),(10,[(15,5)],31)],64000)|_,_=>([],0)
 call:=λg args=>match g with|99=>z24.pack args|186=>z29.pack args|188=>z60.pack args|_=>none
def z149.dec:V->Option (Bool)
 |(.bool x0)=>some x0
 |_=>none
theorem z149.link (a0:Int) (a1 a2 a3:List Int):z149.C.evTop 217 (ifun Tryz.f217) [(.int .i64 a0),(.agg [(.ints false .u64 a1)]),(.agg [(.ints false .u64 a2)]),(.agg [(.ints false .u64 a3)])] z149.dec=z149.F a0 a1 a2 a3:=by kernel_rfl
def z150.C:Ctx where
 T:=tab
 draws:=λf i=>match f,i with|150,3=>([(15,[(2,0)],0),(16,[(14,1)],1),(17,[(15,2)],3),(18,[(2,0)],0),(19,[(17,4)],15),(20,[(16,3),(18,5)],31),(14,[(19,6)],63),(21,[(13,7)],127),(22,[(13,7)],127),(23,[(13,7)],127),(7,[],0),(8,[],0),(0,[(6,11),(20,8)],3327),(0,[(7,12),(21,9)],7679),(9,[(22,10)],16383)],8380864)|150,4=>([(24,[(7,0)],0),(25,[(23,1)],1),(26,[(24,2)],3),(27,[(25,3)],7),(28,[(1,0),(26,4)],15),(29,[(6,0),(26,4)],15),(30,[(7,0),(26,4)],15),(31,[(2,0),(26,4)],15),(32,[(30,8),(26,4)],143),(33,[(27,5),(28,6),(29,7),(31,9),(26,4)],511),(34,[(26,4),(32,10)],1023)],17171480576)|150,5=>([(35,[(6,0)],0),(36,[],0),(37,[(35,2)],2),(38,[(34,1),(36,3)],7),(0,[(6,0),(37,4)],15)],257698037760)|150,6=>([(39,[(6,0)],0),(40,[(2,0)],0),(41,[(39,2)],2),(42,[(40,3)],6),(43,[(38,1),(41,4)],15),(0,[(4,0),(42,5)],31),(6,[],63)],8521215115296)|_,_=>([],0)
 call:=λg args=>match g with|214=>z79.pack args|216=>z148.pack args|92=>z59.pack args|130=>z73.pack args|162=>z68.pack args|104=>z19.pack args|217=>z149.pack args|158=>z38.pack args|99=>z24.pack args|71=>z147.pack args|91=>z21.pack args|_=>none
def z150.dec:V->Option ((List Int)×Bool×Int)
 |(.tup [(.agg [(.ints _ .u64 x0),(.bool x1)]),(.int .i64 x2)])=>some (x0,x1,x2)
 |_=>none
theorem z150.link (a0:List Int) (a1:Bool) (a2:List Int) (a3:Int):z150.C.evTop 150 (ifun Tryz.f150) [(.agg [(.ints false .u64 a0),(.bool a1),(.ints false .u64 a2)]),(.int .i64 a3)] z150.dec=z150.F a0 a1 a2 a3:=by kernel_rfl
def z153.C:Ctx where
 T:=tab
 call:=λg args=>match g with|69=>z48.pack args|176=>z71.pack args|_=>none
def z153.dec:V->Option ((List Int)×Bool×(List Int))
 |(.agg [(.ints _ .u64 x0),(.bool x1),(.ints _ .u64 x2)])=>some (x0,x1,x2)
 |_=>none
theorem z153.link (a0 a1:Int):z153.C.evTop 230 (ifun Tryz.f230) [(.int .i64 a0),(.int .i64 a1)] z153.dec=z153.F a0 a1:=by kernel_rfl
def z200.C:Ctx where
 T:=tab
 call:=λg args=>match g with|169=>z199.pack args|86=>z198.pack args|84=>z187.pack args|25=>z135.pack args|28=>z20.pack args|_=>none
def z200.dec:V->Option (Bool)
 |(.bool x0)=>some x0
 |_=>none
theorem z200.link:z200.C.evTop 83 (ifun Tryz.f83) [] z200.dec=z200.F:=by kernel_rfl
def z203.l0b6sh:Env×Store:=(.undef :: .undef::(.bool false) :: .undef::(.recs false 8 [])::un 3 ((.ptr 3 0) :: .undef::(.ptr 4 0)::un 3 ((.ptr 6 0)::un 81 ((.recs false 8 [])::(.int .i64 0)::(.int .i64 0)::un 54 []))),[.dead,.dead,.dead,(.cells 39 [(.ints false .u64 []),(.bool false)]),(.cells 68 [(.ints false .u64 []),(.bool false),(.ints false .u64 [])]),.dead,(.cells 68 [(.ints false .u64 []),(.bool false),(.ints false .u64 [])])])
def z203.l0b6so1:Env×Store:=(.undef :: .undef::(.bool false)::un 150 [],[.dead,.dead,.dead,(.cells 39 [(.ints false .u64 []),(.bool false)]),(.cells 68 [(.ints false .u64 []),(.bool false),(.ints false .u64 [])]),.dead,(.cells 68 [(.ints false .u64 []),(.bool false),(.ints false .u64 [])])])
def z203.l0b6out0 (a:Bool) (c d:List (List V)) (e g:Int) (h:List Int) (j:Bool) (k:List Int) (m:Bool) (n p:List Int) (q:Bool) (r:List Int) (o:Int×(List Int)×Bool×(List Int)):X×Env×Store:=((.exit 0),Qb z203.l0b6sh [.b a,.lr c,.lr d,.i e,.i o.1,.li h,.b j,.li k,.b m,.li n,.li o.2.1,.b o.2.2.1,.li o.2.2.2])
def z203.l0b6out1 (a:Bool) (c d:List (List V)) (e g:Int) (h:List Int) (j:Bool) (k:List Int) (m:Bool) (n p:List Int) (q:Bool) (r:List Int) (o:Bool×(List Int)×Bool×(List Int)):X×Env×Store:=(.ret,Qb z203.l0b6so1 [.b o.1,.li h,.b j,.li k,.b m,.li n,.li o.2.1,.b o.2.2.1,.li o.2.2.2])
def z203.l0b6pack:List Leaf->Option LPack
 |[.b a,.lr c,.lr d,.i e,.i g,.li h,.b j,.li k,.b m,.li n,.li o,.b p,.li q]=>some (.two _ _ (z203.l0b6 c d e h j k m n (g,o,p,q)) (z203.l0b6out0 a c d e g h j k m n o p q) (z203.l0b6out1 a c d e g h j k m n o p q))
 |_=>none
def z203.C:Ctx where
 T:=tab
 draws:=λf i=>match f,i with|20,16=>([(104,[(14,0)],0),(105,[(14,0)],0),(106,[(10,0)],0),(107,[(104,2),(105,3)],6),(108,[(103,1),(106,4)],15),(109,[],31),(110,[(108,6)],63),(111,[(107,5),(109,7)],127),(0,[(14,0),(110,8)],255)],2586007224465587979053274538967040)|20,17=>([(112,[(15,0)],0),(113,[(4,0)],0),(114,[(112,2)],2),(115,[(113,3)],6),(116,[(111,1),(114,4)],15),(117,[(115,5)],31),(118,[(16,0),(116,6)],63),(119,[(117,7),(116,6)],127),(120,[(118,8),(116,6)],255),(121,[(116,6),(119,9)],511),(122,[(120,10)],1023),(123,[(16,0),(121,11)],2047),(124,[(122,12),(121,11)],4095),(125,[(8,0),(121,11)],2047),(126,[(124,14),(121,11)],10239),(127,[(123,13),(125,15),(121,11)],32767),(128,[(121,11),(126,16)],65535)],340279770772509196049560342183603601408)|20,22=>([(144,[(19,0)],0),(145,[(143,1)],1),(146,[(144,2)],3),(147,[(145,3)],7),(148,[(14,0)],0),(149,[],15),(150,[(148,6)],47),(151,[(147,5),(149,7)],127),(152,[(146,4),(150,8)],255),(153,[(151,9)],511),(3,[(152,10)],1023)],11406831169048413736895519896459636910308982788)|_,_=>([],0)
 call:=λg args=>match g with|43=>z18.pack args|86=>z198.pack args|76=>z42.pack args|87=>z193.pack args|88=>z188.pack args|83=>z200.pack args|74=>z34.pack args|89=>z152.pack args|78=>z151.pack args|69=>z48.pack args|68=>z47.pack args|25=>z135.pack args|90=>z33.pack args|92=>z59.pack args|91=>z21.pack args|67=>z175.pack args|_=>none
 keep:=λf i=>match f,i with|20,0=>([2,4,8,10,14,96,97,98,117,122],[3,4,6],[])|_,_=>([],[],[])
 keepE:=λf i=>match f,i with|20,0=>([2,4,8,10,14,96,97,98,117,122],[3,4,6],[])|_,_=>([],[],[])
 keepR:=λf i=>match f,i with|20,0=>([2],[3,4,6],[2])|_,_=>([],[],[])
 L:=λf i b st=>match f,i,b with|20,0,0=>(matchSt z203.l0b6sh st).bind z203.l0b6pack|_,_,_=>none
def z203.dec:V->Option (Bool)
 |(.bool x0)=>some x0
 |_=>none
theorem z203.l0b6_link (R:Type) (k:Env×Store->Option R) (d:X×Env×Store->Option R) (a:Bool) (c e:List (List V)) (g h:Int) (j:List Int) (m:Bool) (n:List Int) (p:Bool) (q r:List Int) (s:Bool) (t:List Int) :
  z203.C.loopP 20 0 (Qf 0 (ifun Tryz.f20).body) 7 k d (Qb z203.l0b6sh [.b a,.lr c,.lr e,.i g,.i h,.li j,.b m,.li n,.b p,.li q,.li r,.b s,.li t]) =
  z203.l0b6P c e g j m n p q (λx'=>k (Qb z203.l0b6sh [.b a,.lr c,.lr e,.i g,.i x'.1,.li j,.b m,.li n,.b p,.li q,.li x'.2.1,.b x'.2.2.1,.li x'.2.2.2])) (λo=>match o with | .inl o=>d (z203.l0b6out0 a c e g h j m n p q r s t o) | .inr o=>d (z203.l0b6out1 a c e g h j m n p q r s t o)) (h,r,s,t):=by kernel_rfl
theorem z203.link (a0 a1 a2 a3 a4 a5 a6 a7 a8 a9 a10 a11:Int):z203.C.evTop 20 (ifun Tryz.f20) [(.agg [(.int .u64 a0),(.int .u16 a1),(.int .u32 a2),(.int .u8 a3),(.int .u8 a4),(.int .u8 a5),(.int .u8 a6),(.int .u8 a7),(.int .u8 a8),(.int .i64 a9),(.int .i64 a10),(.int .i64 a11)])] z203.dec=z203.F a0 a1 a2 a3 a4 a5 a6 a7 a8 a9 a10 a11:=by kernel_rfl
end
noncomputable section
def z6.C:Ctx where
 T:=tab
 call:=λg args=>match g with|102=>z5.pack args|_=>none
def z6.dec:V->Option ((List UInt8))
 |(.str x0)=>some x0
 |_=>none
theorem z6.link (a0:List Int) (a1:Bool):z6.C.evTop 26 (ifun Tryz.f26) [(.agg [(.ints false .i64 a0),(.bool a1)])] z6.dec=z6.F a0 a1:=by kernel_rfl
def z9.C:Ctx where
 T:=tab
 call:=λg args=>match g with|152=>z8.pack args|113=>z7.pack args|_=>none
def z9.dec:V->Option ((List Int)×Bool)
 |(.agg [(.ints _ .i64 x0),(.bool x1)])=>some (x0,x1)
 |_=>none
theorem z9.link (a0:Int):z9.C.evTop 60 (ifun Tryz.f60) [(.int .i64 a0)] z9.dec=z9.F a0:=by kernel_rfl
def z14.l0b6sh:Env×Store:=((.ints false .i64 []) :: .undef::(.sref 0 0)::(.int .i64 0)::un 17 [],[(.arr 0 true 3 (.ints false .i64 []))])
def z14.l0b6out0 (a:List Int) (b:Int) (c:List Int) (o:Int):X×Env×Store:=((.exit 0),Qb z14.l0b6sh [.li a,.i o,.li c])
def z14.l0b6pack:List Leaf->Option LPack
 |[.li a,.i b,.li c]=>some (.one _ (z14.l0b6 a b) (z14.l0b6out0 a b c))
 |_=>none
def z14.C:Ctx where
 T:=tab
 keep:=λf i=>match f,i with|235,0=>([0,2,3],[0],[])|_,_=>([],[],[])
 keepE:=λf i=>match f,i with|235,0=>([0,2,3],[0],[])|_,_=>([],[],[])
 keepR:=λf i=>match f,i with|235,0=>([2],[0],[2])|_,_=>([],[],[])
 L:=λf i b st=>match f,i,b with|235,0,0=>(matchSt z14.l0b6sh st).bind z14.l0b6pack|_,_,_=>none
def z14.dec:V->Option ((List Int))
 |(.ints _ .i64 x0)=>some x0
 |_=>none
theorem z14.l0b6_link (R:Type) (k:Env×Store->Option R) (d:X×Env×Store->Option R) (a:List Int) (b:Int) (c:List Int) :
  z14.C.loopP 235 0 (Qf 0 (ifun Tryz.f235).body) 1 k d (Qb z14.l0b6sh [.li a,.i b,.li c]) =
  z14.l0b6P a (λx'=>k (Qb z14.l0b6sh [.li a,.i x',.li c])) (λo=>d (z14.l0b6out0 a b c o)) b:=by kernel_rfl
theorem z14.link (a0:List Int):z14.C.evTop 235 (ifun Tryz.f235) [(.ints false .i64 a0)] z14.dec=z14.F a0:=by kernel_rfl
def z16.C:Ctx where
 T:=tab
 call:=λg args=>match g with|208=>z15.pack args|113=>z7.pack args|_=>none
def z16.dec:V->Option ((List Int)×Bool)
 |(.agg [(.ints _ .i64 x0),(.bool x1)])=>some (x0,x1)
 |_=>none
theorem z16.link (a0:List Int) (a1:Bool) (a2:List Int) (a3:Bool):z16.C.evTop 131 (ifun Tryz.f131) [(.agg [(.ints false .i64 a0),(.bool a1)]),(.agg [(.ints false .i64 a2),(.bool a3)])] z16.dec=z16.F a0 a1 a2 a3:=by kernel_rfl
def z78.C:Ctx where
 T:=tab
 call:=λg args=>match g with|137=>z77.pack args|_=>none
def z78.dec:V->Option ((List UInt8))
 |(.str x0)=>some x0
 |_=>none
theorem z78.link (a0:Int):z78.C.evTop 47 (ifun Tryz.f47) [(.int .i64 a0)] z78.dec=z78.F a0:=by kernel_rfl
def z98.l0sh:Env×Store:=(.undef::(.ptr 0 0)::(.int .i64 0)::(.int .i64 0) :: .undef::(.int .i64 0)::(.int .i64 0)::un 24 [],[(.cells 41 [(.int .i64 0),(.int .i64 0),(.int .i64 0)])])
def z98.l0out0 (a b c d e g h:Int) (o:Int×Int):X×Env×Store:=((.exit 0),Qb z98.l0sh [.i a,.i b,.i o.1,.i o.2,.i e,.i g,.i h])
def z98.l0pack:List Leaf->Option LPack
 |[.i a,.i b,.i c,.i d,.i e,.i g,.i h]=>some (.one _ (z98.l0 e g (c,d)) (z98.l0out0 a b c d e g h))
 |_=>none
def z98.C:Ctx where
 T:=tab
 call:=λg args=>match g with|142=>z89.pack args|211=>z97.pack args|210=>z88.pack args|_=>none
 keep:=λf i=>match f,i with|140,0=>([1,2,3,5,6],[0],[])|_,_=>([],[],[])
 keepE:=λf i=>match f,i with|140,0=>([1,2,3,5,6],[0],[])|_,_=>([],[],[])
 keepR:=λf i=>match f,i with|140,0=>([2,3],[0],[2,3])|_,_=>([],[],[])
 L:=λf i b st=>match f,i,b with|140,0,0=>(matchSt z98.l0sh st).bind z98.l0pack|_,_,_=>none
def z98.dec:V->Option (Int×Int)
 |(.tup [(.int .i64 x0),(.int .i64 x1)])=>some (x0,x1)
 |_=>none
theorem z98.l0_link (R:Type) (k:Env×Store->Option R) (d:X×Env×Store->Option R) (a b c e g h j:Int) :
  z98.C.loopP 140 0 (Qf 0 (ifun Tryz.f140).body) 1 k d (Qb z98.l0sh [.i a,.i b,.i c,.i e,.i g,.i h,.i j]) =
  z98.l0P g h (λx'=>k (Qb z98.l0sh [.i a,.i b,.i x'.1,.i x'.2,.i g,.i h,.i j])) (λo=>d (z98.l0out0 a b c e g h j o)) (c,e):=by kernel_rfl
theorem z98.link (a0 a1 a2:Int):z98.C.evTop 140 (ifun Tryz.f140) [(.agg [(.int .i64 a0),(.int .i64 a1),(.int .i64 a2)])] z98.dec=z98.F a0 a1 a2:=by kernel_rfl
def z151.C:Ctx where
 T:=tab
 draws:=λf i=>match f,i with|78,1=>([(6,[(2,0)],0),(7,[(5,1)],1),(8,[(3,0)],0),(9,[(7,3)],4),(10,[(6,2),(8,4)],15),(11,[(3,0)],0),(12,[(10,6)],32),(13,[(2,0)],0),(14,[(12,8)],159),(15,[(11,7),(13,9)],511),(16,[(9,5),(14,10)],1023),(17,[(2,0)],0),(18,[(16,12)],4095),(19,[(3,0)],0),(20,[(18,14)],16383),(21,[(17,13),(19,15)],32767),(22,[(15,11),(20,16)],65535),(0,[(4,0),(21,17)],131071)],4194272)|_,_=>([],0)
 call:=λg args=>match g with|157=>z74.pack args|156=>z54.pack args|24=>z31.pack args|130=>z73.pack args|164=>z40.pack args|163=>z70.pack args|_=>none
def z151.dec:V->Option ((List Int)×Bool×(List Int))
 |(.agg [(.ints _ .u64 x0),(.bool x1),(.ints _ .u64 x2)])=>some (x0,x1,x2)
 |_=>none
theorem z151.link (a0:List Int) (a1:Bool) (a2 a3:List Int) (a4:Bool) (a5:List Int):z151.C.evTop 78 (ifun Tryz.f78) [(.agg [(.ints false .u64 a0),(.bool a1),(.ints false .u64 a2)]),(.agg [(.ints false .u64 a3),(.bool a4),(.ints false .u64 a5)])] z151.dec=z151.F a0 a1 a2 a3 a4 a5:=by kernel_rfl
def z175.C:Ctx where
 T:=tab
 draws:=λf i=>match f,i with|67,1=>([(6,[(2,0)],0),(7,[(5,1)],1),(8,[(3,0)],0),(9,[(7,3)],4),(10,[(6,2),(8,4)],15),(11,[(3,0)],0),(12,[(10,6)],32),(13,[(2,0)],0),(14,[(12,8)],159),(15,[(11,7),(13,9)],511),(16,[(9,5),(14,10)],1023),(5,[(15,11)],2047)],65520)|_,_=>([],0)
 call:=λg args=>match g with|157=>z74.pack args|156=>z54.pack args|74=>z34.pack args|_=>none
def z175.dec:V->Option (Int)
 |(.int .i64 x0)=>some x0
 |_=>none
theorem z175.link (a0:List Int) (a1:Bool) (a2 a3:List Int) (a4:Bool) (a5:List Int):z175.C.evTop 67 (ifun Tryz.f67) [(.agg [(.ints false .u64 a0),(.bool a1),(.ints false .u64 a2)]),(.agg [(.ints false .u64 a3),(.bool a4),(.ints false .u64 a5)])] z175.dec=z175.F a0 a1 a2 a3 a4 a5:=by kernel_rfl
def z188.C:Ctx where
 T:=tab
 call:=λg args=>match g with|38=>z76.pack args|69=>z48.pack args|176=>z71.pack args|89=>z152.pack args|_=>none
def z188.dec:V->Option ((List Int)×Bool×(List Int)×Int)
 |(.tup [(.agg [(.ints _ .u64 x0),(.bool x1),(.ints _ .u64 x2)]),(.int .i64 x3)])=>some (x0,x1,x2,x3)
 |_=>none
theorem z188.link (a0:List UInt8) (a1:Int):z188.C.evTop 88 (ifun Tryz.f88) [(.str a0),(.int .i64 a1)] z188.dec=z188.F a0 a1:=by kernel_rfl
def z195.C:Ctx where
 T:=tab
 call:=λg args=>match g with|36=>z46.pack args|87=>z193.pack args|236=>z194.pack args|_=>none
def z195.dec:V->Option ((List Int)×Bool×Int)
 |(.tup [(.agg [(.ints _ .u64 x0),(.bool x1)]),(.int .i64 x2)])=>some (x0,x1,x2)
 |_=>none
theorem z195.link (a0 a1:List UInt8) (a2 a3 a4 a5 a6 a7 a8 a9:Int):z195.C.evTop 173 (ifun Tryz.f173) [(.agg [(.str a0),(.str a1),(.int .i64 a2),(.int .i64 a3),(.int .i64 a4),(.int .i64 a5),(.int .i64 a6),(.int .i64 a7),(.int .i64 a8),(.int .i64 a9)])] z195.dec=z195.F a0 a1 a2 a3 a4 a5 a6 a7 a8 a9:=by kernel_rfl
def z199.C:Ctx where
 T:=tab
def z199.dec:V->Option ((List UInt8)×(List UInt8)×Int×Int×Int×Int×Int×Int×Int×Int)
 |(.agg [(.str x0),(.str x1),(.int .i64 x2),(.int .i64 x3),(.int .i64 x4),(.int .i64 x5),(.int .i64 x6),(.int .i64 x7),(.int .i64 x8),(.int .i64 x9)])=>some (x0,x1,x2,x3,x4,x5,x6,x7,x8,x9)
 |_=>none
theorem z199.link:z199.C.evTop 169 (ifun Tryz.f169) [] z199.dec=z199.F:=by kernel_rfl
end
noncomputable section
def z5.l2sh:Env×Store:=((.ints false .i64 []) :: .undef::(.str ([]:List UInt8))::(.str ([]:List UInt8))::(.int .i64 0)::(.int .i64 0)::(.int .i64 0)::un 37 [],[])
def z5.l2out0 (a:List Int) (b c:List UInt8) (d e g:Int) (o:(List UInt8)×Int×Int):X×Env×Store:=((.exit 2),Qb z5.l2sh [.li a,.s b,.s o.1,.i d,.i o.2.1,.i o.2.2])
def z5.l2pack:List Leaf->Option LPack
 |[.li a,.s b,.s c,.i d,.i e,.i g]=>some (.one _ (z5.l2 (c,e,g)) (z5.l2out0 a b c d e g))
 |_=>none
def z5.l0sh:Env×Store:=((.ints false .i64 []) :: .undef::(.str ([]:List UInt8))::(.str ([]:List UInt8))::(.int .i64 0)::un 39 [],[])
def z5.l0out0 (a:List Int) (b c:List UInt8) (d:Int) (o:(List UInt8)×Int):X×Env×Store:=((.exit 0),Qb z5.l0sh [.li a,.s b,.s o.1,.i o.2])
def z5.l0pack:List Leaf->Option LPack
 |[.li a,.s b,.s c,.i d]=>some (.one _ (z5.l0 a (c,d)) (z5.l0out0 a b c d))
 |_=>none
def z5.l4sh:Env×Store:=(.undef :: .undef::(.str ([]:List UInt8))::(.str ([]:List UInt8))::un 3 ((.int .i64 0)::un 36 []),[])
def z5.l4out0 (a b:List UInt8) (c o:Int):X×Env×Store:=((.exit 4),Qb z5.l4sh [.s a,.s b,.i o])
def z5.l4pack:List Leaf->Option LPack
 |[.s a,.s b,.i c]=>some (.one _ (z5.l4 b c) (z5.l4out0 a b c))
 |_=>none
def z5.C:Ctx where
 T:=tab
 keep:=λf i=>match f,i with|102,2=>([0,2,3,4,5,6],[],[])|102,0=>([0,2,3,4],[],[])|102,4=>([2,3,7],[],[])|_,_=>([],[],[])
 keepE:=λf i=>match f,i with|102,2=>([0,2,3,4,5,6],[],[])|102,0=>([0,2,3,4],[],[])|102,4=>([2,3,7],[],[])|_,_=>([],[],[])
 keepR:=λf i=>match f,i with|102,2=>([2],[],[2])|102,0=>([2],[],[2])|102,4=>([2],[],[2])|_,_=>([],[],[])
 L:=λf i b st=>match f,i,b with|102,2,0=>(matchSt z5.l2sh st).bind z5.l2pack|102,0,0=>(matchSt z5.l0sh st).bind z5.l0pack|102,4,0=>(matchSt z5.l4sh st).bind z5.l4pack|_,_,_=>none
def z5.dec:V->Option ((List UInt8))
 |(.str x0)=>some x0
 |_=>none
theorem z5.l2_link (R:Type) (k:Env×Store->Option R) (d:X×Env×Store->Option R) (a:List Int) (b c:List UInt8) (e g h:Int) :
  z5.C.loopP 102 2 (Qf 2 (ifun Tryz.f102).body) 0 k d (Qb z5.l2sh [.li a,.s b,.s c,.i e,.i g,.i h]) =
  z5.l2P (λx'=>k (Qb z5.l2sh [.li a,.s b,.s x'.1,.i e,.i x'.2.1,.i x'.2.2])) (λo=>d (z5.l2out0 a b c e g h o)) (c,g,h):=by kernel_rfl
theorem z5.l0_link (R:Type) (k:Env×Store->Option R) (d:X×Env×Store->Option R) (a:List Int) (b c:List UInt8) (e:Int) :
  z5.C.loopP 102 0 (Qf 0 (ifun Tryz.f102).body) 0 k d (Qb z5.l0sh [.li a,.s b,.s c,.i e]) =
  z5.l0P a (λx'=>k (Qb z5.l0sh [.li a,.s b,.s x'.1,.i x'.2])) (λo=>d (z5.l0out0 a b c e o)) (c,e):=by kernel_rfl
theorem z5.l4_link (R:Type) (k:Env×Store->Option R) (d:X×Env×Store->Option R) (a b:List UInt8) (c:Int) :
  z5.C.loopP 102 4 (Qf 4 (ifun Tryz.f102).body) 0 k d (Qb z5.l4sh [.s a,.s b,.i c]) =
  z5.l4P b (λx'=>k (Qb z5.l4sh [.s a,.s b,.i x'])) (λo=>d (z5.l4out0 a b c o)) c:=by kernel_rfl
theorem z5.link (a0:List Int):z5.C.evTop 102 (ifun Tryz.f102) [(.ints false .i64 a0)] z5.dec=z5.F a0:=by kernel_rfl
def z8.l0sh:Env×Store:=((.int .i64 0) :: .undef::(.sref 0 0)::(.sref 1 0)::un 10 [],[(.arr 0 true 3 (.ints false .i64 [])),(.arr 0 true 3 (.ints false .i64 []))])
def z8.l0out0 (a:Int) (b c:List Int) (o:Int×(List Int)):X×Env×Store:=((.exit 0),Qb z8.l0sh [.i o.1,.li b,.li o.2])
def z8.l0pack:List Leaf->Option LPack
 |[.i a,.li b,.li c]=>some (.one _ (z8.l0 (a,c)) (z8.l0out0 a b c))
 |_=>none
def z8.C:Ctx where
 T:=tab
 keep:=λf i=>match f,i with|152,0=>([0,2,3],[0,1],[])|_,_=>([],[],[])
 keepE:=λf i=>match f,i with|152,0=>([0,2,3],[0,1],[])|_,_=>([],[],[])
 keepR:=λf i=>match f,i with|152,0=>([2],[0,1],[2])|_,_=>([],[],[])
 L:=λf i b st=>match f,i,b with|152,0,0=>(matchSt z8.l0sh st).bind z8.l0pack|_,_,_=>none
def z8.dec:V->Option ((List Int))
 |(.ints _ .i64 x0)=>some x0
 |_=>none
theorem z8.l0_link (R:Type) (k:Env×Store->Option R) (d:X×Env×Store->Option R) (a:Int) (b c:List Int) :
  z8.C.loopP 152 0 (Qf 0 (ifun Tryz.f152).body) 2 k d (Qb z8.l0sh [.i a,.li b,.li c]) =
  z8.l0P (λx'=>k (Qb z8.l0sh [.i x'.1,.li b,.li x'.2])) (λo=>d (z8.l0out0 a b c o)) (a,c):=by kernel_rfl
theorem z8.link (a0:Int):z8.C.evTop 152 (ifun Tryz.f152) [(.int .i64 a0)] z8.dec=z8.F a0:=by kernel_rfl
def z11.C:Ctx where
 T:=tab
 call:=λg args=>match g with|219=>z10.pack args|_=>none
def z11.dec:V->Option (Int)
 |(.int .i64 x0)=>some x0
 |_=>none
theorem z11.link (a0 a1:Int):z11.C.evTop 153 (ifun Tryz.f153) [(.int .i64 a0),(.int .i64 a1)] z11.dec=z11.F a0 a1:=by kernel_rfl
def z92.l0sh:Env×Store:=(.undef::(.int .i64 0)::(.int .i64 0)::(.ptr 0 0) :: .undef :: .undef::(.sref 1 0)::(.int .i64 0) :: .undef::(.sref 2 0)::(.int .i64 0)::un 39 [],[(.cells 41 [(.int .i64 0),(.int .i64 0),(.int .i64 0)]),(.arr 0 true 41 (.recs false 3 [])),(.arr 0 true 41 (.recs false 3 []))])
def z92.l0so1:Env×Store:=(un 6 ((.recs false 3 [])::(.int .i64 0)::un 42 []),[(.cells 41 [(.int .i64 0),(.int .i64 0),(.int .i64 0)]),(.arr 0 true 41 (.recs false 3 [])),(.arr 0 true 41 (.recs false 3 []))])
def z92.l0out0 (a b c d e g h:Int) (j k:List (List V)) (o:Int×(List (List V))):X×Env×Store:=((.exit 0),Qb z92.l0sh [.i a,.i b,.i c,.i o.1,.i e,.i g,.i h,.lr j,.lr o.2])
def z92.l0out1 (a b c d e g h:Int) (j k:List (List V)) (o:(List (List V))×Int×(List (List V))):X×Env×Store:=(.ret,Qb z92.l0so1 [.lr o.1,.i o.2.1,.i e,.i g,.i h,.lr j,.lr o.2.2])
def z92.l0pack:List Leaf->Option LPack
 |[.i a,.i b,.i c,.i d,.i e,.i g,.i h,.lr j,.lr k]=>some (.two _ _ (z92.l0 a b e g h (d,k)) (z92.l0out0 a b c d e g h j k) (z92.l0out1 a b c d e g h j k))
 |_=>none
def z92.C:Ctx where
 T:=tab
 call:=λg args=>match g with|142=>z89.pack args|134=>z90.pack args|_=>none
 keep:=λf i=>match f,i with|138,0=>([1,2,3,6,7,9,10],[0,1,2],[])|_,_=>([],[],[])
 keepE:=λf i=>match f,i with|138,0=>([1,2,3,6,7,9,10],[0,1,2],[])|_,_=>([],[],[])
 keepR:=λf i=>match f,i with|138,0=>([6,7],[0,1,2],[6,7])|_,_=>([],[],[])
 L:=λf i b st=>match f,i,b with|138,0,0=>(matchSt z92.l0sh st).bind z92.l0pack|_,_,_=>none
def z92.dec:V->Option ((List (List V))×Int)
 |(.tup [(.recs _ 3 x0),(.int .i64 x1)])=>some (x0,x1)
 |_=>none
theorem z92.l0_link (R:Type) (k:Env×Store->Option R) (d:X×Env×Store->Option R) (a b c e g h j:Int) (m n:List (List V)) :
  z92.C.loopP 138 0 (Qf 0 (ifun Tryz.f138).body) 3 k d (Qb z92.l0sh [.i a,.i b,.i c,.i e,.i g,.i h,.i j,.lr m,.lr n]) =
  z92.l0P a b g h j (λx'=>k (Qb z92.l0sh [.i a,.i b,.i c,.i x'.1,.i g,.i h,.i j,.lr m,.lr x'.2])) (λo=>match o with | .inl o=>d (z92.l0out0 a b c e g h j m n o) | .inr o=>d (z92.l0out1 a b c e g h j m n o)) (e,n):=by kernel_rfl
theorem z92.link (a0 a1 a2 a3 a4:Int):z92.C.evTop 138 (ifun Tryz.f138) [(.agg [(.int .i64 a0),(.int .i64 a1),(.int .i64 a2)]),(.int .i64 a3),(.int .i64 a4)] z92.dec=z92.F a0 a1 a2 a3 a4:=by kernel_rfl
def z97.C:Ctx where
 T:=tab
def z97.dec:V->Option (Int)
 |(.int .i64 x0)=>some x0
 |_=>none
theorem z97.link (a0:Int):z97.C.evTop 211 (ifun Tryz.f211) [(.int .i64 a0)] z97.dec=z97.F a0:=by kernel_rfl
def z152.C:Ctx where
 T:=tab
 draws:=λf i=>match f,i with|89,1=>([(6,[(2,0)],0),(7,[(5,1)],1),(8,[(3,0)],0),(9,[(7,3)],4),(10,[(6,2),(8,4)],15),(11,[(2,0)],0),(12,[(10,6)],63),(13,[(3,0)],0),(14,[(12,8)],255),(15,[(11,7),(13,9)],511),(16,[(9,5),(14,10)],1023),(0,[(4,0),(15,11)],2047)],65504)|_,_=>([],0)
 call:=λg args=>match g with|156=>z54.pack args|130=>z73.pack args|164=>z40.pack args|163=>z70.pack args|_=>none
def z152.dec:V->Option ((List Int)×Bool×(List Int))
 |(.agg [(.ints _ .u64 x0),(.bool x1),(.ints _ .u64 x2)])=>some (x0,x1,x2)
 |_=>none
theorem z152.link (a0:List Int) (a1:Bool) (a2 a3:List Int) (a4:Bool) (a5:List Int):z152.C.evTop 89 (ifun Tryz.f89) [(.agg [(.ints false .u64 a0),(.bool a1),(.ints false .u64 a2)]),(.agg [(.ints false .u64 a3),(.bool a4),(.ints false .u64 a5)])] z152.dec=z152.F a0 a1 a2 a3 a4 a5:=by kernel_rfl
def z154.C:Ctx where
 T:=tab
 call:=λg args=>match g with|230=>z153.pack args|_=>none
def z154.dec:V->Option ((List Int)×Bool×(List Int))
 |(.agg [(.ints _ .u64 x0),(.bool x1),(.ints _ .u64 x2)])=>some (x0,x1,x2)
 |_=>none
theorem z154.link (a0 a1 a2 a3 a4 a5:Int):z154.C.evTop 229 (ifun Tryz.f229) [(.agg [(.int .i64 a0),(.int .i64 a1),(.int .i64 a2)]),(.agg [(.int .i64 a3),(.int .i64 a4),(.int .i64 a5)])] z154.dec=z154.F a0 a1 a2 a3 a4 a5:=by kernel_rfl
def z156.C:Ctx where
 T:=tab
 call:=λg args=>match g with|65=>z155.pack args|_=>none
def z156.dec:V->Option (Int)
 |(.int .i64 x0)=>some x0
 |_=>none
theorem z156.link (a0 a1 a2 a3 a4 a5:Int):z156.C.evTop 231 (ifun Tryz.f231) [(.agg [(.int .i64 a0),(.int .i64 a1),(.int .i64 a2)]),(.agg [(.int .i64 a3),(.int .i64 a4),(.int .i64 a5)])] z156.dec=z156.F a0 a1 a2 a3 a4 a5:=by kernel_rfl
def z157.C:Ctx where
 T:=tab
 call:=λg args=>match g with|259=>z87.pack args|_=>none
def z157.dec:V->Option (Int)
 |(.int .i64 x0)=>some x0
 |_=>none
theorem z157.link (a0:Int):z157.C.evTop 269 (ifun Tryz.f269) [(.int .i64 a0)] z157.dec=z157.F a0:=by kernel_rfl
def z158.C:Ctx where
 T:=tab
 draws:=λf i=>match f,i with|232,2=>([(13,[(2,0)],0),(14,[(3,0)],0),(15,[(12,1),(13,2)],3),(16,[(2,0)],0),(17,[(15,4)],8),(18,[(16,5)],31),(19,[(14,3),(17,6)],63),(0,[(4,0),(18,7)],127)],520192)|232,5=>([(31,[(5,0)],0),(32,[(2,0)],0),(33,[(31,2)],2),(34,[(32,3)],6),(35,[(30,1),(33,4)],15),(36,[(3,0)],0),(37,[(35,6)],32),(38,[(2,0)],0),(39,[(37,8)],128),(40,[(36,7),(38,9)],480),(41,[(39,10)],992),(42,[(40,11)],2047),(43,[(34,5),(41,12)],4095),(44,[(6,0)],0),(45,[(3,0)],0),(46,[(44,15)],16384),(47,[(45,16)],57343),(48,[(43,14),(46,17)],131071),(49,[(42,13),(47,18)],262143),(0,[(4,0),(48,19)],524287)],562948879679488)|_,_=>([],0)
 call:=λg args=>match g with|231=>z156.pack args|269=>z157.pack args|230=>z153.pack args|78=>z151.pack args|_=>none
def z158.dec:V->Option ((List Int)×Bool×(List Int))
 |(.agg [(.ints _ .u64 x0),(.bool x1),(.ints _ .u64 x2)])=>some (x0,x1,x2)
 |_=>none
theorem z158.link (a0 a1 a2 a3 a4 a5:Int):z158.C.evTop 232 (ifun Tryz.f232) [(.agg [(.int .i64 a0),(.int .i64 a1),(.int .i64 a2)]),(.agg [(.int .i64 a3),(.int .i64 a4),(.int .i64 a5)])] z158.dec=z158.F a0 a1 a2 a3 a4 a5:=by kernel_rfl
def z185.C:Ctx where
 T:=tab
 draws:=λf i=>match f,i with|79,8=>([(40,[(4,0)],0),(41,[(39,1)],1),(42,[(13,0)],0),(43,[(40,2),(41,3)],7),(44,[(11,0)],0),(45,[(42,4),(43,5)],31),(46,[(5,0)],0),(47,[(45,7)],64),(48,[(44,6),(46,8)],255),(49,[(47,9)],511),(50,[(47,9)],511),(0,[(8,0),(48,10)],2047),(10,[(49,11)],4095)],1125350151029248)|_,_=>([],0)
 call:=λg args=>match g with|44=>z91.pack args|165=>z159.pack args|38=>z76.pack args|68=>z47.pack args|89=>z152.pack args|150=>z150.pack args|_=>none
def z185.dec:V->Option ((List Int)×Bool×Int)
 |(.tup [(.agg [(.ints _ .u64 x0),(.bool x1)]),(.int .i64 x2)])=>some (x0,x1,x2)
 |_=>none
theorem z185.link (a0:List Int) (a1:Bool) (a2 a3:List UInt8) (a4 a5 a6 a7 a8 a9 a10 a11 a12 a13 a14 a15 a16 a17:Int):z185.C.evTop 79 (ifun Tryz.f79) [(.agg [(.ints false .u64 a0),(.bool a1)]),(.agg [(.str a2),(.str a3),(.int .i64 a4),(.int .i64 a5),(.int .i64 a6),(.int .i64 a7),(.int .i64 a8),(.int .i64 a9),(.int .i64 a10),(.int .i64 a11)]),(.agg [(.int .i64 a12),(.int .i64 a13),(.int .i64 a14)]),(.agg [(.int .i64 a15),(.int .i64 a16),(.int .i64 a17)])] z185.dec=z185.F a0 a1 a2 a3 a4 a5 a6 a7 a8 a9 a10 a11 a12 a13 a14 a15 a16 a17:=by kernel_rfl
def z187.l0sh:Env×Store:=(.undef :: .undef::(.ptr 0 0)::(.ptr 1 0)::(.int .i64 0)::(.ptr 2 0)::(.ptr 3 0)::un 5 ((.recs false 8 [])::(.int .i64 0)::(.int .i64 0)::un 34 []),[(.cells 39 [(.ints false .u64 []),(.bool false)]),(.cells 39 [(.ints false .u64 []),(.bool false)]),(.cells 39 [(.ints false .u64 []),(.bool false)]),(.cells 39 [(.ints false .u64 []),(.bool false)])])
def z187.l0so1:Env×Store:=(.undef :: .undef::(.ptr 0 0)::(.ptr 1 0)::(.int .i64 0)::un 44 [],[(.cells 39 [(.ints false .u64 []),(.bool false)]),(.cells 39 [(.ints false .u64 []),(.bool false)]),(.cells 39 [(.ints false .u64 []),(.bool false)]),(.cells 39 [(.ints false .u64 []),(.bool false)])])
def z187.l0out0 (a:Int) (c:List (List V)) (d e:Int) (g:List Int) (h:Bool) (j:List Int) (k:Bool) (m:List Int) (n:Bool) (p:List Int) (q:Bool) (o:Int×(List Int)×Bool×(List Int)×Bool):X×Env×Store:=((.exit 0),Qb z187.l0sh [.i a,.lr c,.i d,.i o.1,.li g,.b h,.li j,.b k,.li o.2.1,.b o.2.2.1,.li o.2.2.2.1,.b o.2.2.2.2])
def z187.l0out1 (a:Int) (c:List (List V)) (d e:Int) (g:List Int) (h:Bool) (j:List Int) (k:Bool) (m:List Int) (n:Bool) (p:List Int) (q:Bool) (o:Int×(List Int)×Bool×(List Int)×Bool×(List Int)×Bool×(List Int)×Bool):X×Env×Store:=(.ret,Qb z187.l0so1 [.i o.1,.li o.2.1,.b o.2.2.1,.li o.2.2.2.1,.b o.2.2.2.2.1,.li o.2.2.2.2.2.1,.b o.2.2.2.2.2.2.1,.li o.2.2.2.2.2.2.2.1,.b o.2.2.2.2.2.2.2.2])
def z187.l0pack:List Leaf->Option LPack
 |[.i a,.lr c,.i d,.i e,.li g,.b h,.li j,.b k,.li m,.b n,.li o,.b p]=>some (.two _ _ (z187.l0 c d (e,m,n,o,p)) (z187.l0out0 a c d e g h j k m n o p) (z187.l0out1 a c d e g h j k m n o p))
 |_=>none
def z187.C:Ctx where
 T:=tab
 draws:=λf i=>match f,i with|84,11=>([(41,[(5,0)],0),(42,[(9,0)],0),(43,[(40,1),(41,2)],3),(44,[(6,0)],0),(45,[(11,0)],0),(46,[(43,4),(44,5)],31),(0,[(5,0),(42,3)],63),(0,[(6,0),(45,6)],127)],69269232549888)|84,13=>([(48,[(5,0)],0),(49,[(6,0)],0),(0,[(2,0),(47,1)],1),(0,[(3,0),(48,2)],7),(5,[],15)],422212465066000)|_,_=>([],0)
 call:=λg args=>match g with|36=>z46.pack args|24=>z31.pack args|_=>none
 keep:=λf i=>match f,i with|84,0=>([2,3,4,5,6,12,13,14],[0,1,2,3],[])|_,_=>([],[],[])
 keepE:=λf i=>match f,i with|84,0=>([2,3,4,5,6,12,13,14],[0,1,2,3],[])|_,_=>([],[],[])
 keepR:=λf i=>match f,i with|84,0=>([2,3,4],[0,1,2,3],[2,3,4])|_,_=>([],[],[])
 L:=λf i b st=>match f,i,b with|84,0,0=>(matchSt z187.l0sh st).bind z187.l0pack|_,_,_=>none
def z187.dec:V->Option ((List Int)×Bool×(List Int)×Bool×Int)
 |(.tup [(.agg [(.ints _ .u64 x0),(.bool x1)]),(.agg [(.ints _ .u64 x2),(.bool x3)]),(.int .i64 x4)])=>some (x0,x1,x2,x3,x4)
 |_=>none
theorem z187.l0_link (R:Type) (k:Env×Store->Option R) (d:X×Env×Store->Option R) (a:Int) (c:List (List V)) (e g:Int) (h:List Int) (j:Bool) (m:List Int) (n:Bool) (p:List Int) (q:Bool) (r:List Int) (s:Bool) :
  z187.C.loopP 84 0 (Qf 0 (ifun Tryz.f84).body) 4 k d (Qb z187.l0sh [.i a,.lr c,.i e,.i g,.li h,.b j,.li m,.b n,.li p,.b q,.li r,.b s]) =
  z187.l0P c e (λx'=>k (Qb z187.l0sh [.i a,.lr c,.i e,.i x'.1,.li h,.b j,.li m,.b n,.li x'.2.1,.b x'.2.2.1,.li x'.2.2.2.1,.b x'.2.2.2.2])) (λo=>match o with | .inl o=>d (z187.l0out0 a c e g h j m n p q r s o) | .inr o=>d (z187.l0out1 a c e g h j m n p q r s o)) (g,p,q,r,s):=by kernel_rfl
theorem z187.link (a0:List (List V)):z187.C.evTop 84 (ifun Tryz.f84) [(.recs false 8 a0)] z187.dec=z187.F a0:=by kernel_rfl
def z189.C:Ctx where
 T:=tab
 call:=λg args=>match g with|104=>z19.pack args|280=>z61.pack args|_=>none
def z189.dec:V->Option (Int)
 |(.int .i64 x0)=>some x0
 |_=>none
theorem z189.link (a0:List Int):z189.C.evTop 270 (ifun Tryz.f270) [(.agg [(.ints false .u64 a0)])] z189.dec=z189.F a0:=by kernel_rfl
def z190.C:Ctx where
 T:=tab
 call:=λg args=>match g with|270=>z189.pack args|247=>z43.pack args|_=>none
def z190.dec:V->Option ((List Int)×Int)
 |(.tup [(.agg [(.ints _ .u64 x0)]),(.int .i64 x1)])=>some (x0,x1)
 |_=>none
theorem z190.link (a0:List Int) (a1:Int):z190.C.evTop 238 (ifun Tryz.f238) [(.agg [(.ints false .u64 a0)]),(.int .i64 a1)] z190.dec=z190.F a0 a1:=by kernel_rfl
def z192.C:Ctx where
 T:=tab
 draws:=λf i=>match f,i with|175,6=>([(35,[(3,0)],0),(36,[(2,0)],0),(37,[(35,2)],2),(38,[(36,3)],6),(39,[(34,1),(37,4)],15),(40,[(38,5)],31),(41,[(38,5)],31),(0,[(6,0),(39,6)],127),(8,[(40,7)],255)],2181843386496)|175,8=>([(44,[(4,0)],0),(45,[(43,1)],1),(46,[(44,2)],3),(47,[(8,0)],0),(48,[(45,3),(46,4)],15),(10,[],0),(0,[(9,6),(47,5)],63)],272678883688960)|175,14=>([(74,[(3,0)],0),(75,[(73,1)],1),(76,[(4,0)],0),(77,[(75,3)],7),(78,[(74,2),(76,4)],15),(79,[(10,0)],0),(80,[(78,6)],63),(81,[(77,5),(79,7)],127),(17,[],0),(0,[(16,9),(80,8)],511)],2408406906263519059050496)|175,15=>([(82,[(16,0)],0),(83,[(3,0)],0),(84,[(82,2)],2),(85,[(8,0)],0),(86,[(83,3),(84,4)],14),(87,[(14,0)],0),(88,[(85,5),(86,6)],62),(89,[(87,7)],126),(90,[(81,1),(88,8)],255),(91,[(89,9)],511),(92,[(89,9)],511),(0,[(6,0),(90,10)],2047),(8,[(91,11)],4095)],4949342305502291841247084672)|_,_=>([],0)
 call:=λg args=>match g with|71=>z147.pack args|69=>z48.pack args|68=>z47.pack args|124=>z75.pack args|130=>z73.pack args|216=>z148.pack args|92=>z59.pack args|99=>z24.pack args|238=>z190.pack args|100=>z30.pack args|156=>z54.pack args|239=>z191.pack args|164=>z40.pack args|176=>z71.pack args|_=>none
def z192.dec:V->Option ((List Int)×Bool×(List Int)×Int)
 |(.tup [(.agg [(.ints _ .u64 x0),(.bool x1),(.ints _ .u64 x2)]),(.int .i64 x3)])=>some (x0,x1,x2,x3)
 |_=>none
theorem z192.link (a0:List Int) (a1:Bool) (a2 a3:List Int) (a4:Bool) (a5:List Int) (a6:Int):z192.C.evTop 175 (ifun Tryz.f175) [(.agg [(.ints false .u64 a0),(.bool a1),(.ints false .u64 a2)]),(.agg [(.ints false .u64 a3),(.bool a4),(.ints false .u64 a5)]),(.int .i64 a6)] z192.dec=z192.F a0 a1 a2 a3 a4 a5 a6:=by kernel_rfl
def z194.C:Ctx where
 T:=tab
 draws:=λf i=>match f,i with|236,5=>([(25,[(3,0)],0),(26,[(1,0)],0),(27,[(25,2)],2),(28,[(24,1),(26,3)],7),(24,[(27,4)],15),(29,[(23,5)],31),(30,[(23,5)],31),(9,[],0),(0,[(8,8),(28,6)],191),(10,[(29,7)],511)],1065353984)|_,_=>([],0)
 call:=λg args=>match g with|28=>z20.pack args|69=>z48.pack args|176=>z71.pack args|150=>z150.pack args|_=>none
def z194.dec:V->Option ((List Int)×Bool×Int)
 |(.tup [(.agg [(.ints _ .u64 x0),(.bool x1)]),(.int .i64 x2)])=>some (x0,x1,x2)
 |_=>none
theorem z194.link (a0:List Int) (a1:Bool) (a2 a3:Int):z194.C.evTop 236 (ifun Tryz.f236) [(.agg [(.ints false .u64 a0),(.bool a1)]),(.int .i64 a2),(.int .i64 a3)] z194.dec=z194.F a0 a1 a2 a3:=by kernel_rfl
def z196.C:Ctx where
 T:=tab
 call:=λg args=>match g with|74=>z34.pack args|_=>none
 meth:=λt m=>if t=39/\m = "Cmp" then some 74 else none
def z196.dec:V->Option ((List Int)×Bool)
 |(.agg [(.ints _ .u64 x0),(.bool x1)])=>some (x0,x1)
 |_=>none
theorem z196.link (a0:List Int) (a1:Bool) (a2:List Int) (a3:Bool):z196.C.evTop 237 (ifun Tryz.f237) [(.agg [(.ints false .u64 a0),(.bool a1)]),(.agg [(.ints false .u64 a2),(.bool a3)])] z196.dec=z196.F a0 a1 a2 a3:=by kernel_rfl
def z198.l0sh:Env×Store:=(.undef::(.ptr 0 0)::(.sref 1 0)::(.int .i64 0)::(.recs false 6 []) :: .undef::(.ptr 2 0)::(.ptr 3 0) :: .undef::(.sref 4 0)::un 28 ((.recs false 6 [])::(.int .i64 0)::(.int .i64 0)::un 53 []),[(.cells 78 [(.str ([]:List UInt8)),(.str ([]:List UInt8)),(.int .i64 0),(.int .i64 0),(.int .i64 0),(.int .i64 0),(.int .i64 0),(.int .i64 0),(.int .i64 0),(.int .i64 0)]),(.arr 0 true 166 (.recs false 8 [])),(.cells 39 [(.ints false .u64 []),(.bool false)]),(.cells 39 [(.ints false .u64 []),(.bool false)]),(.arr 0 true 166 (.recs false 8 []))])
def z198.l0so1:Env×Store:=(.undef :: .undef::(.recs false 8 [])::(.int .i64 0)::un 90 [],[(.cells 78 [(.str ([]:List UInt8)),(.str ([]:List UInt8)),(.int .i64 0),(.int .i64 0),(.int .i64 0),(.int .i64 0),(.int .i64 0),(.int .i64 0),(.int .i64 0),(.int .i64 0)]),(.arr 0 true 166 (.recs false 8 [])),(.cells 39 [(.ints false .u64 []),(.bool false)]),(.cells 39 [(.ints false .u64 []),(.bool false)]),(.arr 0 true 166 (.recs false 8 []))])
def z198.l0out0 (a:Int) (c d:List (List V)) (e g:Int) (h j:List UInt8) (k m n p q r t u:Int) (v:List (List V)) (w:List Int) (x:Bool) (y:List Int) (z:Bool) (A:List (List V)) (o:Int×(List Int)×Bool×(List (List V))):X×Env×Store:=((.exit 0),Qb z198.l0sh [.i a,.lr c,.lr d,.i e,.i o.1,.s h,.s j,.i k,.i m,.i n,.i p,.i q,.i r,.i t,.i u,.lr v,.li w,.b x,.li o.2.1,.b o.2.2.1,.lr o.2.2.2])
def z198.l0out1 (a:Int) (c d:List (List V)) (e g:Int) (h j:List UInt8) (k m n p q r t u:Int) (v:List (List V)) (w:List Int) (x:Bool) (y:List Int) (z:Bool) (A:List (List V)) (o:(List (List V))×Int×(List Int)×Bool×(List (List V))):X×Env×Store:=(.ret,Qb z198.l0so1 [.lr o.1,.i o.2.1,.s h,.s j,.i k,.i m,.i n,.i p,.i q,.i r,.i t,.i u,.lr v,.li w,.b x,.li o.2.2.1,.b o.2.2.2.1,.lr o.2.2.2.2])
def z198.l0pack:List Leaf->Option LPack
 |[.i a,.lr c,.lr d,.i e,.i g,.s h,.s j,.i k,.i m,.i n,.i o,.i p,.i q,.i r,.i t,.lr u,.li v,.b w,.li x,.b y,.lr z]=>some (.two _ _ (z198.l0 c d e h j k m n o p q r t v w (g,x,y,z)) (z198.l0out0 a c d e g h j k m n o p q r t u v w x y z) (z198.l0out1 a c d e g h j k m n o p q r t u v w x y z))
 |_=>none
def z198.C:Ctx where
 T:=tab
 draws:=λf i=>match f,i with|86,19=>([(74,[(9,19)],0),(75,[(11,0)],0),(76,[(74,2)],2),(77,[(7,0)],0),(78,[(76,4)],8),(79,[(12,0)],0),(80,[(78,6)],56),(81,[(14,0)],0),(82,[(80,8)],248),(83,[(12,0)],0),(84,[(14,0)],0),(85,[(82,10),(83,11)],2040),(86,[(84,12)],4088),(87,[(15,0)],0),(88,[(86,14)],16376),(89,[(75,3),(77,5),(79,7),(81,9),(85,13),(87,15)],32766),(90,[(88,16)],65534),(91,[(73,1),(89,17)],131071),(10,[(90,18)],262143)],2475870633837794810507821568)|_,_=>([],0)
 call:=λg args=>match g with|49=>z94.pack args|173=>z195.pack args|36=>z46.pack args|79=>z185.pack args|174=>z197.pack args|90=>z33.pack args|25=>z135.pack args|24=>z31.pack args|_=>none
 keep:=λf i=>match f,i with|86,0=>([1,2,3,4,6,7,9,38,39,40],[0,1,2,3,4],[])|_,_=>([],[],[])
 keepE:=λf i=>match f,i with|86,0=>([1,2,3,4,6,7,9,38,39,40],[0,1,2,3,4],[])|_,_=>([],[],[])
 keepR:=λf i=>match f,i with|86,0=>([2,3],[0,1,2,3,4],[2,3])|_,_=>([],[],[])
 L:=λf i b st=>match f,i,b with|86,0,0=>(matchSt z198.l0sh st).bind z198.l0pack|_,_,_=>none
def z198.dec:V->Option ((List (List V))×Int)
 |(.tup [(.recs _ 8 x0),(.int .i64 x1)])=>some (x0,x1)
 |_=>none
theorem z198.l0_link (R:Type) (k:Env×Store->Option R) (d:X×Env×Store->Option R) (a:Int) (c e:List (List V)) (g h:Int) (j m:List UInt8) (n p q r t u v w:Int) (x:List (List V)) (y:List Int) (z:Bool) (A:List Int) (B:Bool) (D:List (List V)) :
  z198.C.loopP 86 0 (Qf 0 (ifun Tryz.f86).body) 5 k d (Qb z198.l0sh [.i a,.lr c,.lr e,.i g,.i h,.s j,.s m,.i n,.i p,.i q,.i r,.i t,.i u,.i v,.i w,.lr x,.li y,.b z,.li A,.b B,.lr D]) =
  z198.l0P c e g j m n p q r t u v w y z (λx'=>k (Qb z198.l0sh [.i a,.lr c,.lr e,.i g,.i x'.1,.s j,.s m,.i n,.i p,.i q,.i r,.i t,.i u,.i v,.i w,.lr x,.li y,.b z,.li x'.2.1,.b x'.2.2.1,.lr x'.2.2.2])) (λo=>match o with | .inl o=>d (z198.l0out0 a c e g h j m n p q r t u v w x y z A B D o) | .inr o=>d (z198.l0out1 a c e g h j m n p q r t u v w x y z A B D o)) (h,A,B,D):=by kernel_rfl
theorem z198.link (a0 a1:List UInt8) (a2 a3 a4 a5 a6 a7 a8 a9:Int):z198.C.evTop 86 (ifun Tryz.f86) [(.agg [(.str a0),(.str a1),(.int .i64 a2),(.int .i64 a3),(.int .i64 a4),(.int .i64 a5),(.int .i64 a6),(.int .i64 a7),(.int .i64 a8),(.int .i64 a9)])] z198.dec=z198.F a0 a1 a2 a3 a4 a5 a6 a7 a8 a9:=by kernel_rfl
end
noncomputable section
def z7.C:Ctx where
 T:=tab
def z7.dec:V->Option ((List Int)×Bool)
 |(.agg [(.ints _ .i64 x0),(.bool x1)])=>some (x0,x1)
 |_=>none
theorem z7.link (a0:List Int) (a1:Bool):z7.C.evTop 113 (ifun Tryz.f113) [(.ints false .i64 a0),(.bool a1)] z7.dec=z7.F a0 a1:=by kernel_rfl
def z12.C:Ctx where
 T:=tab
 call:=λg args=>match g with|153=>z11.pack args|_=>none
def z12.dec:V->Option (Int×Int×Int)
 |(.agg [(.int .i64 x0),(.int .i64 x1),(.int .i64 x2)])=>some (x0,x1,x2)
 |_=>none
theorem z12.link (a0 a1 a2 a3:Int):z12.C.evTop 95 (ifun Tryz.f95) [(.agg [(.int .i64 a0),(.int .i64 a1),(.int .i64 a2)]),(.int .i64 a3)] z12.dec=z12.F a0 a1 a2 a3:=by kernel_rfl
def z13.C:Ctx where
 T:=tab
def z13.dec:V->Option (Int)
 |(.int .i64 x0)=>some x0
 |_=>none
theorem z13.link (a0:List Int) (a1:Int):z13.C.evTop 234 (ifun Tryz.f234) [(.ints false .i64 a0),(.int .i64 a1)] z13.dec=z13.F a0 a1:=by kernel_rfl
def z91.C:Ctx where
 T:=tab
 call:=λg args=>match g with|36=>z46.pack args|28=>z20.pack args|38=>z76.pack args|133=>z85.pack args|134=>z90.pack args|_=>none
def z91.dec:V->Option (Int)
 |(.int .i64 x0)=>some x0
 |_=>none
theorem z91.link (a0 a1:List UInt8) (a2 a3 a4 a5 a6 a7 a8 a9:Int):z91.C.evTop 44 (ifun Tryz.f44) [(.agg [(.str a0),(.str a1),(.int .i64 a2),(.int .i64 a3),(.int .i64 a4),(.int .i64 a5),(.int .i64 a6),(.int .i64 a7),(.int .i64 a8),(.int .i64 a9)])] z91.dec=z91.F a0 a1 a2 a3 a4 a5 a6 a7 a8 a9:=by kernel_rfl
def z93.C:Ctx where
 T:=tab
 call:=λg args=>match g with|44=>z91.pack args|138=>z92.pack args|_=>none
def z93.dec:V->Option ((List (List V))×Int)
 |(.tup [(.recs _ 3 x0),(.int .i64 x1)])=>some (x0,x1)
 |_=>none
theorem z93.link (a0 a1:List UInt8) (a2 a3 a4 a5 a6 a7 a8 a9:Int):z93.C.evTop 48 (ifun Tryz.f48) [(.agg [(.str a0),(.str a1),(.int .i64 a2),(.int .i64 a3),(.int .i64 a4),(.int .i64 a5),(.int .i64 a6),(.int .i64 a7),(.int .i64 a8),(.int .i64 a9)])] z93.dec=z93.F a0 a1 a2 a3 a4 a5 a6 a7 a8 a9:=by kernel_rfl
def z94.l0sh:Env×Store:=(.undef :: .undef::(.sref 1 0)::(.int .i64 0) :: .undef :: .undef::(.sref 2 0)::(.ptr 3 0)::un 12 ((.recs false 3 [])::(.int .i64 0)::(.int .i64 0)::un 12 []),[.dead,(.arr 0 true 109 (.recs false 6 [])),(.arr 0 true 109 (.recs false 6 [])),(.cells 41 [(.int .i64 0),(.int .i64 0),(.int .i64 0)])])
def z94.l0out0 (a:Int) (b:List (List V)) (c d:Int) (e g:List (List V)) (h j k:Int) (o:Int×(List (List V))×Int×Int×Int):X×Env×Store:=((.exit 0),Qb z94.l0sh [.i a,.lr b,.i c,.i o.1,.lr e,.lr o.2.1,.i o.2.2.1,.i o.2.2.2.1,.i o.2.2.2.2])
def z94.l0pack:List Leaf->Option LPack
 |[.i a,.lr b,.i c,.i d,.lr e,.lr g,.i h,.i j,.i k]=>some (.one _ (z94.l0 b c (d,g,h,j,k)) (z94.l0out0 a b c d e g h j k))
 |_=>none
def z94.C:Ctx where
 T:=tab
 call:=λg args=>match g with|48=>z93.pack args|_=>none
 keep:=λf i=>match f,i with|49,0=>([2,3,6,7,20,21,22],[1,2,3],[])|_,_=>([],[],[])
 keepE:=λf i=>match f,i with|49,0=>([2,3,6,7,20,21,22],[1,2,3],[])|_,_=>([],[],[])
 keepR:=λf i=>match f,i with|49,0=>([2,3],[1,2,3],[2,3])|_,_=>([],[],[])
 L:=λf i b st=>match f,i,b with|49,0,0=>(matchSt z94.l0sh st).bind z94.l0pack|_,_,_=>none
def z94.dec:V->Option ((List (List V))×Int)
 |(.tup [(.recs _ 6 x0),(.int .i64 x1)])=>some (x0,x1)
 |_=>none
theorem z94.l0_link (R:Type) (k:Env×Store->Option R) (d:X×Env×Store->Option R) (a:Int) (b:List (List V)) (c e:Int) (g h:List (List V)) (j m n:Int) :
  z94.C.loopP 49 0 (Qf 0 (ifun Tryz.f49).body) 4 k d (Qb z94.l0sh [.i a,.lr b,.i c,.i e,.lr g,.lr h,.i j,.i m,.i n]) =
  z94.l0P b c (λx'=>k (Qb z94.l0sh [.i a,.lr b,.i c,.i x'.1,.lr g,.lr x'.2.1,.i x'.2.2.1,.i x'.2.2.2.1,.i x'.2.2.2.2])) (λo=>d (z94.l0out0 a b c e g h j m n o)) (e,h,j,m,n):=by kernel_rfl
theorem z94.link (a0 a1:List UInt8) (a2 a3 a4 a5 a6 a7 a8 a9:Int):z94.C.evTop 49 (ifun Tryz.f49) [(.agg [(.str a0),(.str a1),(.int .i64 a2),(.int .i64 a3),(.int .i64 a4),(.int .i64 a5),(.int .i64 a6),(.int .i64 a7),(.int .i64 a8),(.int .i64 a9)])] z94.dec=z94.F a0 a1 a2 a3 a4 a5 a6 a7 a8 a9:=by kernel_rfl
def z155.C:Ctx where
 T:=tab
 call:=λg args=>match g with|140=>z98.pack args|_=>none
def z155.dec:V->Option (Int×Int)
 |(.tup [(.int .i64 x0),(.int .i64 x1)])=>some (x0,x1)
 |_=>none
theorem z155.link (a0 a1 a2 a3 a4 a5:Int):z155.C.evTop 65 (ifun Tryz.f65) [(.agg [(.int .i64 a0),(.int .i64 a1),(.int .i64 a2)]),(.agg [(.int .i64 a3),(.int .i64 a4),(.int .i64 a5)])] z155.dec=z155.F a0 a1 a2 a3 a4 a5:=by kernel_rfl
def z159.C:Ctx where
 T:=tab
 call:=λg args=>match g with|228=>z82.pack args|142=>z89.pack args|57=>z96.pack args|229=>z154.pack args|231=>z156.pack args|230=>z153.pack args|232=>z158.pack args|_=>none
def z159.dec:V->Option ((List Int)×Bool×(List Int)×Int)
 |(.tup [(.agg [(.ints _ .u64 x0),(.bool x1),(.ints _ .u64 x2)]),(.int .i64 x3)])=>some (x0,x1,x2,x3)
 |_=>none
theorem z159.link (a0 a1 a2 a3 a4 a5 a6:Int):z159.C.evTop 165 (ifun Tryz.f165) [(.int .i64 a0),(.agg [(.int .i64 a1),(.int .i64 a2),(.int .i64 a3)]),(.agg [(.int .i64 a4),(.int .i64 a5),(.int .i64 a6)])] z159.dec=z159.F a0 a1 a2 a3 a4 a5 a6:=by kernel_rfl
def z191.C:Ctx where
 T:=tab
 call:=λg args=>match g with|91=>z21.pack args|_=>none
def z191.dec:V->Option ((List Int)×Bool)
 |(.agg [(.ints _ .u64 x0),(.bool x1)])=>some (x0,x1)
 |_=>none
theorem z191.link (a0:List Int):z191.C.evTop 239 (ifun Tryz.f239) [(.agg [(.ints false .u64 a0)])] z191.dec=z191.F a0:=by kernel_rfl
def z193.C:Ctx where
 T:=tab
 draws:=λf i=>match f,i with|87,6=>([(31,[(5,0)],0),(32,[(30,1)],1),(33,[(12,0)],0),(34,[(3,0)],0),(35,[(31,2),(32,3),(33,4)],15),(30,[(34,5)],31),(36,[(29,6)],63),(37,[(29,6)],63),(15,[],0),(0,[(14,9),(35,7)],383),(14,[(36,8)],1023)],136902107136)|_,_=>([],0)
 call:=λg args=>match g with|88=>z188.pack args|28=>z20.pack args|68=>z47.pack args|175=>z192.pack args|150=>z150.pack args|_=>none
def z193.dec:V->Option ((List Int)×Bool×Int)
 |(.tup [(.agg [(.ints _ .u64 x0),(.bool x1)]),(.int .i64 x2)])=>some (x0,x1,x2)
 |_=>none
theorem z193.link (a0:List Int) (a1:Bool) (a2:List UInt8) (a3 a4 a5:Int):z193.C.evTop 87 (ifun Tryz.f87) [(.agg [(.ints false .u64 a0),(.bool a1)]),(.str a2),(.int .i64 a3),(.int .i64 a4),(.int .i64 a5)] z193.dec=z193.F a0 a1 a2 a3 a4 a5:=by kernel_rfl
def z197.C:Ctx where
 T:=tab
 call:=λg args=>match g with|90=>z33.pack args|28=>z20.pack args|237=>z196.pack args|_=>none
def z197.dec:V->Option ((List Int)×Bool)
 |(.agg [(.ints _ .u64 x0),(.bool x1)])=>some (x0,x1)
 |_=>none
theorem z197.link (a0:Int) (a1:List Int) (a2:Bool) (a3:List Int) (a4:Bool) (a5:List Int) (a6:Bool):z197.C.evTop 174 (ifun Tryz.f174) [(.int .i64 a0),(.agg [(.ints false .u64 a1),(.bool a2)]),(.agg [(.ints false .u64 a3),(.bool a4)]),(.agg [(.ints false .u64 a5),(.bool a6)])] z197.dec=z197.F a0 a1 a2 a3 a4 a5 a6:=by kernel_rfl
end
noncomputable section
theorem z5.l2_sound (hI:InlOK Tryz.prog z5.C λR=>z5.C.inlK 6):Qh z5.C 6 102 2 0 (Qf 2 (ifun Tryz.f102).body) z5.l2sh z5.l2pack:=by
 refine Qi λls p h=>?_
 unfold z5.l2pack at h;split at h<;>cases h
 rename_i a b c e g j
 exact Qm hI (sh:=z5.l2sh) (so:=z5.l2sh) (F:=λR rec done x=>z5.l2P rec done x) (enc:=λ(x':((List UInt8)×Int×Int))=>Qb z5.l2sh [.li a,.s b,.s x'.1,.i e,.i x'.2.1,.i x'.2.2]) [2,4,5] [2,4,5] (c,g,j) (by kernel_rfl) (by kernel_rfl) (λx=>by kernel_rfl) (λo=>by kernel_rfl) λR k d x'=>z5.l2_link R k d a b (x'.1) e (x'.2.1) (x'.2.2)
theorem z5.l0_sound (hI:InlOK Tryz.prog z5.C λR=>z5.C.inlK 6):Qh z5.C 6 102 0 0 (Qf 0 (ifun Tryz.f102).body) z5.l0sh z5.l0pack:=by
 refine Qi λls p h=>?_
 unfold z5.l0pack at h;split at h<;>cases h
 rename_i a b c e
 exact Qm hI (sh:=z5.l0sh) (so:=z5.l0sh) (F:=λR rec done x=>z5.l0P a rec done x) (enc:=λ(x':((List UInt8)×Int))=>Qb z5.l0sh [.li a,.s b,.s x'.1,.i x'.2]) [2,3] [2,3] (c,e) (by kernel_rfl) (by kernel_rfl) (λx=>by kernel_rfl) (λo=>by kernel_rfl) λR k d x'=>z5.l0_link R k d a b (x'.1) (x'.2)
theorem z5.l4_sound (hI:InlOK Tryz.prog z5.C λR=>z5.C.inlK 6):Qh z5.C 6 102 4 0 (Qf 4 (ifun Tryz.f102).body) z5.l4sh z5.l4pack:=by
 refine Qi λls p h=>?_
 unfold z5.l4pack at h;split at h<;>cases h
 rename_i a b c
 exact Qm hI (sh:=z5.l4sh) (so:=z5.l4sh) (F:=λR rec done x=>z5.l4P b rec done x) (enc:=λ(x':Int)=>Qb z5.l4sh [.s a,.s b,.i x']) [2] [2] c (by kernel_rfl) (by kernel_rfl) (λx=>by kernel_rfl) (λo=>by kernel_rfl) λR k d x'=>z5.l4_link R k d a b (x')
theorem Q1y:Qk (ifun Tryz.f102).body=true:=by kernel_rfl
theorem z5.loopsT (hI:InlOK Tryz.prog z5.C λR=>z5.C.inlK 6):LoopsOK z5.C (λR=>z5.C.inlK 6) 102 0 (ifun Tryz.f102).body:=by
 intro id b hm st p hp
 obtain rfl:=Ql Q1y hm
 unfold z5.C at hp
 simp only at hp
 try split at hp
 all_goals first
  |(simp at hp;done)
  |(exfalso;omega)
  |exact z5.l2_sound hI st p hp
  |exact z5.l0_sound hI st p hp
  |exact z5.l4_sound hI st p hp
theorem z5.sound:Sn z5.pack 102:=by
 intro vs p h;unfold z5.pack at h;split at h<;>cases h
 exact Qo Qd Qe rfl rfl rfl (λg vs p h=>by simp [z5.C] at h) ⟨Tryz.func102,rfl,by kernel_rfl⟩ z5.loopsT rfl (z5.link _) (by intro v r h;unfold z5.dec at h;split at h<;>cases h;exact ⟨rfl,rfl⟩)
theorem z6.sound:Sn z6.pack 26:=by
 intro vs p h;unfold z6.pack at h;split at h<;>cases h
 exact Qg Qd Qe rfl rfl rfl rfl (λg vs p h=>by unfold z6.C at h;simp only at h;split at h;exact z5.sound vs p h;simp at h) ⟨Tryz.func26,rfl,by kernel_rfl⟩ rfl (z6.link _ _) (by intro v r h;unfold z6.dec at h;split at h<;>cases h;exact ⟨rfl,rfl⟩)
theorem z7.sound:Sn z7.pack 113:=by
 intro vs p h;unfold z7.pack at h;split at h<;>cases h
 exact Qg Qd Qe rfl rfl rfl rfl (λg vs p h=>by simp [z7.C] at h) ⟨Tryz.func113,rfl,by kernel_rfl⟩ rfl (z7.link _ _) (by intro v r h;unfold z7.dec at h;split at h<;>cases h;exact ⟨rfl,rfl⟩)
theorem z8.l0_sound (hI:InlOK Tryz.prog z8.C λR=>z8.C.inlK 6):Qh z8.C 6 152 0 0 (Qf 0 (ifun Tryz.f152).body) z8.l0sh z8.l0pack:=by
 refine Qi λls p h=>?_
 unfold z8.l0pack at h;split at h<;>cases h
 rename_i a b c
 exact Qm hI (sh:=z8.l0sh) (so:=z8.l0sh) (F:=λR rec done x=>z8.l0P rec done x) (enc:=λ(x':(Int×(List Int)))=>Qb z8.l0sh [.i x'.1,.li b,.li x'.2]) [0,2] [0,2] (a,c) (by kernel_rfl) (by kernel_rfl) (λx=>by kernel_rfl) (λo=>by kernel_rfl) λR k d x'=>z8.l0_link R k d (x'.1) b (x'.2)
theorem Qzi:Qk (ifun Tryz.f152).body=true:=by kernel_rfl
theorem z8.loopsT (hI:InlOK Tryz.prog z8.C λR=>z8.C.inlK 6):LoopsOK z8.C (λR=>z8.C.inlK 6) 152 0 (ifun Tryz.f152).body:=by
 intro id b hm st p hp
 obtain rfl:=Ql Qzi hm
 unfold z8.C at hp
 simp only at hp
 try split at hp
 all_goals first
  |(simp at hp;done)
  |(exfalso;omega)
  |exact z8.l0_sound hI st p hp
theorem z8.sound:Sn z8.pack 152:=by
 intro vs p h;unfold z8.pack at h;split at h<;>cases h
 exact Qo Qd Qe rfl rfl rfl (λg vs p h=>by simp [z8.C] at h) ⟨Tryz.func152,rfl,by kernel_rfl⟩ z8.loopsT rfl (z8.link _) (by intro v r h;unfold z8.dec at h;split at h<;>cases h;exact ⟨rfl,rfl⟩)
theorem z9.sound:Sn z9.pack 60:=by
 intro vs p h;unfold z9.pack at h;split at h<;>cases h
 exact Qg Qd Qe rfl rfl rfl rfl (λg vs p h=>by unfold z9.C at h;simp only at h;split at h;exact z8.sound vs p h;exact z7.sound vs p h;simp at h) ⟨Tryz.func60,rfl,by kernel_rfl⟩ rfl (z9.link _) (by intro v r h;unfold z9.dec at h;split at h<;>cases h;exact ⟨rfl,rfl⟩)
theorem z10.sound:Sn z10.pack 219:=by
 intro vs p h;unfold z10.pack at h;split at h<;>cases h
 exact Qg Qd Qe rfl rfl rfl rfl (λg vs p h=>by simp [z10.C] at h) ⟨Tryz.func219,rfl,by kernel_rfl⟩ rfl (z10.link _) (by intro v r h;unfold z10.dec at h;split at h<;>cases h;exact ⟨rfl,rfl⟩)
theorem z11.sound:Sn z11.pack 153:=by
 intro vs p h;unfold z11.pack at h;split at h<;>cases h
 exact Qg Qd Qe rfl rfl rfl rfl (λg vs p h=>by unfold z11.C at h;simp only at h;split at h;exact z10.sound vs p h;simp at h) ⟨Tryz.func153,rfl,by kernel_rfl⟩ rfl (z11.link _ _) (by intro v r h;unfold z11.dec at h;split at h<;>cases h;exact ⟨rfl,rfl⟩)
theorem z12.sound:Sn z12.pack 95:=by
 intro vs p h;unfold z12.pack at h;split at h<;>cases h
 exact Qg Qd Qe rfl rfl rfl rfl (λg vs p h=>by unfold z12.C at h;simp only at h;split at h;exact z11.sound vs p h;simp at h) ⟨Tryz.func95,rfl,by kernel_rfl⟩ rfl (z12.link _ _ _ _) (by intro v r h;unfold z12.dec at h;split at h<;>cases h;exact ⟨rfl,rfl⟩)
theorem z13.sound:Sn z13.pack 234:=by
 intro vs p h;unfold z13.pack at h;split at h<;>cases h
 exact Qg Qd Qe rfl rfl rfl rfl (λg vs p h=>by simp [z13.C] at h) ⟨Tryz.func234,rfl,by kernel_rfl⟩ rfl (z13.link _ _) (by intro v r h;unfold z13.dec at h;split at h<;>cases h;exact ⟨rfl,rfl⟩)
theorem z14.l0b6_sound (hI:InlOK Tryz.prog z14.C λR=>z14.C.inlK 6):Qh z14.C 6 235 0 0 (Qf 0 (ifun Tryz.f235).body) z14.l0b6sh z14.l0b6pack:=by
 refine Qi λls p h=>?_
 unfold z14.l0b6pack at h;split at h<;>cases h
 rename_i a b c
 exact Qm hI (sh:=z14.l0b6sh) (so:=z14.l0b6sh) (F:=λR rec done x=>z14.l0b6P a rec done x) (enc:=λ(x':Int)=>Qb z14.l0b6sh [.li a,.i x',.li c]) [1] [1] b (by kernel_rfl) (by kernel_rfl) (λx=>by kernel_rfl) (λo=>by kernel_rfl) λR k d x'=>z14.l0b6_link R k d a (x') c
theorem Qvu:Qk (ifun Tryz.f235).body=true:=by kernel_rfl
theorem z14.loopsT (hI:InlOK Tryz.prog z14.C λR=>z14.C.inlK 6):LoopsOK z14.C (λR=>z14.C.inlK 6) 235 0 (ifun Tryz.f235).body:=by
 intro id b hm st p hp
 obtain rfl:=Ql Qvu hm
 unfold z14.C at hp
 simp only at hp
 try split at hp
 all_goals first
  |(simp at hp;done)
  |(exfalso;omega)
  |exact z14.l0b6_sound hI st p hp
theorem z14.sound:Sn z14.pack 235:=by
 intro vs p h;unfold z14.pack at h;split at h<;>cases h
 exact Qo Qd Qe rfl rfl rfl (λg vs p h=>by simp [z14.C] at h) ⟨Tryz.func235,rfl,by kernel_rfl⟩ z14.loopsT rfl (z14.link _) (by intro v r h;unfold z14.dec at h;split at h<;>cases h;exact ⟨rfl,rfl⟩)
theorem z15.l2aa_sound (hI:InlOK Tryz.prog z15.C λR=>z15.C.inlK 6):Qh z15.C 6 208 2 0 (Qf 2 (ifun Tryz.f208).body) z15.l2aash z15.l2aapack:=by
 refine Qi λls p h=>?_
 unfold z15.l2aapack at h;split at h<;>cases h
 rename_i a b c e g j m
 exact Qm hI (sh:=z15.l2aash) (so:=z15.l2aash) (F:=λR rec done x=>z15.l2aaP a b c rec done x) (enc:=λ(x':(Int×Int×(List Int)))=>Qb z15.l2aash [.li a,.li b,.i c,.i x'.1,.i x'.2.1,.li j,.li x'.2.2]) [3,4,6] [3,4,6] (e,g,m) (by kernel_rfl) (by kernel_rfl) (λx=>by kernel_rfl) (λo=>by kernel_rfl) λR k d x'=>z15.l2aa_link R k d a b c (x'.1) (x'.2.1) j (x'.2.2)
theorem z15.l0_sound (hI:InlOK Tryz.prog z15.C λR=>z15.C.inlK 6):Qh z15.C 6 208 0 0 (Qf 0 (ifun Tryz.f208).body) z15.l0sh z15.l0pack:=by
 refine Qi λls p h=>?_
 unfold z15.l0pack at h;split at h<;>cases h
 rename_i a b c e g
 exact Qm hI (sh:=z15.l0sh) (so:=z15.l0sh) (F:=λR rec done x=>z15.l0P a b rec done x) (enc:=λ(x':(Int×(List Int)))=>Qb z15.l0sh [.li a,.li b,.i x'.1,.li e,.li x'.2]) [2,4] [2,4] (c,g) (by kernel_rfl) (by kernel_rfl) (λx=>by kernel_rfl) (λo=>by kernel_rfl) λR k d x'=>z15.l0_link R k d a b (x'.1) e (x'.2)
theorem Qzp:Qk (ifun Tryz.f208).body=true:=by kernel_rfl
theorem z15.loopsT (hI:InlOK Tryz.prog z15.C λR=>z15.C.inlK 6):LoopsOK z15.C (λR=>z15.C.inlK 6) 208 0 (ifun Tryz.f208).body:=by
 intro id b hm st p hp
 obtain rfl:=Ql Qzp hm
 unfold z15.C at hp
 simp only at hp
 try split at hp
 all_goals first
  |(simp at hp;done)
  |(exfalso;omega)
  |exact z15.l2aa_sound hI st p hp
  |exact z15.l0_sound hI st p hp
theorem z15.sound:Sn z15.pack 208:=by
 intro vs p h;unfold z15.pack at h;split at h<;>cases h
 exact Qo Qd Qe rfl rfl rfl (λg vs p h=>by unfold z15.C at h;simp only at h;split at h;exact z13.sound vs p h;exact z14.sound vs p h;simp at h) ⟨Tryz.func208,rfl,by kernel_rfl⟩ z15.loopsT rfl (z15.link _ _) (by intro v r h;unfold z15.dec at h;split at h<;>cases h;exact ⟨rfl,rfl⟩)
theorem z16.sound:Sn z16.pack 131:=by
 intro vs p h;unfold z16.pack at h;split at h<;>cases h
 exact Qg Qd Qe rfl rfl rfl rfl (λg vs p h=>by unfold z16.C at h;simp only at h;split at h;exact z15.sound vs p h;exact z7.sound vs p h;simp at h) ⟨Tryz.func131,rfl,by kernel_rfl⟩ rfl (z16.link _ _ _ _) (by intro v r h;unfold z16.dec at h;split at h<;>cases h;exact ⟨rfl,rfl⟩)
theorem z17.l0_sound (hI:InlOK Tryz.prog z17.C λR=>z17.C.inlK 6):Qh z17.C 6 132 0 0 (Qf 0 (ifun Tryz.f132).body) z17.l0sh z17.l0pack:=by
 refine Qi λls p h=>?_
 unfold z17.l0pack at h;split at h<;>cases h
 rename_i a c e g j
 exact Qm hI (sh:=z17.l0sh) (so:=z17.l0sh) (F:=λR rec done x=>z17.l0P j rec done x) (enc:=λ(x':((List UInt8)))=>Qb z17.l0sh [.s a,.s x',.li e,.b g,.i j]) [1] [1] c (by kernel_rfl) (by kernel_rfl) (λx=>by kernel_rfl) (λo=>by kernel_rfl) λR k d x'=>z17.l0_link R k d a (x') e g j
theorem Q35:Qk (ifun Tryz.f132).body=true:=by kernel_rfl
theorem z17.loopsT (hI:InlOK Tryz.prog z17.C λR=>z17.C.inlK 6):LoopsOK z17.C (λR=>z17.C.inlK 6) 132 0 (ifun Tryz.f132).body:=by
 intro id b hm st p hp
 obtain rfl:=Ql Q35 hm
 unfold z17.C at hp
 simp only at hp
 try split at hp
 all_goals first
  |(simp at hp;done)
  |(exfalso;omega)
  |exact z17.l0_sound hI st p hp
theorem z17.sound:Sn z17.pack 132:=by
 intro vs p h;unfold z17.pack at h;split at h<;>cases h
 exact Qo Qd Qe rfl rfl rfl (λg vs p h=>by unfold z17.C at h;simp only at h;split at h;exact z5.sound vs p h;simp at h) ⟨Tryz.func132,rfl,by kernel_rfl⟩ z17.loopsT rfl (z17.link _ _ _) (by intro v r h;unfold z17.dec at h;split at h<;>cases h;exact ⟨rfl,rfl⟩)
theorem z18.sound:Sn z18.pack 43:=by
 intro vs p h;unfold z18.pack at h;split at h<;>cases h
 exact Qg Qd Qe rfl rfl rfl rfl (λg vs p h=>by unfold z18.C at h;simp only at h;split at h;exact z12.sound vs p h;exact z9.sound vs p h;exact z16.sound vs p h;exact z6.sound vs p h;exact z17.sound vs p h;simp at h) ⟨Tryz.func43,rfl,by kernel_rfl⟩ rfl (z18.link _ _ _ _ _ _ _ _ _ _ _ _ _) (by intro v r h;unfold z18.dec at h;split at h<;>cases h;exact ⟨rfl,rfl⟩)
theorem z77.sound:Sn z77.pack 137:=by
 intro vs p h;unfold z77.pack at h;split at h<;>cases h
 exact Qg Qd Qe rfl rfl rfl rfl (λg vs p h=>by simp [z77.C] at h) ⟨Tryz.func137,rfl,by kernel_rfl⟩ rfl z77.link (by intro v r h;unfold z77.dec at h;split at h<;>cases h;exact ⟨rfl,rfl⟩)
theorem z78.sound:Sn z78.pack 47:=by
 intro vs p h;unfold z78.pack at h;split at h<;>cases h
 exact Qg Qd Qe rfl rfl rfl rfl (λg vs p h=>by unfold z78.C at h;simp only at h;split at h;exact z77.sound vs p h;simp at h) ⟨Tryz.func47,rfl,by kernel_rfl⟩ rfl (z78.link _) (by intro v r h;unfold z78.dec at h;split at h<;>cases h;exact ⟨rfl,rfl⟩)
theorem z85.sound:Sn z85.pack 133:=by
 intro vs p h;unfold z85.pack at h;split at h<;>cases h
 exact Qg Qd Qe rfl rfl rfl rfl (λg vs p h=>by unfold z85.C at h;simp only at h;split at h;exact z78.sound vs p h;exact z84.sound vs p h;exact z81.sound vs p h;simp at h) ⟨Tryz.func133,rfl,by kernel_rfl⟩ rfl (z85.link _ _ _ _ _ _ _ _ _ _) (by intro v r h;unfold z85.dec at h;split at h<;>cases h;exact ⟨rfl,rfl⟩)
theorem z90.sound:Sn z90.pack 134:=by
 intro vs p h;unfold z90.pack at h;split at h<;>cases h
 exact Qg Qd Qe rfl rfl rfl rfl (λg vs p h=>by unfold z90.C at h;simp only at h;split at h;exact z89.sound vs p h;exact z88.sound vs p h;simp at h) ⟨Tryz.func134,rfl,by kernel_rfl⟩ rfl (z90.link _ _ _ _) (by intro v r h;unfold z90.dec at h;split at h<;>cases h;exact ⟨rfl,rfl⟩)
theorem z91.sound:Sn z91.pack 44:=by
 intro vs p h;unfold z91.pack at h;split at h<;>cases h
 exact Qg Qd Qe rfl rfl rfl rfl (λg vs p h=>by unfold z91.C at h;simp only at h;split at h;exact z46.sound vs p h;exact z20.sound vs p h;exact z76.sound vs p h;exact z85.sound vs p h;exact z90.sound vs p h;simp at h) ⟨Tryz.func44,rfl,by kernel_rfl⟩ rfl (z91.link _ _ _ _ _ _ _ _ _ _) (by intro v r h;unfold z91.dec at h;split at h<;>cases h;exact ⟨rfl,rfl⟩)
theorem z92.l0_sound (hI:InlOK Tryz.prog z92.C λR=>z92.C.inlK 6):Qh z92.C 6 138 0 0 (Qf 0 (ifun Tryz.f138).body) z92.l0sh z92.l0pack:=by
 refine Qi λls p h=>?_
 unfold z92.l0pack at h;split at h<;>cases h
 rename_i a b c e g j m n q
 exact Q4 hI (sh:=z92.l0sh) (so:=z92.l0sh) (so':=z92.l0so1) (F:=λR rec done x=>z92.l0P a b g j m rec done x) (enc:=λ(x':(Int×(List (List V))))=>Qb z92.l0sh [.i a,.i b,.i c,.i x'.1,.i g,.i j,.i m,.lr n,.lr x'.2]) (.exit 0) [3,8] [3,8] [0,1,6] (e,q) (by kernel_rfl) (by kernel_rfl) (λx=>by kernel_rfl) (λo=>by kernel_rfl) (λo=>by kernel_rfl) λR k d x'=>z92.l0_link R k d a b c (x'.1) g j m n (x'.2)
theorem Q2w:Qk (ifun Tryz.f138).body=true:=by kernel_rfl
theorem z92.loopsT (hI:InlOK Tryz.prog z92.C λR=>z92.C.inlK 6):LoopsOK z92.C (λR=>z92.C.inlK 6) 138 0 (ifun Tryz.f138).body:=by
 intro id b hm st p hp
 obtain rfl:=Ql Q2w hm
 unfold z92.C at hp
 simp only at hp
 try split at hp
 all_goals first
  |(simp at hp;done)
  |(exfalso;omega)
  |exact z92.l0_sound hI st p hp
theorem z92.sound:Sn z92.pack 138:=by
 intro vs p h;unfold z92.pack at h;split at h<;>cases h
 exact Qo Qd Qe rfl rfl rfl (λg vs p h=>by unfold z92.C at h;simp only at h;split at h;exact z89.sound vs p h;exact z90.sound vs p h;simp at h) ⟨Tryz.func138,rfl,by kernel_rfl⟩ z92.loopsT rfl (z92.link _ _ _ _ _) (by intro v r h;unfold z92.dec at h;split at h<;>cases h;exact ⟨rfl,rfl⟩)
theorem z93.sound:Sn z93.pack 48:=by
 intro vs p h;unfold z93.pack at h;split at h<;>cases h
 exact Qg Qd Qe rfl rfl rfl rfl (λg vs p h=>by unfold z93.C at h;simp only at h;split at h;exact z91.sound vs p h;exact z92.sound vs p h;simp at h) ⟨Tryz.func48,rfl,by kernel_rfl⟩ rfl (z93.link _ _ _ _ _ _ _ _ _ _) (by intro v r h;unfold z93.dec at h;split at h<;>cases h;exact ⟨rfl,rfl⟩)
theorem z94.l0_sound (hI:InlOK Tryz.prog z94.C λR=>z94.C.inlK 6):Qh z94.C 6 49 0 0 (Qf 0 (ifun Tryz.f49).body) z94.l0sh z94.l0pack:=by
 refine Qi λls p h=>?_
 unfold z94.l0pack at h;split at h<;>cases h
 rename_i a b c e g j m n q
 exact Qm hI (sh:=z94.l0sh) (so:=z94.l0sh) (F:=λR rec done x=>z94.l0P b c rec done x) (enc:=λ(x':(Int×(List (List V))×Int×Int×Int))=>Qb z94.l0sh [.i a,.lr b,.i c,.i x'.1,.lr g,.lr x'.2.1,.i x'.2.2.1,.i x'.2.2.2.1,.i x'.2.2.2.2]) [3,5,6,7,8] [3,5,6,7,8] (e,j,m,n,q) (by kernel_rfl) (by kernel_rfl) (λx=>by kernel_rfl) (λo=>by kernel_rfl) λR k d x'=>z94.l0_link R k d a b c (x'.1) g (x'.2.1) (x'.2.2.1) (x'.2.2.2.1) (x'.2.2.2.2)
theorem Qvg:Qk (ifun Tryz.f49).body=true:=by kernel_rfl
theorem z94.loopsT (hI:InlOK Tryz.prog z94.C λR=>z94.C.inlK 6):LoopsOK z94.C (λR=>z94.C.inlK 6) 49 0 (ifun Tryz.f49).body:=by
 intro id b hm st p hp
 obtain rfl:=Ql Qvg hm
 unfold z94.C at hp
 simp only at hp
 try split at hp
 all_goals first
  |(simp at hp;done)
  |(exfalso;omega)
  |exact z94.l0_sound hI st p hp
theorem z94.sound:Sn z94.pack 49:=by
 intro vs p h;unfold z94.pack at h;split at h<;>cases h
 exact Qo Qd Qe rfl rfl rfl (λg vs p h=>by unfold z94.C at h;simp only at h;split at h;exact z93.sound vs p h;simp at h) ⟨Tryz.func49,rfl,by kernel_rfl⟩ z94.loopsT rfl (z94.link _ _ _ _ _ _ _ _ _ _) (by intro v r h;unfold z94.dec at h;split at h<;>cases h;exact ⟨rfl,rfl⟩)
theorem z95.l0_sound (hI:InlOK Tryz.prog z95.C λR=>z95.C.inlK 6):Qh z95.C 6 145 0 0 (Qf 0 (ifun Tryz.f145).body) z95.l0sh z95.l0pack:=by
 refine Qi λls p h=>?_
 unfold z95.l0pack at h;split at h<;>cases h
 rename_i a b c e g
 exact Q4 hI (sh:=z95.l0sh) (so:=z95.l0sh) (so':=z95.l0so1) (F:=λR rec done x=>z95.l0P b c e rec done x) (enc:=λ(x':Int)=>Qb z95.l0sh [.i a,.i b,.li c,.i e,.i x']) (.exit 0) [4] [4] [0] g (by kernel_rfl) (by kernel_rfl) (λx=>by kernel_rfl) (λo=>by kernel_rfl) (λo=>by kernel_rfl) λR k d x'=>z95.l0_link R k d a b c e (x')
theorem Q1m:Qk (ifun Tryz.f145).body=true:=by kernel_rfl
theorem z95.loopsT (hI:InlOK Tryz.prog z95.C λR=>z95.C.inlK 6):LoopsOK z95.C (λR=>z95.C.inlK 6) 145 0 (ifun Tryz.f145).body:=by
 intro id b hm st p hp
 obtain rfl:=Ql Q1m hm
 unfold z95.C at hp
 simp only at hp
 try split at hp
 all_goals first
  |(simp at hp;done)
  |(exfalso;omega)
  |exact z95.l0_sound hI st p hp
theorem z95.sound:Sn z95.pack 145:=by
 intro vs p h;unfold z95.pack at h;split at h<;>cases h
 exact Qo Qd Qe rfl rfl rfl (λg vs p h=>by simp [z95.C] at h) ⟨Tryz.func145,rfl,by kernel_rfl⟩ z95.loopsT rfl (z95.link _) (by intro v r h;unfold z95.dec at h;split at h<;>cases h;exact ⟨rfl,rfl⟩)
theorem z96.sound:Sn z96.pack 57:=by
 intro vs p h;unfold z96.pack at h;split at h<;>cases h
 exact Qg Qd Qe rfl rfl rfl rfl (λg vs p h=>by unfold z96.C at h;simp only at h;split at h;exact z26.sound vs p h;exact z95.sound vs p h;simp at h) ⟨Tryz.func57,rfl,by kernel_rfl⟩ rfl (z96.link _ _ _ _ _ _) (by intro v r h;unfold z96.dec at h;split at h<;>cases h;exact ⟨rfl,rfl⟩)
theorem z97.sound:Sn z97.pack 211:=by
 intro vs p h;unfold z97.pack at h;split at h<;>cases h
 exact Qg Qd Qe rfl rfl rfl rfl (λg vs p h=>by simp [z97.C] at h) ⟨Tryz.func211,rfl,by kernel_rfl⟩ rfl (z97.link _) (by intro v r h;unfold z97.dec at h;split at h<;>cases h;exact ⟨rfl,rfl⟩)
theorem z98.l0_sound (hI:InlOK Tryz.prog z98.C λR=>z98.C.inlK 6):Qh z98.C 6 140 0 0 (Qf 0 (ifun Tryz.f140).body) z98.l0sh z98.l0pack:=by
 refine Qi λls p h=>?_
 unfold z98.l0pack at h;split at h<;>cases h
 rename_i a b c e g j m
 exact Qm hI (sh:=z98.l0sh) (so:=z98.l0sh) (F:=λR rec done x=>z98.l0P g j rec done x) (enc:=λ(x':(Int×Int))=>Qb z98.l0sh [.i a,.i b,.i x'.1,.i x'.2,.i g,.i j,.i m]) [2,3] [2,3] (c,e) (by kernel_rfl) (by kernel_rfl) (λx=>by kernel_rfl) (λo=>by kernel_rfl) λR k d x'=>z98.l0_link R k d a b (x'.1) (x'.2) g j m
theorem Qz2:Qk (ifun Tryz.f140).body=true:=by kernel_rfl
theorem z98.loopsT (hI:InlOK Tryz.prog z98.C λR=>z98.C.inlK 6):LoopsOK z98.C (λR=>z98.C.inlK 6) 140 0 (ifun Tryz.f140).body:=by
 intro id b hm st p hp
 obtain rfl:=Ql Qz2 hm
 unfold z98.C at hp
 simp only at hp
 try split at hp
 all_goals first
  |(simp at hp;done)
  |(exfalso;omega)
  |exact z98.l0_sound hI st p hp
theorem z98.sound:Sn z98.pack 140:=by
 intro vs p h;unfold z98.pack at h;split at h<;>cases h
 exact Qo Qd Qe rfl rfl rfl (λg vs p h=>by unfold z98.C at h;simp only at h;split at h;exact z89.sound vs p h;exact z97.sound vs p h;exact z88.sound vs p h;simp at h) ⟨Tryz.func140,rfl,by kernel_rfl⟩ z98.loopsT rfl (z98.link _ _ _) (by intro v r h;unfold z98.dec at h;split at h<;>cases h;exact ⟨rfl,rfl⟩)
theorem z147.sound:Sn z147.pack 71:=by
 intro vs p h;unfold z147.pack at h;split at h<;>cases h
 exact Qg Qd Qe rfl rfl rfl rfl (λg vs p h=>by unfold z147.C at h;simp only at h;split at h;exact z20.sound vs p h;simp at h) ⟨Tryz.func71,rfl,by kernel_rfl⟩ rfl (z147.link _ _ _) (by intro v r h;unfold z147.dec at h;split at h<;>cases h;exact ⟨rfl,rfl⟩)
theorem z148.sound:Sn z148.pack 216:=by
 intro vs p h;unfold z148.pack at h;split at h<;>cases h
 exact Qg Qd Qe rfl rfl rfl rfl (λg vs p h=>by simp [z148.C] at h) ⟨Tryz.func216,rfl,by kernel_rfl⟩ rfl (z148.link _ _ _) (by intro v r h;unfold z148.dec at h;split at h<;>cases h;exact ⟨rfl,rfl⟩)
theorem z149.sound:Sn z149.pack 217:=by
 intro vs p h;unfold z149.pack at h;split at h<;>cases h
 exact Qg Qd Qe rfl rfl rfl rfl (λg vs p h=>by unfold z149.C at h;simp only at h;split at h;exact z24.sound vs p h;exact z29.sound vs p h;exact z60.sound vs p h;simp at h) ⟨Tryz.func217,rfl,by kernel_rfl⟩ rfl (z149.link _ _ _ _) (by intro v r h;unfold z149.dec at h;split at h<;>cases h;exact ⟨rfl,rfl⟩)
theorem z150.sound:Sn z150.pack 150:=by
 intro vs p h;unfold z150.pack at h;split at h<;>cases h
 exact Qg Qd Qe rfl rfl rfl rfl (λg vs p h=>by unfold z150.C at h;simp only at h;split at h;exact z79.sound vs p h;exact z148.sound vs p h;exact z59.sound vs p h;exact z73.sound vs p h;exact z68.sound vs p h;exact z19.sound vs p h;exact z149.sound vs p h;exact z38.sound vs p h;exact z24.sound vs p h;exact z147.sound vs p h;exact z21.sound vs p h;simp at h) ⟨Tryz.func150,rfl,by kernel_rfl⟩ rfl (z150.link _ _ _ _) (by intro v r h;unfold z150.dec at h;split at h<;>cases h;exact ⟨rfl,rfl⟩)
theorem z151.sound:Sn z151.pack 78:=by
 intro vs p h;unfold z151.pack at h;split at h<;>cases h
 exact Qg Qd Qe rfl rfl rfl rfl (λg vs p h=>by unfold z151.C at h;simp only at h;split at h;exact z74.sound vs p h;exact z54.sound vs p h;exact z31.sound vs p h;exact z73.sound vs p h;exact z40.sound vs p h;exact z70.sound vs p h;simp at h) ⟨Tryz.func78,rfl,by kernel_rfl⟩ rfl (z151.link _ _ _ _ _ _) (by intro v r h;unfold z151.dec at h;split at h<;>cases h;exact ⟨rfl,rfl⟩)
theorem z152.sound:Sn z152.pack 89:=by
 intro vs p h;unfold z152.pack at h;split at h<;>cases h
 exact Qg Qd Qe rfl rfl rfl rfl (λg vs p h=>by unfold z152.C at h;simp only at h;split at h;exact z54.sound vs p h;exact z73.sound vs p h;exact z40.sound vs p h;exact z70.sound vs p h;simp at h) ⟨Tryz.func89,rfl,by kernel_rfl⟩ rfl (z152.link _ _ _ _ _ _) (by intro v r h;unfold z152.dec at h;split at h<;>cases h;exact ⟨rfl,rfl⟩)
theorem z153.sound:Sn z153.pack 230:=by
 intro vs p h;unfold z153.pack at h;split at h<;>cases h
 exact Qg Qd Qe rfl rfl rfl rfl (λg vs p h=>by unfold z153.C at h;simp only at h;split at h;exact z48.sound vs p h;exact z71.sound vs p h;simp at h) ⟨Tryz.func230,rfl,by kernel_rfl⟩ rfl (z153.link _ _) (by intro v r h;unfold z153.dec at h;split at h<;>cases h;exact ⟨rfl,rfl⟩)
theorem z154.sound:Sn z154.pack 229:=by
 intro vs p h;unfold z154.pack at h;split at h<;>cases h
 exact Qg Qd Qe rfl rfl rfl rfl (λg vs p h=>by unfold z154.C at h;simp only at h;split at h;exact z153.sound vs p h;simp at h) ⟨Tryz.func229,rfl,by kernel_rfl⟩ rfl (z154.link _ _ _ _ _ _) (by intro v r h;unfold z154.dec at h;split at h<;>cases h;exact ⟨rfl,rfl⟩)
theorem z155.sound:Sn z155.pack 65:=by
 intro vs p h;unfold z155.pack at h;split at h<;>cases h
 exact Qg Qd Qe rfl rfl rfl rfl (λg vs p h=>by unfold z155.C at h;simp only at h;split at h;exact z98.sound vs p h;simp at h) ⟨Tryz.func65,rfl,by kernel_rfl⟩ rfl (z155.link _ _ _ _ _ _) (by intro v r h;unfold z155.dec at h;split at h<;>cases h;exact ⟨rfl,rfl⟩)
theorem z156.sound:Sn z156.pack 231:=by
 intro vs p h;unfold z156.pack at h;split at h<;>cases h
 exact Qg Qd Qe rfl rfl rfl rfl (λg vs p h=>by unfold z156.C at h;simp only at h;split at h;exact z155.sound vs p h;simp at h) ⟨Tryz.func231,rfl,by kernel_rfl⟩ rfl (z156.link _ _ _ _ _ _) (by intro v r h;unfold z156.dec at h;split at h<;>cases h;exact ⟨rfl,rfl⟩)
theorem z157.sound:Sn z157.pack 269:=by
 intro vs p h;unfold z157.pack at h;split at h<;>cases h
 exact Qg Qd Qe rfl rfl rfl rfl (λg vs p h=>by unfold z157.C at h;simp only at h;split at h;exact z87.sound vs p h;simp at h) ⟨Tryz.func269,rfl,by kernel_rfl⟩ rfl (z157.link _) (by intro v r h;unfold z157.dec at h;split at h<;>cases h;exact ⟨rfl,rfl⟩)
theorem z158.sound:Sn z158.pack 232:=by
 intro vs p h;unfold z158.pack at h;split at h<;>cases h
 exact Qg Qd Qe rfl rfl rfl rfl (λg vs p h=>by unfold z158.C at h;simp only at h;split at h;exact z156.sound vs p h;exact z157.sound vs p h;exact z153.sound vs p h;exact z151.sound vs p h;simp at h) ⟨Tryz.func232,rfl,by kernel_rfl⟩ rfl (z158.link _ _ _ _ _ _) (by intro v r h;unfold z158.dec at h;split at h<;>cases h;exact ⟨rfl,rfl⟩)
theorem z159.sound:Sn z159.pack 165:=by
 intro vs p h;unfold z159.pack at h;split at h<;>cases h
 exact Qg Qd Qe rfl rfl rfl rfl (λg vs p h=>by unfold z159.C at h;simp only at h;split at h;exact z82.sound vs p h;exact z89.sound vs p h;exact z96.sound vs p h;exact z154.sound vs p h;exact z156.sound vs p h;exact z153.sound vs p h;exact z158.sound vs p h;simp at h) ⟨Tryz.func165,rfl,by kernel_rfl⟩ rfl (z159.link _ _ _ _ _ _ _) (by intro v r h;unfold z159.dec at h;split at h<;>cases h;exact ⟨rfl,rfl⟩)
theorem z175.sound:Sn z175.pack 67:=by
 intro vs p h;unfold z175.pack at h;split at h<;>cases h
 exact Qg Qd Qe rfl rfl rfl rfl (λg vs p h=>by unfold z175.C at h;simp only at h;split at h;exact z74.sound vs p h;exact z54.sound vs p h;exact z34.sound vs p h;simp at h) ⟨Tryz.func67,rfl,by kernel_rfl⟩ rfl (z175.link _ _ _ _ _ _) (by intro v r h;unfold z175.dec at h;split at h<;>cases h;exact ⟨rfl,rfl⟩)
theorem z185.sound:Sn z185.pack 79:=by
 intro vs p h;unfold z185.pack at h;split at h<;>cases h
 exact Qg Qd Qe rfl rfl rfl rfl (λg vs p h=>by unfold z185.C at h;simp only at h;split at h;exact z91.sound vs p h;exact z159.sound vs p h;exact z76.sound vs p h;exact z47.sound vs p h;exact z152.sound vs p h;exact z150.sound vs p h;simp at h) ⟨Tryz.func79,rfl,by kernel_rfl⟩ rfl (z185.link _ _ _ _ _ _ _ _ _ _ _ _ _ _ _ _ _ _) (by intro v r h;unfold z185.dec at h;split at h<;>cases h;exact ⟨rfl,rfl⟩)
theorem z187.l0_sound (hI:InlOK Tryz.prog z187.C λR=>z187.C.inlK 6):Qh z187.C 6 84 0 0 (Qf 0 (ifun Tryz.f84).body) z187.l0sh z187.l0pack:=by
 refine Qi λls p h=>?_
 unfold z187.l0pack at h;split at h<;>cases h
 rename_i a c e g j m n q r s t u
 exact Q4 hI (sh:=z187.l0sh) (so:=z187.l0sh) (so':=z187.l0so1) (F:=λR rec done x=>z187.l0P c e rec done x) (enc:=λ(x':(Int×(List Int)×Bool×(List Int)×Bool))=>Qb z187.l0sh [.i a,.lr c,.i e,.i x'.1,.li j,.b m,.li n,.b q,.li x'.2.1,.b x'.2.2.1,.li x'.2.2.2.1,.b x'.2.2.2.2]) (.exit 0) [3,8,9,10,11] [3,8,9,10,11] [0,1,2,3,4,5,6,7,8] (g,r,s,t,u) (by kernel_rfl) (by kernel_rfl) (λx=>by kernel_rfl) (λo=>by kernel_rfl) (λo=>by kernel_rfl) λR k d x'=>z187.l0_link R k d a c e (x'.1) j m n q (x'.2.1) (x'.2.2.1) (x'.2.2.2.1) (x'.2.2.2.2)
theorem Qyx:Qk (ifun Tryz.f84).body=true:=by kernel_rfl
theorem z187.loopsT (hI:InlOK Tryz.prog z187.C λR=>z187.C.inlK 6):LoopsOK z187.C (λR=>z187.C.inlK 6) 84 0 (ifun Tryz.f84).body:=by
 intro id b hm st p hp
 obtain rfl:=Ql Qyx hm
 unfold z187.C at hp
 simp only at hp
 try split at hp
 all_goals first
  |(simp at hp;done)
  |(exfalso;omega)
  |exact z187.l0_sound hI st p hp
theorem z187.sound:Sn z187.pack 84:=by
 intro vs p h;unfold z187.pack at h;split at h<;>cases h
 exact Qo Qd Qe rfl rfl rfl (λg vs p h=>by unfold z187.C at h;simp only at h;split at h;exact z46.sound vs p h;exact z31.sound vs p h;simp at h) ⟨Tryz.func84,rfl,by kernel_rfl⟩ z187.loopsT rfl (z187.link _) (by intro v r h;unfold z187.dec at h;split at h<;>cases h;exact ⟨rfl,rfl⟩)
theorem z188.sound:Sn z188.pack 88:=by
 intro vs p h;unfold z188.pack at h;split at h<;>cases h
 exact Qg Qd Qe rfl rfl rfl rfl (λg vs p h=>by unfold z188.C at h;simp only at h;split at h;exact z76.sound vs p h;exact z48.sound vs p h;exact z71.sound vs p h;exact z152.sound vs p h;simp at h) ⟨Tryz.func88,rfl,by kernel_rfl⟩ rfl (z188.link _ _) (by intro v r h;unfold z188.dec at h;split at h<;>cases h;exact ⟨rfl,rfl⟩)
theorem z189.sound:Sn z189.pack 270:=by
 intro vs p h;unfold z189.pack at h;split at h<;>cases h
 exact Qg Qd Qe rfl rfl rfl rfl (λg vs p h=>by unfold z189.C at h;simp only at h;split at h;exact z19.sound vs p h;exact z61.sound vs p h;simp at h) ⟨Tryz.func270,rfl,by kernel_rfl⟩ rfl (z189.link _) (by intro v r h;unfold z189.dec at h;split at h<;>cases h;exact ⟨rfl,rfl⟩)
theorem z190.sound:Sn z190.pack 238:=by
 intro vs p h;unfold z190.pack at h;split at h<;>cases h
 exact Qg Qd Qe rfl rfl rfl rfl (λg vs p h=>by unfold z190.C at h;simp only at h;split at h;exact z189.sound vs p h;exact z43.sound vs p h;simp at h) ⟨Tryz.func238,rfl,by kernel_rfl⟩ rfl (z190.link _ _) (by intro v r h;unfold z190.dec at h;split at h<;>cases h;exact ⟨rfl,rfl⟩)
theorem z191.sound:Sn z191.pack 239:=by
 intro vs p h;unfold z191.pack at h;split at h<;>cases h
 exact Qg Qd Qe rfl rfl rfl rfl (λg vs p h=>by unfold z191.C at h;simp only at h;split at h;exact z21.sound vs p h;simp at h) ⟨Tryz.func239,rfl,by kernel_rfl⟩ rfl (z191.link _) (by intro v r h;unfold z191.dec at h;split at h<;>cases h;exact ⟨rfl,rfl⟩)
theorem z192.sound:Sn z192.pack 175:=by
 intro vs p h;unfold z192.pack at h;split at h<;>cases h
 exact Qg Qd Qe rfl rfl rfl rfl (λg vs p h=>by unfold z192.C at h;simp only at h;split at h;exact z147.sound vs p h;exact z48.sound vs p h;exact z47.sound vs p h;exact z75.sound vs p h;exact z73.sound vs p h;exact z148.sound vs p h;exact z59.sound vs p h;exact z24.sound vs p h;exact z190.sound vs p h;exact z30.sound vs p h;exact z54.sound vs p h;exact z191.sound vs p h;exact z40.sound vs p h;exact z71.sound vs p h;simp at h) ⟨Tryz.func175,rfl,by kernel_rfl⟩ rfl (z192.link _ _ _ _ _ _ _) (by intro v r h;unfold z192.dec at h;split at h<;>cases h;exact ⟨rfl,rfl⟩)
theorem z193.sound:Sn z193.pack 87:=by
 intro vs p h;unfold z193.pack at h;split at h<;>cases h
 exact Qg Qd Qe rfl rfl rfl rfl (λg vs p h=>by unfold z193.C at h;simp only at h;split at h;exact z188.sound vs p h;exact z20.sound vs p h;exact z47.sound vs p h;exact z192.sound vs p h;exact z150.sound vs p h;simp at h) ⟨Tryz.func87,rfl,by kernel_rfl⟩ rfl (z193.link _ _ _ _ _ _) (by intro v r h;unfold z193.dec at h;split at h<;>cases h;exact ⟨rfl,rfl⟩)
theorem z194.sound:Sn z194.pack 236:=by
 intro vs p h;unfold z194.pack at h;split at h<;>cases h
 exact Qg Qd Qe rfl rfl rfl rfl (λg vs p h=>by unfold z194.C at h;simp only at h;split at h;exact z20.sound vs p h;exact z48.sound vs p h;exact z71.sound vs p h;exact z150.sound vs p h;simp at h) ⟨Tryz.func236,rfl,by kernel_rfl⟩ rfl (z194.link _ _ _ _) (by intro v r h;unfold z194.dec at h;split at h<;>cases h;exact ⟨rfl,rfl⟩)
theorem z195.sound:Sn z195.pack 173:=by
 intro vs p h;unfold z195.pack at h;split at h<;>cases h
 exact Qg Qd Qe rfl rfl rfl rfl (λg vs p h=>by unfold z195.C at h;simp only at h;split at h;exact z46.sound vs p h;exact z193.sound vs p h;exact z194.sound vs p h;simp at h) ⟨Tryz.func173,rfl,by kernel_rfl⟩ rfl (z195.link _ _ _ _ _ _ _ _ _ _) (by intro v r h;unfold z195.dec at h;split at h<;>cases h;exact ⟨rfl,rfl⟩)
theorem meth39_Cmp:MethOK Tryz.prog 39 "Cmp" 74:=λrecv w=>by kernel_rfl
theorem z196.meths (t:Nat) (m:String) (g:Nat) (h:z196.C.meth t m=some g):MethOK Tryz.prog t m g:=by
 unfold z196.C at h;simp only at h
 split at h
 ·rename_i e;obtain ⟨rfl,rfl⟩:=e;cases h;exact meth39_Cmp
 ·simp at h
theorem z196.sound:Sn z196.pack 237:=by
 intro vs p h;unfold z196.pack at h;split at h<;>cases h
 exact Qyw Qd Qe rfl rfl rfl rfl (λg vs p h=>by unfold z196.C at h;simp only at h;split at h;exact z34.sound vs p h;simp at h) z196.meths ⟨Tryz.func237,rfl,by kernel_rfl⟩ rfl (z196.link _ _ _ _) (by intro v r h;unfold z196.dec at h;split at h<;>cases h;exact ⟨rfl,rfl⟩)
theorem z197.sound:Sn z197.pack 174:=by
 intro vs p h;unfold z197.pack at h;split at h<;>cases h
 exact Qg Qd Qe rfl rfl rfl rfl (λg vs p h=>by unfold z197.C at h;simp only at h;split at h;exact z33.sound vs p h;exact z20.sound vs p h;exact z196.sound vs p h;simp at h) ⟨Tryz.func174,rfl,by kernel_rfl⟩ rfl (z197.link _ _ _ _ _ _ _) (by intro v r h;unfold z197.dec at h;split at h<;>cases h;exact ⟨rfl,rfl⟩)
theorem z198.l0_sound (hI:InlOK Tryz.prog z198.C λR=>z198.C.inlK 6):Qh z198.C 6 86 0 0 (Qf 0 (ifun Tryz.f86).body) z198.l0sh z198.l0pack:=by
 refine Qi λls p h=>?_
 unfold z198.l0pack at h;split at h<;>cases h
 rename_i a c e g j m n q r t u v w y z A B D E G H
 exact Q4 hI (sh:=z198.l0sh) (so:=z198.l0sh) (so':=z198.l0so1) (F:=λR rec done x=>z198.l0P c e g m n q r t u v w y z B D rec done x) (enc:=λ(x':(Int×(List Int)×Bool×(List (List V))))=>Qb z198.l0sh [.i a,.lr c,.lr e,.i g,.i x'.1,.s m,.s n,.i q,.i r,.i t,.i u,.i v,.i w,.i y,.i z,.lr A,.li B,.b D,.li x'.2.1,.b x'.2.2.1,.lr x'.2.2.2]) (.exit 0) [4,18,19,20] [4,18,19,20] [0,1,15,16,17] (j,E,G,H) (by kernel_rfl) (by kernel_rfl) (λx=>by kernel_rfl) (λo=>by kernel_rfl) (λo=>by kernel_rfl) λR k d x'=>z198.l0_link R k d a c e g (x'.1) m n q r t u v w y z A B D (x'.2.1) (x'.2.2.1) (x'.2.2.2)
theorem Q2i:Qk (ifun Tryz.f86).body=true:=by kernel_rfl
theorem z198.loopsT (hI:InlOK Tryz.prog z198.C λR=>z198.C.inlK 6):LoopsOK z198.C (λR=>z198.C.inlK 6) 86 0 (ifun Tryz.f86).body:=by
 intro id b hm st p hp
 obtain rfl:=Ql Q2i hm
 unfold z198.C at hp
 simp only at hp
 try split at hp
 all_goals first
  |(simp at hp;done)
  |(exfalso;omega)
  |exact z198.l0_sound hI st p hp
theorem z198.sound:Sn z198.pack 86:=by
 intro vs p h;unfold z198.pack at h;split at h<;>cases h
 exact Qo Qd Qe rfl rfl rfl (λg vs p h=>by unfold z198.C at h;simp only at h;split at h;exact z94.sound vs p h;exact z195.sound vs p h;exact z46.sound vs p h;exact z185.sound vs p h;exact z197.sound vs p h;exact z33.sound vs p h;exact z135.sound vs p h;exact z31.sound vs p h;simp at h) ⟨Tryz.func86,rfl,by kernel_rfl⟩ z198.loopsT rfl (z198.link _ _ _ _ _ _ _ _ _ _) (by intro v r h;unfold z198.dec at h;split at h<;>cases h;exact ⟨rfl,rfl⟩)
theorem z199.sound:Sn z199.pack 169:=by
 intro vs p h;unfold z199.pack at h;split at h<;>cases h
 exact Qg Qd Qe rfl rfl rfl rfl (λg vs p h=>by simp [z199.C] at h) ⟨Tryz.func169,rfl,by kernel_rfl⟩ rfl z199.link (by intro v r h;unfold z199.dec at h;split at h<;>cases h;exact ⟨rfl,rfl⟩)
theorem z200.sound:Sn z200.pack 83:=by
 intro vs p h;unfold z200.pack at h;split at h<;>cases h
 exact Qg Qd Qe rfl rfl rfl rfl (λg vs p h=>by unfold z200.C at h;simp only at h;split at h;exact z199.sound vs p h;exact z198.sound vs p h;exact z187.sound vs p h;exact z135.sound vs p h;exact z20.sound vs p h;simp at h) ⟨Tryz.func83,rfl,by kernel_rfl⟩ rfl z200.link (by intro v r h;unfold z200.dec at h;split at h<;>cases h;exact ⟨rfl,rfl⟩)
theorem z203.l0b6_sound (hI:InlOK Tryz.prog z203.C λR=>z203.C.inlK 6):Qh z203.C 6 20 0 0 (Qf 0 (ifun Tryz.f20).body) z203.l0b6sh z203.l0b6pack:=by
 refine Qi λls p h=>?_
 unfold z203.l0b6pack at h;split at h<;>cases h
 rename_i a c e g j m n q r s t u v
 exact Q4 hI (sh:=z203.l0b6sh) (so:=z203.l0b6sh) (so':=z203.l0b6so1) (F:=λR rec done x=>z203.l0b6P c e g m n q r s rec done x) (enc:=λ(x':(Int×(List Int)×Bool×(List Int)))=>Qb z203.l0b6sh [.b a,.lr c,.lr e,.i g,.i x'.1,.li m,.b n,.li q,.b r,.li s,.li x'.2.1,.b x'.2.2.1,.li x'.2.2.2]) (.exit 0) [4,10,11,12] [4,10,11,12] [0,6,7,8] (j,t,u,v) (by kernel_rfl) (by kernel_rfl) (λx=>by kernel_rfl) (λo=>by kernel_rfl) (λo=>by kernel_rfl) λR k d x'=>z203.l0b6_link R k d a c e g (x'.1) m n q r s (x'.2.1) (x'.2.2.1) (x'.2.2.2)
theorem Qri:FunOK Tryz.prog 20 Tryz.f20 (ifun Tryz.f20).body:=⟨Tryz.func20,rfl,by kernel_rfl⟩
theorem Q03:Qk (ifun Tryz.f20).body=true:=by kernel_rfl
theorem z203.loopsT (hI:InlOK Tryz.prog z203.C λR=>z203.C.inlK 6):LoopsOK z203.C (λR=>z203.C.inlK 6) 20 0 (ifun Tryz.f20).body:=by
 intro id b hm st p hp
 obtain rfl:=Ql Q03 hm
 unfold z203.C at hp
 simp only at hp
 try split at hp
 all_goals first
  |(simp at hp;done)
  |(exfalso;omega)
  |exact z203.l0b6_sound hI st p hp
theorem z203.sound:Sn z203.pack 20:=by
 intro vs p h;unfold z203.pack at h;split at h<;>cases h
 exact Qo Qd Qe rfl rfl rfl (λg vs p h=>by unfold z203.C at h;simp only at h;split at h;exact z18.sound vs p h;exact z198.sound vs p h;exact z42.sound vs p h;exact z193.sound vs p h;exact z188.sound vs p h;exact z200.sound vs p h;exact z34.sound vs p h;exact z152.sound vs p h;exact z151.sound vs p h;exact z48.sound vs p h;exact z47.sound vs p h;exact z135.sound vs p h;exact z33.sound vs p h;exact z59.sound vs p h;exact z21.sound vs p h;exact z175.sound vs p h;simp at h) Qri z203.loopsT rfl (z203.link _ _ _ _ _ _ _ _ _ _ _ _) (by intro v r h;unfold z203.dec at h;split at h<;>cases h;exact ⟨rfl,rfl⟩)
end
end Go.Proofs.YtgjncgiekniniaaGreatDoor.A
end
section
namespace Go.Proofs.YtgjncgiekniniaaGreatDoor.A
open Go Go.RowKit Go.ChangeShapes Go.WideShapes
noncomputable section
inductive SC where
 |b
 |i (k:IntKind)
 |s
inductive CT where
 |sc (c:SC)
 |sl (cs:List SC)
def scOf:CT->Option SC
 |.sc c=>some c
 |_=>none
def Q4n:List CT->Option (List SC)
 |[]=>some []
 |c::l=>(scOf c).bind λx=>(Q4n l).map (x :: ·)
def okS:SC->V->Prop
 |.b,v=>∃x,v=.bool x
 |.i k,v=>∃n,v=.int k n/\(Lit.int k n).wf=true
 |.s,v=>∃l,v=.str l/\l.length<=maxLen
def okSL:List SC->List V->Prop
 |[],vs=>vs=[]
 |c::cs,vs=>∃v l,vs=v::l/\okS c v/\okSL cs l
def okC:CT->V->Prop
 |.sc c,v=>okS c v
 |.sl [.i k],v=>∃l,v=.ints false k l/\(∀n∈l,(Lit.int k n).wf=true)/\l.length<=maxLen
 |.sl [.s],v=>∃l,v=.strs false l/\(∀s∈l,s.length<=maxLen)/\l.length<=maxLen
 |.sl cs,v=>∃l,v=.recs false cs.length l/\(∀r∈l,okSL cs r)/\l.length<=maxLen
def okCL:List CT->List V->Prop
 |[],vs=>vs=[]
 |c::cs,vs=>∃v l,vs=v::l/\okC c v/\okCL cs l
def ctsF (P:Program) (rec:TypeId->Option (List CT)):Nat->List Field->Option (List CT)
 |_,[]=>some []
 |off,f::fs=>if f.offset=off then (rec f.type).bind λl=>if P.cellsOf f.type=l.length then (ctsF P rec (off+l.length) fs).map (l ++ ·) else none else none
def ctsA (l:List CT):Nat->List CT
 |0=>[]
 |n+1=>l++ctsA l n
def cts (P:Program):Nat->TypeId->Option (List CT)
 |0,_=>none
 |
  n+1,t=>
  match P.underlying t with
  |some .bool=>some [.sc .b]
  |some (.int k)=>some [.sc (.i k)]
  |some .string=>some [.sc .s]
  |some (.struct fs)=>(ctsF P (cts P n) 0 fs.toList).bind λl=>if P.cellsOf t=l.length then some l else none
  |some (.array m e)=>(cts P n e).bind λl=>if P.cellsOf e=l.length/\P.cellsOf t=m*l.length then some (ctsA l m) else none
  |some (.slice e)=>(cts P n e).bind λl=>(Q4n l).bind λcs=>if P.cellsOf e=cs.length/\0<cs.length then some [.sl cs] else none
  |_=>none
abbrev noO:Nat->Prop:=λ_=>False
def Q4s (W:World) (c:CT) (cv:Value) (v:V):Prop:=okC c v/\Rep0 noO W cv v/\cv.oneCell'=true
def Q4i (W:World) (l:List CT) (cs:List Value) (vs:List V):Prop:=
 cs.length=l.length/\vs.length=l.length/\∀(j:Nat) (c:CT) (cv:Value) (v:V),l[j]? = some c->cs[j]? = some cv->vs[j]? = some v->Q4s W c cv v
theorem cellsR_nil (W:World):Q4i W [] [] []:=⟨rfl,rfl,λ(j:Nat) c cv v h=>by simp at h⟩
theorem Q4o {W:World} {c:CT} {cv:Value} {v:V} (h:Q4s W c cv v):Q4i W [c] [cv] [v]:=by
 refine ⟨rfl,rfl,λj c' cv' v' h1 h2 h3=>?_⟩
 cases j with
 |zero=>simp at h1 h2 h3;subst h1 h2 h3;exact h
 |succ j=>simp at h1
theorem Q4w {W:World} {l l':List CT} {cs cs':List Value} {vs vs':List V} (h:Q4i W l cs vs) (h':Q4i W l' cs' vs'):Q4i W (l++l') (cs++cs') (vs++vs'):=by
 obtain ⟨a1,a2,a3⟩:=h;obtain ⟨b1,b2,b3⟩:=h'
 refine ⟨by simp [a1,b1],by simp [a2,b2],λj c cv v h1 h2 h3=>?_⟩
 by_cases hj:j<l.length
 ·rw [List.getElem?_append_left hj] at h1
  rw [List.getElem?_append_left (by omega)] at h2 h3
  exact a3 j c cv v h1 h2 h3
 ·rw [List.getElem?_append_right (by omega)] at h1 h2 h3
  rw [a1] at h2;rw [a2] at h3
  exact b3 _ c cv v h1 h2 h3
theorem Q4q {W:World}:∀{l:List CT} {cs:List Value} {vs:List V},Q4i W l cs vs->okCL l vs
 |[],cs,vs,h=>List.length_eq_zero_iff.1 h.2.1
 |
  c::l,cs,vs,h=>by
  obtain ⟨h1,h2,h3⟩:=h
  match cs,vs,h1,h2 with
  |
   cv::cs,v::vs,h1,h2=>
   exact ⟨v,vs,rfl,(h3 0 c cv v rfl rfl rfl).1,Q4q (cs:=cs) ⟨by simpa using h1,by simpa using h2,λj c' cv' v' a b d=>h3 (j+1) c' cv' v' (by simpa using a) (by simpa using b) (by simpa using d)⟩⟩
theorem Q4t:∀{l:List CT} {ss:List SC} {vs:List V},Q4n l=some ss->okCL l vs->okSL ss vs
 |[],ss,vs,h,hv=>by simp [Q4n] at h;subst h;exact hv
 |
  c::l,ss,vs,h,hv=>by
  simp only [Q4n,Option.bind_eq_some_iff,Option.map_eq_some_iff] at h
  obtain ⟨x,hx,y,hy,rfl⟩:=h
  obtain ⟨v,r,rfl,h1,h2⟩:=hv
  refine ⟨v,r,rfl,?_,Q4t hy h2⟩
  cases c with
  |sc c=>simp [scOf] at hx;subst hx;exact h1
  |sl _=>simp [scOf] at hx
theorem Q4v:∀{l:List CT} {ss:List SC},Q4n l=some ss->ss.length=l.length
 |[],ss,h=>by simp [Q4n] at h;subst h;rfl
 |
  c::l,ss,h=>by
  simp only [Q4n,Option.bind_eq_some_iff,Option.map_eq_some_iff] at h
  obtain ⟨x,hx,y,hy,rfl⟩:=h
  simp [Q4v hy]
theorem Q4r {α:Type} {Q:Nat->α->Prop}:∀{n:Nat},(∀i,i<n->∃x,Q i x)->∃l:List α,l.length=n/\∀(i:Nat) (x:α),l[i]? = some x->Q i x
 |0,_=>⟨[],rfl,λi x h=>by simp at h⟩
 |
  n+1,h=>by
  obtain ⟨l,h1,h2⟩:=Q4r (n:=n) λi hi=>h i (by omega)
  obtain ⟨x,hx⟩:=h n (by omega)
  refine ⟨l++[x],by simp [h1],λi y hy=>?_⟩
  by_cases hi:i<l.length
  ·rw [List.getElem?_append_left hi] at hy;exact h2 i y hy
  ·rw [List.getElem?_append_right (by omega)] at hy
   have:i-l.length=0:=by
    rcases Nat.lt_or_ge (i-l.length) 1 with h0|h0
    ·omega
    ·rw [List.getElem?_eq_none (by simp;omega)] at hy;simp at hy
   rw [this] at hy;simp at hy;subst hy
   have:i=n:=by omega
   subst this;exact hx
theorem Q4u {α:Type} (z:Nat) (hz:0<z):∀(l:List (List α)) (j:Nat),(∀e∈l,e.length=z)->l.flatten[j]? = (l[j/z]?).bind (·[j%z]?)
 |[],j,_=>by simp
 |
  e::l,j,h=>by
  have he:=h e (by simp)
  rw [List.flatten_cons]
  by_cases hj:j<z
  ·rw [List.getElem?_append_left (by omega),Nat.div_eq_of_lt hj,Nat.mod_eq_of_lt hj];rfl
  ·rw [List.getElem?_append_right (by omega),Q4u z hz l _ (λx hx=>h x (by simp [hx])),he]
   have h1:j/z=(j-z)/z+1:=by rw [<-Nat.add_div_right (j-z) hz,Nat.sub_add_cancel (by omega)]
   have h2:j%z=(j-z)%z:=by rw [<-Nat.add_mod_right (j-z) z,Nat.sub_add_cancel (by omega)]
   rw [h1,h2];rfl
theorem ones {α:Type} {c:SC} {f:α->V} {Q:α->Prop} (hc:∀v,okS c v->∃n,v=f n/\Q n):∀vss:List (List V),(∀r∈vss,okSL [c] r) ->
  ∃zs:List α,vss.flatten=zs.map f/\zs.length=vss.length/\∀n∈zs,Q n
 |[],_=>⟨[],rfl,rfl,by simp⟩
 |
  r::vss,h=>by
  obtain ⟨zs,e1,e2,e3⟩:=ones hc vss λx hx=>h x (by simp [hx])
  obtain ⟨v,l,rfl,hv,hl⟩:=h r (by simp)
  have hl:l=[]:=hl
  subst hl
  obtain ⟨n,rfl,hq⟩:=hc v hv
  exact ⟨n::zs,by simp [e1],by simp [e2],by simpa using ⟨hq,e3⟩⟩
theorem Q4y {W:World} {t e n m:Nat} {ss:List SC} {l:List CT} {a:Addr} {len cap:Nat} (hs:Q4n l=some ss) (hz:0<ss.length) (hl:len<=cap) (hm:cap<=maxLen)
  (h:∀i,i<len->∃cs vs,W.cells? 0 (a.add (i*ss.length)) ss.length=some cs/\Q4i W l cs vs):∃v,okC (.sl ss) v/\Rep0 noO W (.slice (some a) len cap) v:=by
 obtain ⟨rows,h1,h2⟩:=Q4r h
 have hsl:=Q4v hs
 have hrow:∀(i:Nat) (r:List Value),rows[i]? = some r->∃vs:List V,r.length=ss.length/\okSL ss vs/\vs.length=ss.length/\∀(j:Nat) (cv:Value) (v:V),r[j]? = some cv->vs[j]? = some v->W.cell? (a.add (i*ss.length+j))=some cv/\Rep0 noO W cv v/\cv.oneCell'=true:=by
  intro i r hr
  obtain ⟨vs,hc,hv⟩:=h2 i r hr
  obtain ⟨_,hlen,hcell⟩:=World.cells?_some hc
  refine ⟨vs,hlen,Q4t hs (Q4q hv),hv.2.1.trans hsl.symm,λj cv v hj hjv=>?_⟩
  have hjl:j<l.length:=by have:=(List.getElem?_eq_some_iff.1 hj).1;omega
  have:=hv.2.2 j l[j] cv v (by simp) hj hjv
  refine ⟨?_,this.2⟩
  rw [<-Go.Deep.add_add,hcell j (by omega),hj]
 have hall:∀i,i<rows.length->∃vs:List V,okSL ss vs/\vs.length=ss.length/\∀(j:Nat) (v:V),vs[j]? = some v->∃cv,W.cell? (a.add (i*ss.length+j))=some cv/\Rep0 noO W cv v/\cv.oneCell'=true:=by
  intro i hi
  obtain ⟨vs,q1,q2,q3,q4⟩:=hrow i rows[i] (by simp [hi])
  refine ⟨vs,q2,q3,λj v hv=>?_⟩
  have:j<ss.length:=by have:=(List.getElem?_eq_some_iff.1 hv).1;omega
  exact ⟨_,q4 j (rows[i][j]'(by omega)) v (by simp) hv⟩
 obtain ⟨vss,g1,g2⟩:=Q4r hall
 have hvlen:∀e∈vss,e.length=ss.length:=λe he=>by obtain ⟨i,hi,rfl⟩:=List.getElem_of_mem he;exact (g2 i _ (by simp [hi])).2.1
 have gen:∀v:V,flatV v=some (len,vss.flatten)->isExact v=false->Rep0 noO W (.slice (some a) len cap) v:=by
  intro v hf hx
  have hcell:∀(j:Nat) (v:V),vss.flatten[j]? = some v->∃cv,W.cell? (a.add j)=some cv/\Rep0 noO W cv v/\cv.oneCell'=true:=by
   intro j v hv
   rw [Q4u ss.length hz vss j hvlen] at hv
   obtain ⟨r,hr,hv⟩:=Option.bind_eq_some_iff.1 hv
   obtain ⟨cv,k1,k2⟩:=(g2 _ r hr).2.2 _ v hv
   refine ⟨cv,?_,k2⟩
   rw [show j=j/ss.length*ss.length+j%ss.length by rw [Nat.mul_comm];exact (Nat.div_add_mod j ss.length).symm]
   exact k1
  refine .slice (some a) len cap v vss.flatten (λj=>(W.cell? (a.add j)).getD Go.undef) hf (by simp [hx]) hl (by simp) (λj hj=>?_) (λj hj=>?_) (λj hj=>?_)
  ·obtain ⟨cv,k1,k2,k3⟩:=hcell j _ (List.getElem?_eq_getElem hj)
   exact ⟨a,rfl,λh=>h.elim,by rw [k1];rfl⟩
  ·obtain ⟨cv,k1,k2,k3⟩:=hcell j _ (List.getElem?_eq_getElem hj)
   rw [k1];exact k3
  ·obtain ⟨cv,k1,k2,k3⟩:=hcell j _ (List.getElem?_eq_getElem hj)
   rw [k1];exact k2
 have hlen':vss.length=len:=by omega
 have recs:∃v,(∃l,v=V.recs false ss.length l/\(∀r∈l,okSL ss r)/\l.length<=maxLen)/\Rep0 noO W (.slice (some a) len cap) v:=by
  refine ⟨.recs false ss.length vss,⟨vss,rfl,λr hr=>?_,by omega⟩,gen _ ?_ rfl⟩
  ·obtain ⟨i,hi,rfl⟩:=List.getElem_of_mem hr;exact (g2 i _ (by simp [hi])).1
  ·simp only [flatV];rw [if_pos ⟨hz,hvlen⟩,hlen']
 match ss,hs,hz,recs,g2,gen,hvlen with
 |[],_,hz,_,_,_,_=>simp at hz
 |[.b],_,_,recs,_,_,_=>exact recs
 |x::y::_,_,_,recs,_,_,_=>exact by cases x<;>exact recs
 |
  [.i k],_,_,recs,g2,gen,hvlen=>
  obtain ⟨zs,e1,e2,e3⟩:=ones (c:=.i k) (f:=V.int k) (λv h=>h) vss λr hr=>by
   obtain ⟨i,hi,rfl⟩:=List.getElem_of_mem hr;exact (g2 i _ (by simp [hi])).1
  refine ⟨.ints false k zs,⟨zs,rfl,e3,by omega⟩,gen _ ?_ rfl⟩
  simp only [flatV];rw [e1,e2,hlen']
 |
  [.s],_,_,recs,g2,gen,hvlen=>
  obtain ⟨zs,e1,e2,e3⟩:=ones (c:=.s) (f:=V.str) (λv h=>h) vss λr hr=>by
   obtain ⟨i,hi,rfl⟩:=List.getElem_of_mem hr;exact (g2 i _ (by simp [hi])).1
  refine ⟨.strs false zs,⟨zs,rfl,e3,by omega⟩,gen _ ?_ rfl⟩
  simp only [flatV];rw [e1,e2,hlen']
theorem Q40 {W:World} {ss:List SC} (hz:0<ss.length):∃v,okC (.sl ss) v/\Rep0 noO W (.slice none 0 0) v:=by
 have gen:∀v:V,flatV v=some (0,[])->isExact v=false->Rep0 noO W (.slice none 0 0) v:=λv hf hx=>
  .slice none 0 0 v [] (λ_=>Go.undef) hf (by simp [hx]) (Nat.le_refl _) (λ_=>rfl) (λj hj=>by simp at hj) (λj hj=>by simp at hj) (λj hj=>by simp at hj)
 match ss,hz with
 |[.i k],_=>exact ⟨.ints false k [],⟨[],rfl,by simp,by simp⟩,gen _ rfl rfl⟩
 |[.s],_=>exact ⟨.strs false [],⟨[],rfl,by simp,by simp⟩,gen _ rfl rfl⟩
 |[.b],_=>exact ⟨.recs false 1 [],⟨[],rfl,by simp,by simp⟩,gen _ (by simp [flatV]) rfl⟩
 |a::a'::ss,_=>exact ⟨.recs false (a::a'::ss).length [],by cases a<;>exact ⟨[],rfl,by simp,by simp⟩,gen _ (by simp [flatV]) rfl⟩
section
variable {H:Type} {enc:TypeId×Value->H} {P:Program} {W:World}
theorem Q4p:∀(n:Nat) (t:TypeId) (l:List CT),cts P n t=some l->∀(fuel:Nat) (cs:List Value) (x:DataW H×List MemPlace),DataW.trod enc P W 0 (λ_=>true) true fuel t cs=some x ->
  ∃vs,Q4i W l cs vs
 |0,t,l,h,_,_,_,_=>by simp [cts] at h
 |
  n+1,t,l,h,fuel,cs,x,hx=>by
  unfold cts at h
  split at h
  ·rename_i ht
   simp at h;subst h
   obtain ⟨bb,rfl,_⟩:=DataW.trod_bool ht hx
   exact ⟨[.bool bb],Q4o ⟨⟨bb,rfl⟩,.bool bb,rfl⟩⟩
  ·rename_i k ht
   simp at h;subst h
   obtain ⟨b,rfl,_,hw⟩:=DataW.trod_int ht hx
   exact ⟨[.int k b],Q4o ⟨⟨b,rfl,hw⟩,.int k b,rfl⟩⟩
  ·rename_i ht
   simp at h;subst h
   obtain ⟨b,rfl,_,hw⟩:=DataW.trod_string ht hx
   exact ⟨[.str b.data.toList],Q4o ⟨⟨_,rfl,by simpa using hw⟩,.str _ _ rfl,rfl⟩⟩
  ·rename_i fs ht
   obtain ⟨l',h1,h2⟩:=Option.bind_eq_some_iff.1 h
   split at h2
   case isFalse=>simp at h2
   rename_i hsz
   simp at h2;subst h2
   obtain ⟨xs,m,_,_,hlen,hxl,hf⟩:=DataW.trod_struct ht hx
   have key:∀(gs:List Field) (off:Nat) (l':List CT),ctsF P (cts P n) off gs=some l'->(∀f∈gs,∃y,DataW.trod enc P W 0 (λ_=>true) true m f.type ((cs.drop f.offset).take (P.cellsOf f.type))=some y) ->
     ∃vs,Q4i W l' ((cs.drop off).take l'.length) vs:=by
    intro gs
    induction gs with
    |nil=>intro off l' h _;simp [ctsF] at h;subst h;exact ⟨[],by simpa using cellsR_nil W⟩
    |
     cons f gs ih=>
     intro off l' h hg
     unfold ctsF at h
     split at h
     case isFalse=>simp at h
     rename_i hoff
     obtain ⟨lf,h1,h2⟩:=Option.bind_eq_some_iff.1 h
     split at h2
     case isFalse=>simp at h2
     rename_i hsz
     obtain ⟨l2,h3,rfl⟩:=Option.map_eq_some_iff.1 h2
     obtain ⟨y,hy⟩:=hg f (by simp)
     obtain ⟨vs1,c1⟩:=Q4p n f.type lf h1 m _ y hy
     obtain ⟨vs2,c2⟩:=ih _ _ h3 λf' hf'=>hg f' (by simp [hf'])
     refine ⟨vs1++vs2,?_⟩
     have hc:=Q4w c1 c2
     rw [hoff,hsz] at hc
     have hl1:lf.length<=(cs.drop off).length:=by
      have:=c1.1;rw [hoff,hsz,List.length_take] at this;omega
     rw [List.length_append,List.take_add,List.drop_drop]
     exact hc
   have hall:∀f∈fs.toList,∃y,DataW.trod enc P W 0 (λ_=>true) true m f.type ((cs.drop f.offset).take (P.cellsOf f.type))=some y:=by
    intro f hf'
    obtain ⟨i,hi,rfl⟩:=List.getElem_of_mem hf'
    have hi':i<fs.size:=by simpa using hi
    have:=hf i (fs.toList[i]) (by simp [hi'])
    rw [List.getElem?_eq_getElem (by omega)] at this
    exact ⟨_,this⟩
   obtain ⟨vs,hv⟩:=key fs.toList 0 _ h1 hall
   refine ⟨vs,?_⟩
   rwa [List.drop_zero,List.take_of_length_le (by omega)] at hv
  ·rename_i m e ht
   obtain ⟨l',h1,h2⟩:=Option.bind_eq_some_iff.1 h
   split at h2
   case isFalse=>simp at h2
   rename_i hsz
   simp at h2;subst h2
   obtain ⟨xs,q,_,_,hlen,hxl,hf⟩:=DataW.trod_array ht hx
   have key:∀(k:Nat),k<=m->∃vs,Q4i W (ctsA l' k) ((cs.drop ((m-k)*l'.length)).take (k*l'.length)) vs:=by
    intro k
    induction k with
    |zero=>intro _;exact ⟨[],by simpa [ctsA] using cellsR_nil W⟩
    |
     succ k ih=>
     intro hk
     obtain ⟨vs2,c2⟩:=ih (by omega)
     have h3:=hf (m-(k+1)) (by omega)
     rw [List.getElem?_eq_getElem (by omega)] at h3
     obtain ⟨vs1,c1⟩:=Q4p n e l' h1 q _ _ h3
     refine ⟨vs1++vs2,?_⟩
     have hc:=Q4w c1 c2
     rw [hsz.1] at hc
     have e1:(m-k)*l'.length=(m-(k+1))*l'.length+l'.length:=by
      rw [<-Nat.succ_mul];congr 1;omega
     have e2:(k+1)*l'.length=l'.length+k*l'.length:=by rw [Nat.succ_mul,Nat.add_comm]
     rw [e1,<-List.drop_drop] at hc
     rw [e2,List.take_add]
     exact hc
   obtain ⟨vs,hv⟩:=key m (Nat.le_refl _)
   refine ⟨vs,?_⟩
   rwa [Nat.sub_self,Nat.zero_mul,List.drop_zero,List.take_of_length_le (by omega)] at hv
  ·rename_i e ht
   obtain ⟨l',h1,h2⟩:=Option.bind_eq_some_iff.1 h
   obtain ⟨ss,h3,h4⟩:=Option.bind_eq_some_iff.1 h2
   split at h4
   case isFalse=>simp at h4
   rename_i hsz
   simp at h4;subst h4
   rcases Go.Deep.open_slice ht hx with ⟨rfl,_⟩|⟨a,len,cap,m,q,D,Pl,rfl,_,hl,hm,hmm,_,hi⟩
   ·obtain ⟨v,k1,k2⟩:=Q40 (W:=W) hsz.2
    exact ⟨[v],Q4o ⟨k1,k2,rfl⟩⟩
   ·simp only [if_true] at hmm
    subst hmm
    rw [hsz.1] at hi
    obtain ⟨v,k1,k2⟩:=Q4y (t:=0) (e:=0) (n:=0) (m:=0) h3 hsz.2 hl hm λi hi'=>by
     obtain ⟨cs',c1,c2⟩:=hi i (by omega)
     obtain ⟨vs,c3⟩:=Q4p n e l' h1 q _ _ c2
     exact ⟨cs',vs,c1,c3⟩
    exact ⟨[v],Q4o ⟨k1,k2,rfl⟩⟩
  ·simp at h
inductive AT where
 |one (c:CT)
 |agg (l:List CT)
def okA:AT->V->Prop
 |.one c,v=>okC c v
 |.agg l,v=>∃vs,v=.agg vs/\okCL l vs
def okAL:List AT->List V->Prop
 |[],vs=>vs=[]
 |c::cs,vs=>∃v l,vs=v::l/\okA c v/\okAL cs l
def atOf (P:Program) (n:Nat) (t:TypeId):Option AT:=
 (cts P n t).bind λl=>match P.underlying t with
  |some (.struct _)|some (.array _ _)=>some (.agg l)
  |
   _=>match l with
   |[c]=>some (.one c)
   |_=>none
def Q4f (P:Program) (n:Nat):List TypeId->Option (List AT)
 |[]=>some []
 |t::ts=>(atOf P n t).bind λx=>(Q4f P n ts).map (x :: ·)
theorem Q42 {n:Nat} {t:TypeId} {q:AT} (hq:atOf P n t=some q) {base:Nat} {v:Value} {d:DataW H} {ps:List MemPlace} (hval:Value.okWide P W .any base t v) (h:DataW.Trod enc P W 0 (λ_=>true) true t v d ps) :
  ∃x,okA q x/\Rep0 noO W v x:=by
 obtain ⟨l,h1,h2⟩:=Option.bind_eq_some_iff.1 hq
 obtain ⟨fuel,hf⟩:=h
 obtain ⟨vs,hv⟩:=Q4p n t l h1 fuel _ _ hf
 have aggCase:(∃cs,v=.agg cs)->∃x,okA (.agg l) x/\Rep0 noO W v x:=by
  rintro ⟨cs,rfl⟩
  have hc:(Value.agg cs).cells.toList=cs.toList:=rfl
  rw [hc] at hv
  refine ⟨.agg vs,⟨vs,rfl,Q4q hv⟩,.agg cs vs (by have:=hv.1;have:=hv.2.1;simp at *;omega) (λj hj=>?_) (λj hj=>?_)⟩ <;>
  ·have hj1:j<cs.size:=by have:=hv.1;have:=hv.2.1;simp at *;omega
   have:=hv.2.2 j (l[j]'(by have:=hv.2.1;omega)) cs[j] vs[j] (by simp) (by simp [hj1]) (by simp)
   have e:cs.getD j Go.undef=cs[j]:=by simp [Array.getD,hj1]
   rw [e]
   first|exact this.2.2|exact this.2.1
 split at h2
 ·rename_i fs ht
  simp at h2;subst h2
  obtain ⟨cs,rfl,_⟩:=okWide_struct ht hval
  exact aggCase ⟨cs,rfl⟩
 ·rename_i m e ht
  simp at h2;subst h2
  unfold Value.okWide at hval
  rw [ht] at hval
  obtain ⟨cs,rfl,_⟩:=hval
  exact aggCase ⟨cs,rfl⟩
 ·rename_i hns hna
  split at h2
  case h_2=>simp at h2
  rename_i c
  simp at h2;subst h2
  obtain ⟨a1,a2,a3⟩:=hv
  match vs,a2 with
  |
   [x],_=>
   have hcells:v.cells = #[v]:=by
    cases v with
    |
     agg cs=>
     exfalso
     unfold Value.okWide at hval
     cases n with
     |zero=>simp [cts] at h1
     |
      succ n=>
      unfold cts at h1
      split at h1<;>rename_i ht
      ·rw [ht] at hval;simp [Cell.okWide,Cell.ok,ht] at hval
      ·rw [ht] at hval;simp [Cell.okWide,Cell.ok,ht] at hval
      ·rw [ht] at hval;simp [Cell.okWide,Cell.ok,ht] at hval
      ·exact hns _ ht
      ·exact hna _ _ ht
      ·rw [ht] at hval;simp [Cell.okWide,Cell.ok,ht] at hval
      ·simp at h1
    |_=>rfl
   rw [hcells] at a3
   have:=a3 0 c v x rfl rfl rfl
   exact ⟨x,this.1,this.2.1⟩
theorem Q4x {n:Nat}:∀{ts:List TypeId} {qs:List AT} {args:List Value} {ds:List (DataW H)} {ps:List MemPlace} {base:Nat},Q4f P n ts=some qs->DataW.TrodAll enc P W 0 (λ_=>true) true ts args ds ps ->
  (∀(j:Nat) t v,ts[j]? = some t->args[j]? = some v->Value.okWide P W .any base t v) ->
  ∃vs,args.length=vs.length/\okAL qs vs/\∀j (h:j<vs.length),Rep0 noO W (args.getD j Go.undef) vs[j]
 |
  [],qs,args,ds,ps,base,hq,h,_=>by
  simp [Q4f] at hq;subst hq
  obtain ⟨rfl,rfl,rfl⟩:=trodAll_nil h
  exact ⟨[],rfl,rfl,λj h=>by simp at h⟩
 |
  t::ts,qs,args,ds,ps,base,hq,h,hval=>by
  simp only [Q4f,Option.bind_eq_some_iff,Option.map_eq_some_iff] at hq
  obtain ⟨q,hq1,qs',hq2,rfl⟩:=hq
  obtain ⟨v,vs,d,ds',p,p',rfl,rfl,rfl,h1,h2⟩:=trodAll_cons h
  obtain ⟨x,k1,k2⟩:=Q42 hq1 (hval 0 t v rfl rfl) h1
  obtain ⟨xs,l1,l2,l3⟩:=Q4x hq2 h2 λj t v a b=>hval (j+1) t v (by simpa using a) (by simpa using b)
  refine ⟨x::xs,by simp [l1],⟨x,xs,rfl,k1,l2⟩,λj hj=>?_⟩
  cases j with
  |zero=>exact k2
  |succ j=>simpa using l3 j (by simpa using hj)
theorem Q41 {ts:List TypeId} (hl:laidOutB P=true) (hr:ts.all (λt=>P.readableRec t&&decide (t<P.types.size))=true) {W':World} (hb:Below W.heap.size W W') {sp:Nat->Bool} :
  ∀
   {vs:List Value} {ds:List (DataW H)} {ps:List MemPlace},DataW.TrodAll enc P W 0 (λ_=>true) true ts vs ds ps->(∀x∈ps,x.block<W.heap.size)->(∀x∈ps,sp x.block=true) ->
   DataW.TrodAll enc P W' 0 sp true ts vs ds ps:=by
 induction ts with
 |
  nil=>
  intro vs ds ps h _ _
  obtain ⟨rfl,rfl,rfl⟩:=trodAll_nil h
  exact trodAll_mk0
 |
  cons t ts ih=>
  intro vs ds ps h hlt hsp
  obtain ⟨v,vs',d,ds',p,p',rfl,rfl,rfl,h1,h2⟩:=trodAll_cons h
  simp only [List.all_cons,Bool.and_eq_true,decide_eq_true_eq] at hr
  exact trodAll_cons_mk (WideElems.Trod_stays hl hr.1.1 hr.1.2 h1 (λx hx=>hb.same (hlt x (by simp [hx]))) (λx hx=>hsp x (by simp [hx])))
   (ih hr.2 h2 (λx hx=>hlt x (by simp [hx])) (λx hx=>hsp x (by simp [hx])))
theorem Q4z {f:Func} {s:ChangeSpec} {apart fresh handsOn again:Bool} {W W':World} {args:Array Value} {v:Value} {ds gs:List (DataW H)} {before pa pv:List MemPlace}
  (hW:DataW.Whole enc P f.params.toList s.vars apart W args.toList ds gs before)
  (hres:∀(b:Nat) (sp:Nat->Bool) (hd:Bool),DataW.TrodAll enc P W' b sp hd f.resultTypes.toList (v.resultList f.resultTypes.size) (s.fn H (ds++gs)).results [])
  (hargs:∀sp:Nat->Bool,(∀p∈before,sp p.block=true)->DataW.TrodAll enc P W' 0 sp true f.params.toList args.toList (s.fn H (ds++gs)).args pa)
  (hvars:∀sp:Nat->Bool,(∀p∈before,sp p.block=true)->DataW.TrodVars enc P W' sp s.vars (s.fn H (ds++gs)).vars pv)
  (hps:before=pa++pv) (hb:Below W.heap.size W W')
  (hok:∀(j:Nat) (t:TypeId) (r:Value),f.resultTypes[j]? = some t->(v.resultList f.resultTypes.size)[j]? = some r->Value.okWide P W' .any 0 t r) :
  s.post enc P f apart fresh handsOn again W args v W':=by
 have hlt:∀p∈before,p.block<W.heap.size:=λp hp=>hW.lt p hp
 have hold:∀p∈before,(λb=>decide (b<W.heap.size)) p.block=true:=λp hp=>by simpa using hlt p hp
 refine ⟨ds,gs,before,[],pa,pv,hW,hres _ _ _,hargs _ hold,hvars _ hold,World.keptBut_mono (λp hp=>⟨hp,?_⟩) (hb.frame (·∈before)),λ_=>?_⟩
 ·rw [hps,List.mem_append] at hp
  exact Or.inr hp
 ·obtain ⟨_,_,_,_,_,hz,hn⟩:=hW
  refine ⟨hok,_,_,([]++pa)++pv,⟨[]++pa,pv,trodAll_append (hargs _ (λ_ _=>rfl)) (hres _ _ _),hvars _ (λ_ _=>rfl),rfl,?_,?_⟩,?_⟩
  ·intro b off hp
   have hin:MemPlace.cell b off∈before:=by rw [hps];simpa using hp
   rw [hb.frozen (hlt _ hin)]
   exact hz b off hin
  ·intro ha
   have:=hn ha
   rw [hps] at this
   simpa using this
  ·intro p hp _
   rw [hps]
   simpa using hp
theorem Q4h {g:Nat} {f:Func} {c:Code} (hf:FunOK P g f c) {s:ChangeSpec} {n:Nat} {qs:List AT} {tb:TypeId} (hl:laidOutB P=true) (hr:f.params.toList.all (λt=>P.readableRec t&&decide (t<P.types.size))=true)
  (hq:Q4f P n f.params.toList=some qs) (hres:f.resultTypes = #[tb]) (htb:P.underlying tb=some .bool) (hv:s.vars=[])
  (hs:∀ds:List (DataW H),ds.length=f.params.toList.length->s.fn H ds={results:=[.lit (.bool true)],args:=ds})
  (plain:∀vs,okAL qs vs->∃p r,SoundC P g vs p/\p.m=some r/\p.enc r=.bool true)
  (W:World) (base:Nat) (args:Array Value) (ds gs:List (DataW H)) (before:List MemPlace)
  (hval:∀(j:Nat) t v,f.params[j]? = some t->args[j]? = some v->Value.okWide P W .any base t v)
  (hW:DataW.Whole enc P f.params.toList s.vars false W args.toList ds gs before) :
  Calls P g args W λe W'=>∃v,e=.returned v/\s.post enc P f false true false false W args v W':=by
 have hW':=hW
 have hlt:∀p∈before,p.block<W.heap.size:=λp hp=>hW.lt p hp
 obtain ⟨p,q,hA,hV,rfl,hfz,hnd⟩:=hW
 have hA:DataW.TrodAll enc P W 0 (λ_=>true) true f.params.toList args.toList ds p:=hA
 rw [hv] at hV
 obtain ⟨rfl,rfl⟩:=trodVars_none hV
 obtain ⟨vs,h1,h2,h3⟩:=Q4x hq hA λj t v a b=>hval j t v (by simpa using a) (by simpa using b)
 obtain ⟨pk,r,hsound,hm,he⟩:=plain vs h2
 have hcall:=hsound noO W args r hm (by simpa using h1) (λj hj=>by
  have h4:=h3 j hj
  have:args.getD j Go.undef=args.toList.getD j Go.undef:=by
   have hj':j<args.size:=by rw [<-Array.length_toList,h1];exact hj
   simp [Array.getD,List.getD,hj']
  rwa [this]) (λb h=>h.elim)
 unfold CallR at hcall
 rw [hf.enters] at hcall
 have hlen:∀{ts:List TypeId} {vs:List Value} {ds:List (DataW H)} {ps:List MemPlace},DataW.TrodAll enc P W 0 (λ_=>true) true ts vs ds ps->ds.length=ts.length:=by
  intro ts
  induction ts with
  |nil=>intro vs ds ps h;obtain ⟨_,rfl,_⟩:=trodAll_nil h;rfl
  |cons t ts ih=>intro vs ds ps h;obtain ⟨_,_,_,_,_,_,_,rfl,_,_,h2⟩:=trodAll_cons h;simp [ih h2]
 refine hcall.mono λe W' h=>?_
 cases e with
 |
  returned cv=>
  obtain ⟨hg,hrep⟩:=h
  rw [he] at hrep
  obtain rfl:cv=.bool true:=by
   cases hrep
   ·rfl
   ·rename_i hf _;cases hf
  have hb:Below W.heap.size W W':=⟨hg.os,hg.tape,hg.output,hg.size,λk hk=>hg.block k hk (by simp)⟩
  have hfn:=hs ds (hlen hA)
  refine ⟨_,rfl,Q4z (pa:=p) (pv:=[]) hW' ?_ ?_ ?_ rfl hb ?_⟩
  ·intro b sp hd
   rw [List.append_nil,hfn,hres]
   exact trodAll_cons_mk (shut_bool htb _) trodAll_mk0
  ·intro sp hsp
   rw [List.append_nil,hfn]
   exact Q41 hl hr hb hA (λx hx=>hlt x (by simp [hx])) (λx hx=>hsp x (by simp [hx]))
  ·intro sp hsp
   rw [List.append_nil,hfn,hv]
   rfl
  ·exact ok_one hres rfl (okWide_bool_mk htb _)
 |_=>exact h.elim
end
end
end Go.Proofs.YtgjncgiekniniaaGreatDoor.A
end
section
namespace Go.Proofs.YtgjncgiekniniaaGreatDoor.A
open Go
theorem own:ownKnob Tryz.prog.godebug=none:=by kernel_rfl
theorem laidOut:laidOutB Tryz.prog=true:=by kernel_rfl
theorem rowed:mapsRowed Tryz.prog=true:=by kernel_rfl
theorem Q4j:(Tryz.prog.stops == [])=true:=by kernel_rfl
theorem Q4l:(Tryz.prog.stopKnobs == [])=true:=by kernel_rfl
theorem Q4g:Tryz.prog.stopsHeard=true:=by kernel_rfl
theorem Q4k:Tryz.prog.mayEnter=true:=by kernel_rfl
theorem Q4m:false=Tryz.prog.looks []:=by kernel_rfl
theorem main:Tryz.pinned.checked.prog.mainIs=some (true,("d4ffbc68b08c28ac251f33799dbb1d7e972ab3df77886f5ed4ce34a153cf9881":String).toList):=by kernel_rfl
noncomputable def relay (l:List Int):Obj->Obj
 |.cells _ t fz=>.cells (l.map λn=>Value.int .u8 n).toArray t fz
 |o=>o
noncomputable def accept:List Int:=[128,191,160,191,128,159,144,191,128,143,0,0,0,0,0,0,0,0,0,0,0,0,0,0,0,0,0,0,0,0,0,0]
noncomputable def Q4e (os:Os):World:=
 let w:=World.holding Tryz.prog os ⟨#[],#[],[]⟩
 {w with heap:=(w.heap.modify 3 (relay (Go.Pinned.utf8FirstZ.map Int.ofNat))).modify 4 (relay accept)}
theorem Qhl {n:Int} (h:(Lit.int .u64 n).wf=true):0<=n/\n<18446744073709551616:=by
 simp [Lit.wf,IntKind.min,IntKind.max,IntKind.signed,IntKind.bits] at h;omega
theorem Qc4 {n:Int} (h:(Lit.int .u32 n).wf=true):0<=n/\n<4294967296:=by
 simp [Lit.wf,IntKind.min,IntKind.max,IntKind.signed,IntKind.bits] at h;omega
theorem Qb9 {n:Int} (h:(Lit.int .u16 n).wf=true):0<=n/\n<65536:=by
 simp [Lit.wf,IntKind.min,IntKind.max,IntKind.signed,IntKind.bits] at h;omega
theorem Qs {n:Int} (h:(Lit.int .u8 n).wf=true):0<=n/\n<256:=by
 simp [Lit.wf,IntKind.min,IntKind.max,IntKind.signed,IntKind.bits] at h;omega
theorem Qkb {B:Nat} {l l':List Int}:inB B (l++l')↔inB B l/\inB B l':=by
 simp only [inB,List.mem_append]
 exact ⟨λh=>⟨λx hx=>h x (.inl hx),λx hx=>h x (.inr hx)⟩,λh x hx=>hx.elim (h.1 x) (h.2 x)⟩
theorem Qwb {B:Nat} (hB:2<=B) (i:Nat):∀n,(toB B n).getD i 0=((n/B^i%B:Nat):Int):=by
 induction i with
 |
  zero=>
  intro n
  rcases Nat.eq_zero_or_pos n with rfl|hn
  ·simp [toB_zero]
  ·rw [Wg hB hn];simp
 |
  succ i ih=>
  intro n
  rcases Nat.eq_zero_or_pos n with rfl|hn
  ·simp [toB_zero]
  ·rw [Wg hB hn,List.getD_cons_succ,ih,Nat.div_div_eq_div_mul,Nat.pow_succ,Nat.mul_comm B]
abbrev dg (n:Nat):List Int:=toB 10000 n
theorem b4:2<=10000:=by decide
theorem Qcf {l:List Int} (hl:inB 10000 l) (hs:Qaw l):z14.F l=some (dg (valB 10000 l).toNat):=Qmj b4 hl hs
theorem Qgb {l:List Int} {i:Nat}:z13.F l (i:Int)=some (l.getD i 0):=by
 unfold z13.F
 by_cases h:(i:Int)>=(l.length:Int)
 ·rw [bif_t h]
  have:l.getD i 0=0:=by simp [List.getD,List.getElem?_eq_none (show l.length<=i by omega)]
  rw [this]
 ·rw [Qa h,if_pos (by omega),Zi]
theorem Qfk {n:Nat} (hn:n<9223372036854775808):z8.F (n:Int)=some (dg n):=by
 have key:∀(n:Nat),n<9223372036854775808->∀s:List Int,Qaw s->(s.length+(dg n).length<=1000000000)->Runs (λrec x=>z8.l0P rec some x) ((n:Int),s) ((0:Int),s++dg n):=by
  intro n
  induction n using Nat.strongRecOn with
  |
   _ n ih=>
   intro hn s hs hl
   rcases Nat.eq_zero_or_pos n with rfl|h0
   ·refine .done λrec=>?_
    simp [z8.l0P,toB_zero]
   ·have e:dg n=((n%10000:Nat):Int)::dg (n/10000):=Wg b4 h0
    have hd:n/10000<n:=Nat.div_lt_self h0 (by decide)
    rw [e] at hl ⊢
    have h2:=ih (n/10000) hd (by omega) (s++[((n%10000:Nat):Int)]) (by simp at *;omega) (by simp at *;omega)
    rw [List.append_assoc,List.singleton_append] at h2
    refine .step (λrec=>?_) h2
    unfold z8.l0P
    simp only
    have e1:Int.tmod (n:Int) 10000=((n%10000:Nat):Int):=by rw [Yk (by omega)];rfl
    have e2:wr .i64 (Int.tdiv (n:Int) 10000)=((n/10000:Nat):Int):=by rw [Yd (by omega),Qc (by omega) (by omega)];rfl
    rw [bif_t (by omega),if_pos (by simp at *;omega),e1,e2]
 unfold z8.F z8.l0
 have hl:(dg n).length<=5:=Yj b4 (by omega)
 rw [(key n hn [] (by simp) (by simp;omega)).lfp]
 simp
def dig4 (d:Int):List Int:=[d%10,d/10%10,d/100%10,d/1000%10]
theorem Qxi {d:Int} (h0:0<=d):inB 10 (dig4 d):=by
 intro x hx;simp [dig4] at hx;rcases hx with rfl|rfl|rfl|rfl<;>omega
theorem Qu3 {d:Int} (h0:0<=d) (h:d<10000):valB 10 (dig4 d)=d:=by simp [dig4,valB];omega
theorem Qsx:∀{l:List Int},inB 10000 l->inB 10 (l.flatMap dig4)
 |[],_=>inB_nil 10
 |x::l,h=>by rw [Wt] at h;rw [List.flatMap_cons,Qkb];exact ⟨Qxi h.1.1,Qsx h.2⟩
theorem Qrt:∀{l:List Int},inB 10000 l->valB 10 (l.flatMap dig4)=valB 10000 l
 |[],_=>rfl
 |
  x::l,h=>by
  rw [Wt] at h
  rw [List.flatMap_cons,Qdy,Qu3 h.1.1 h.1.2,Qrt h.2]
  simp [dig4,valB]
theorem Qie:∀(l:List Int),(l.flatMap dig4).length=4*l.length
 |[]=>rfl
 |x::l=>by rw [List.flatMap_cons,List.length_append,Qie l];simp [dig4];omega
theorem Q1a (s:List UInt8) (hs:Qaw s) (d:Int) (h0:0<=d) (hd:d<10000):∃d',z5.l2 (s,d,(0:Int))=some (((dig4 d).reverse.map ch)++s,d',4):=by
 have hs':s.length<=1000000000:=hs
 have one:∀(s:List UInt8) (d:Int) (k:Nat),s.length<=1000000004->0<=d->d<10000->k<4->∀rec,z5.l2P rec some (s,d,(k:Int))=rec (ch (d%10)::s,d/10,((k+1:Nat):Int)):=by
  intro s d k hs h0 hd hk rec
  unfold z5.l2P
  simp only
  rw [bif_t (by omega),if_pos (by simp;omega),Yk h0,Yd h0,Qc (n:=48+d%10) (by omega) (by omega),Qgd (by omega) (by omega),Qc (n:=d/10) (by omega) (by omega),Qc (by omega) (by omega)]
  have:(48+d%10).toNat=48+(d%10).toNat:=by omega
  simp [ch,this]
 refine ⟨d/10/10/10/10,?_⟩
 unfold z5.l2
 refine Runs.lfp (.step (one s d 0 (by omega) h0 hd (by decide)) (.step (one _ (d/10) 1 (by simp;omega) (by omega) (by omega) (by decide)) (.step (one _ (d/10/10) 2 (by simp;omega) (by omega) (by omega) (by decide)) (.step (one _ (d/10/10/10) 3 (by simp;omega) (by omega) (by omega) (by decide)) (.done λrec=>?_)))))
 unfold z5.l2P
 simp only
 rw [Qa (by omega)]
 have e1:d/10/10=d/100:=by omega
 have e2:d/10/10/10=d/1000:=by omega
 simp [dig4,e1,show d/100/10=d/1000 by omega]
theorem Q3h {l:List Int} (hl:inB 10000 l) (hs:4*l.length<=1000000000):z5.l0 l ([],(0:Int))=some ((l.flatMap dig4).reverse.map ch,(l.length:Int)):=by
 have key:∀(k:Nat),k<=l.length->Runs (λrec x=>z5.l0P l rec some x) (((l.take (l.length-k)).flatMap dig4).reverse.map ch,((l.length-k:Nat):Int)) ((l.flatMap dig4).reverse.map ch,(l.length:Int)):=by
  intro k
  induction k with
  |
   zero=>
   intro _
   refine .done λrec=>?_
   unfold z5.l0P
   simp
  |
   succ k ih=>
   intro hk
   have hi:l.length-(k+1)<l.length:=by omega
   have hm:=hl l[l.length-(k+1)] (List.getElem_mem hi)
   obtain ⟨d',h2⟩:=Q1a (((l.take (l.length-(k+1))).flatMap dig4).reverse.map ch) (by
    show List.length _<=_;rw [List.length_map,List.length_reverse,Qie,List.length_take];omega) _ hm.1 hm.2
   refine .step (λrec=>?_) (ih (by omega))
   unfold z5.l0P
   simp only
   rw [bif_t (by omega),if_pos (by omega),Zi,Wa hi,h2]
   simp only [Zb]
   rw [Qc (by omega) (by omega)]
   have e:l.take (l.length-k)=l.take (l.length-(k+1))++[l[l.length-(k+1)]]:=by
    rw [<-List.take_succ_eq_append_getElem hi];congr 1;omega
   have e2:((l.length-(k+1):Nat):Int)+1=((l.length-k:Nat):Int):=by omega
   rw [e,e2,List.flatMap_append]
   simp only [List.flatMap_cons,List.flatMap_nil,List.append_nil,List.reverse_append,List.map_append]
 have:=key l.length (Nat.le_refl _)
 simp only [Nat.sub_self,List.take_zero,List.flatMap_nil,List.reverse_nil,List.map_nil] at this
 exact this.lfp
theorem Qq1 {d:Int} (h0:0<=d) (h:d<10):((ch d).toNat:Int)=48↔d=0:=by rw [Qhh h0 h];omega
theorem Qle {n:Nat} (hs:4*(dg n).length<=1000000000):z5.F (dg n)=some (txt n):=by
 unfold z5.F txt
 by_cases hn:n=0
 ·subst hn;simp [dg,toB_zero]
 ·have hne:dg n≠[]:=λe=>hn ((toB_nil b4).1 e)
  have hlen:=List.length_pos_iff.2 hne
  rw [Qa (by omega),if_neg hn,Q3h (Qx b4 n) hs]
  simp only [Zb]
  generalize hfl:(dg n).flatMap dig4=fl
  have hin:inB 10 fl:=by rw [<-hfl];exact Qsx (Qx b4 n)
  have hv:valB 10 fl=n:=by rw [<-hfl,Qrt (Qx b4 n),Q8 b4]
  have hl:fl.length<=1000000000:=by rw [<-hfl,Qie];exact hs
  have key:∀k:Nat,k<=fl.length->valB 10 (fl.take k)=n->∃m:Nat,m<=k/\Runs (λrec x=>z5.l4P (fl.reverse.map ch) rec some x) ((fl.length-k:Nat):Int) ((fl.length-m:Nat):Int)/\valB 10 (fl.take m)=n/\(m=0\/fl.getD (m-1) 0≠0):=by
   intro k
   induction k with
   |zero=>intro _ h;simp [valB] at h;omega
   |
    succ k ih=>
    intro hk h
    have hi:fl.length-(k+1)<(fl.reverse.map ch).length:=by simp;omega
    have hk':k<fl.length:=by omega
    have hm:=hin fl[k] (List.getElem_mem hk')
    have eg:(fl.reverse.map ch).getD (fl.length-(k+1)) 0=ch fl[k]:=by
     have e0:fl.length-1-(fl.length-(k+1))=k:=by omega
     simp only [List.getD,List.getElem?_eq_getElem hi,Option.getD_some,List.getElem_map,List.getElem_reverse,e0]
    by_cases hz:fl[k]=0
    ·obtain ⟨m,h1,h2,h3,h4⟩:=ih (by omega) (by rw [Yp hk',hz] at h;simpa using h)
     refine ⟨m,by omega,.step (λrec=>?_) h2,h3,h4⟩
     unfold z5.l4P
     rw [if_pos (by simp;omega),Zi,eg,bif_t ((Qq1 hm.1 hm.2).2 hz),Qc (by omega) (by omega)]
     congr 1;omega
    ·refine ⟨k+1,Nat.le_refl _,.done λrec=>?_,h,.inr (by rw [Nat.add_sub_cancel,Wa hk'];exact hz)⟩
     unfold z5.l4P
     rw [if_pos (by simp;omega),Zi,eg,Qa (λe=>hz ((Qq1 hm.1 hm.2).1 e))]
  obtain ⟨m,h1,h2,h3,h4⟩:=key fl.length (Nat.le_refl _) (by rw [List.take_length];exact hv)
  rw [Nat.sub_self] at h2
  unfold z5.l4
  rw [show (0:Int)=((0:Nat):Int) from rfl,h2.lfp]
  simp only [Zb]
  rw [if_pos (by rw [List.length_map,List.length_reverse];omega),Zi]
  have hm:m≠0:=by rintro rfl;simp [valB] at h3;omega
  have e:fl.take m=toB 10 n:=by
   have:=Qhq b10 (l:=fl.take m) (λx hx=>hin x (List.mem_of_mem_take hx)) λhne=>by
    rcases h4 with h4|h4
    ·exact absurd h4 hm
    ·rw [List.getLast_eq_getElem]
     rw [Wa (by omega)] at h4
     simp only [List.length_take,List.getElem_take]
     have:min m fl.length-1=m-1:=by omega
     simp only [this];exact h4
   rwa [h3,Zi] at this
  rw [<-e,<-List.map_drop,List.reverse_take]
theorem Q3y {a b s:List Int} {i k:Nat} {c:Int} (ha:inB 10000 a) (hb:inB 10000 b) (hs:inB 10000 s) (hi:i<a.length) (hk:i+k<s.length) (hsl:s.length<=4000000000) (hc:0<=c/\c<10000) (hgo:k<b.length\/0<c)
  (rec:Int×Int×List Int->Option (Int×Int×List Int)) :
  z15.l2aaP a b (i:Int) rec some (c,(k:Int),s) =
   rec ((s.getD (i+k) 0+a.getD i 0*b.getD k 0+c)/10000,((k+1:Nat):Int),s.set (i+k) ((s.getD (i+k) 0+a.getD i 0*b.getD k 0+c)%10000)):=by
 have h1:=Q2 (by decide) ha i
 have h2:=Q2 (by decide) hb k
 have h3:=Q2 (by decide) hs (i+k)
 have h4:0<=a.getD i 0*b.getD k 0:=Int.mul_nonneg h1.1 h2.1
 have h5:a.getD i 0*b.getD k 0<=9999*9999:=Int.mul_le_mul (by omega) (by omega) h2.1 (by decide)
 have e1:wr .i64 ((i:Int)+k)=((i+k:Nat):Int):=by rw [Qc (by omega) (by omega)];omega
 have e2:wr .i64 (a.getD i 0*b.getD k 0)=a.getD i 0*b.getD k 0:=Qc (by omega) (by omega)
 have e3:wr .i64 (s.getD (i+k) 0+a.getD i 0*b.getD k 0)=s.getD (i+k) 0+a.getD i 0*b.getD k 0:=Qc (by omega) (by omega)
 have e4:wr .i64 (s.getD (i+k) 0+a.getD i 0*b.getD k 0+c)=s.getD (i+k) 0+a.getD i 0*b.getD k 0+c:=Qc (by omega) (by omega)
 have e5:wr .i64 ((k:Int)+1)=((k+1:Nat):Int):=by rw [Qc (by omega) (by omega)];omega
 unfold z15.l2aaP
 simp only [Qgb,Zb,e1,Zi,e2,e3,e4,e5]
 rw [Yd (by omega),Yk (by omega),Qc (n:=(_:Int)/10000) (by omega) (by omega)]
 have c1:(0:Int)<=((i+k:Nat):Int)/\((i+k:Nat):Int)<(s.length:Int):=by omega
 have c2:(0:Int)<=(i:Int)/\(i:Int)<(a.length:Int):=by omega
 simp only [if_pos c1,if_pos hk,if_pos c2]
 by_cases hkb:(k:Int)<(b.length:Int)
 ·rw [bif_t hkb]
 ·rw [Qa hkb,bif_t (show c>0 by omega)]
theorem Qqu {a b:List Int} {i:Nat} {T:Int} (ha:inB 10000 a) (hb:inB 10000 b) (hi:i<a.length) (hT:T<(10000^(i+1+b.length):Nat)) :
  ∀
   (f k:Nat) (c:Int) (s:List Int),inB 10000 s->i+1+b.length<s.length->s.length<=4000000000->0<=c/\c<10000->b.length+2<=k+f ->
   valB 10000 s+(c+a.getD i 0*valB 10000 (b.drop k))*(10000^(i+k):Nat)=T ->
   ∃k' s',Runs (λrec x=>z15.l2aaP a b (i:Int) rec some x) (c,(k:Int),s) ((0:Int),k',s')/\inB 10000 s'/\s'.length=s.length/\valB 10000 s'=T
 |
  f,k,c,s,hs,hl,hl',hc,hf,hv=>by
  have hbd:=Wm (Jb hb k)
  have h1:=Q2 (B:=10000) (by decide) ha i
  have hsv:=Wm hs
  have hab:=Int.mul_nonneg h1.1 hbd
  by_cases hgo:k<b.length\/0<c
  ·have hk:k<=b.length:=by
    rcases hgo with h|h
    ·omega
    ·rcases Nat.lt_or_ge b.length k with hlt|hge
     ·exfalso
      have h2:(10000^(i+1+b.length):Nat)<=10000^(i+k):=Nat.pow_le_pow_right (by decide) (by omega)
      have h3:(1:Int)*(10000^(i+k):Nat)<=(c+a.getD i 0*valB 10000 (b.drop k))*(10000^(i+k):Nat):=Int.mul_le_mul_of_nonneg_right (by omega) (Int.natCast_nonneg _)
      have h4:((10000^(i+1+b.length):Nat):Int)<=(10000^(i+k):Nat):=by exact_mod_cast h2
      omega
     ·exact hge
   match f,hf with
   |0,hf=>omega
   |
    f+1,hf=>
    have h2:=Q2 (B:=10000) (by decide) hb k
    have h3:=Q2 (B:=10000) (by decide) hs (i+k)
    have h4:0<=a.getD i 0*b.getD k 0:=Int.mul_nonneg h1.1 h2.1
    have h5:a.getD i 0*b.getD k 0<=9999*9999:=Int.mul_le_mul (by omega) (by omega) h2.1 (by decide)
    obtain ⟨k',s',r1,r2,r3,r4⟩:=Qqu ha hb hi hT f (k+1) ((s.getD (i+k) 0+a.getD i 0*b.getD k 0+c)/10000) (s.set (i+k) ((s.getD (i+k) 0+a.getD i 0*b.getD k 0+c)%10000))
     (Yc hs (by omega)) (by rw [List.length_set];exact hl) (by rw [List.length_set];exact hl') (by omega) (by omega) (by
      rw [Yl (by omega),<-hv,Wb b k]
      generalize hx:s.getD (i+k) 0+a.getD i 0*b.getD k 0+c=x
      have e1:(10000^(i+(k+1)):Nat)=10000*10000^(i+k):=by rw [<-Nat.add_assoc,Nat.pow_succ,Nat.mul_comm]
      rw [e1,Int.natCast_mul]
      have e2:x=10000*(x/10000)+x%10000:=(Int.mul_ediv_add_emod x 10000).symm
      generalize x/10000=q at *
      generalize x%10000=m at *
      subst e2
      generalize ((10000^(i+k):Nat):Int)=p
      generalize valB 10000 (b.drop (k+1))=w
      generalize a.getD i 0=u at *
      generalize b.getD k 0=v at *
      generalize s.getD (i+k) 0=z at *
      have hc':c=10000*q+m-z-u*v:=by omega
      subst hc'
      grind)
    refine ⟨k',s',.step (λrec=>Q3y ha hb hs hi (by omega) hl' hc hgo rec) r1,r2,by rw [r3,List.length_set],r4⟩
  ·have hc0:c=0:=by omega
   have hkb:b.length<=k:=by omega
   subst hc0
   refine ⟨k,s,.done λrec=>?_,hs,rfl,?_⟩
   ·unfold z15.l2aaP
    simp only
    rw [Qa (by omega),Qa (by omega)]
   ·rw [List.drop_eq_nil_of_le hkb] at hv
    simpa [valB] using hv
theorem Qp8 {a b:List Int} (ha:inB 10000 a) (hb:inB 10000 b) (hal:a.length+b.length<=3000000000) :
  ∀
   (f i:Nat) (s:List Int),i+f=a.length->inB 10000 s->s.length=a.length+b.length+1->valB 10000 s=valB 10000 (a.take i)*valB 10000 b ->
   ∃s',Runs (λrec x=>z15.l0P a b rec some x) ((i:Int),s) ((a.length:Int),s')/\inB 10000 s'/\s'.length=s.length/\valB 10000 s'=valB 10000 a*valB 10000 b
 |
  0,i,s,hf,hs,hl,hv=>by
  have:i=a.length:=by omega
  subst this
  refine ⟨s,.done λrec=>?_,hs,rfl,by rwa [List.take_length] at hv⟩
  unfold z15.l0P
  simp
 |
  f+1,i,s,hf,hs,hl,hv=>by
  have hi:i<a.length:=by omega
  have hT:valB 10000 (a.take (i+1))*valB 10000 b<(10000^(i+1+b.length):Nat):=by
   have h1:=Yb b4 (Wo ha (i+1))
   have h2:=Yb b4 hb
   have h3:=Wm (Wo ha (i+1))
   have h4:=Wm hb
   rw [List.length_take,Nat.min_eq_left (by omega)] at h1
   rw [Nat.pow_add,Int.natCast_mul]
   rcases Int.lt_or_eq_of_le h4 with h0|h0
   ·exact Int.mul_lt_mul h1 (Int.le_of_lt h2) h0 (by omega)
   ·rw [<-h0,Int.mul_zero];exact Int.mul_pos (by omega) (by omega)
  obtain ⟨k',s',r1,r2,r3,r4⟩:=Qqu ha hb hi hT (b.length+2) 0 0 s hs (by omega) (by omega) (by omega) (by omega) (by
   rw [hv,Yp hi,List.drop_zero,Int.zero_add,Nat.add_zero,Wa hi];grind)
  obtain ⟨s2,q1,q2,q3,q4⟩:=Qp8 ha hb hal f (i+1) s' (by omega) r2 (by omega) r4
  refine ⟨s2,.step (λrec=>?_) q1,q2,by omega,q4⟩
  have e:z15.l2aa a b (i:Int) ((0:Int),(0:Int),s)=some ((0:Int),k',s'):=r1.lfp
  unfold z15.l0P
  simp only
  rw [bif_t (by omega),e]
  simp only [Zb]
  rw [Qc (by omega) (by omega)]
  rfl
theorem Qzr {a b:List Int} (ha:inB 10000 a) (hb:inB 10000 b) (hal:a.length+b.length<=900000000):z15.F a b=some (dg (valB 10000 a*valB 10000 b).toNat):=by
 unfold z15.F z15.l0
 have e:wr .i64 (wr .i64 ((a.length:Int)+(b.length:Int))+1)=((a.length+b.length+1:Nat):Int):=by
  rw [Qc (n:=(a.length:Int)+b.length) (by omega) (by omega),Qc (by omega) (by omega)];omega
 rw [e,if_pos (by omega),Zi]
 obtain ⟨s',r1,r2,r3,r4⟩:=Qp8 ha hb (by omega) a.length 0 (List.replicate (a.length+b.length+1) 0) (by omega) (Qa4 (by decide) _) (by simp) (by rw [Qca];simp [valB])
 rw [show ((0:Int),List.replicate (a.length+b.length+1) (0:Int))=(((0:Nat):Int),List.replicate (a.length+b.length+1) (0:Int)) from rfl,r1.lfp]
 simp only [Zb]
 rw [Qcf r2 (by show List.length _<=_;rw [r3];simp;omega),r4]
 rfl
theorem Qdp {m n:Nat} (hl:(dg m).length+(dg n).length<=900000000):z15.F (dg m) (dg n)=some (dg (m*n)):=by
 rw [Qzr (Qx b4 m) (Qx b4 n) hl,Q8 b4,Q8 b4]
 congr 2
theorem dg_len0 (n:Nat):(((dg n).length:Nat):Int)=0↔n=0:=by
 constructor
 ·intro h;exact (toB_nil b4).1 (List.length_eq_zero_iff.1 (Int.ofNat_eq_zero.1 h))
 ·rintro rfl;simp [dg,toB_zero]
theorem Qhn (n:Nat):(((dg n).length:Nat):Int)>0↔0<n:=by
 have:=dg_len0 n;omega
theorem Qem (n:Nat) (b:Bool):z7.F (dg n) b=some (dg n,b&&decide (0<n)):=by
 unfold z7.F
 cases b
 ·rfl
 ·simp only [Zd,Bool.true_and]
  congr 2
  exact decide_eq_decide.2 (Qhn n)
theorem ref04_Of' {z:Int} {b:Bool} (h:(b=true/\z<=0)\/(b=false/\0<=z)):z7.F (dg z.natAbs) b=some (dg z.natAbs,neg z):=by
 rw [Qem]
 congr 2
 rcases h with ⟨rfl,h⟩|⟨rfl,h⟩
 ·rw [Bool.true_and];exact decide_eq_decide.2 (by omega)
 ·rw [Bool.false_and];symm;exact Zf (by omega)
theorem Wk {z:Int} (h:-9223372036854775808<z/\z<9223372036854775808):z9.F z=some (dg z.natAbs,neg z):=by
 unfold z9.F
 by_cases hz:z<0
 ·have e:wr .i64 (0-z)=((z.natAbs:Nat):Int):=by rw [Qc (by omega) (by omega)];omega
  rw [bif_t hz,e,Qfk (by omega)]
  simp only [Zb]
  rw [ref04_Of' (z:=z) (.inl ⟨rfl,by omega⟩)];rfl
 ·have e:z=((z.natAbs:Nat):Int):=by omega
  rw [Qa hz]
  conv=>lhs;rw [e]
  rw [Qfk (by omega)]
  simp only [Zb]
  rw [ref04_Of' (z:=z) (.inr ⟨rfl,by omega⟩)];rfl
theorem Qhi {x y:Int} (hl:(dg x.natAbs).length+(dg y.natAbs).length<=900000000):z16.F (dg x.natAbs) (neg x) (dg y.natAbs) (neg y)=some (dg (x*y).natAbs,neg (x*y)):=by
 unfold z16.F
 rw [Qdp hl,<-Int.natAbs_mul]
 simp only [Zb]
 rw [Qem]
 simp only [Zb]
 congr 2
 have h0:0<(x*y).natAbs↔x≠0/\y≠0:=by
  rw [Int.natAbs_mul]
  constructor
  ·intro h;exact ⟨by rintro rfl;simp at h,by rintro rfl;simp at h⟩
  ·rintro ⟨h1,h2⟩;exact Nat.mul_pos (by omega) (by omega)
 rw [Bool.eq_iff_iff]
 simp only [Bool.and_eq_true,Bool.not_eq_true',decide_eq_true_eq,decide_eq_false_iff_not,h0]
 rcases Int.lt_trichotomy x 0 with hx|hx|hx<;>rcases Int.lt_trichotomy y 0 with hy|hy|hy
 ·have:=Int.mul_pos_of_neg_of_neg hx hy;simp [hx,hy];omega
 ·subst hy;simp
 ·have:=Int.mul_neg_of_neg_of_pos hx hy;simp [hx];omega
 ·subst hx;simp
 ·subst hx;simp
 ·subst hx;simp
 ·have:=Int.mul_neg_of_pos_of_neg hx hy;simp [hy];omega
 ·subst hy;simp
 ·have:=Int.mul_pos hx hy;simp;omega
theorem Qkl {z:Int} (hs:4*(dg z.natAbs).length<=1000000000) (hl:(txt z.natAbs).length<=1000000000):z6.F (dg z.natAbs) (neg z)=some (if z<0 then 45::txt z.natAbs else txt z.natAbs):=by
 unfold z6.F
 rw [Qle hs]
 simp only [Zb]
 by_cases h:z<0
 ·rw [bif_t h,if_pos (by simp;omega),if_pos h];rfl
 ·rw [Qa h,if_neg h]
theorem Qp (n:Nat):(dg n).length<=sz n:=Yj b4 (Nat.lt_of_lt_of_le (J6 n) (Nat.pow_le_pow_left (by decide) _))
theorem Qj9 (y:Int):z10.F y=some (decide (goodY y/\leap y)):=by
 unfold z10.F z10.j1
 simp only [Qc2 (show (0:Int)<4 by decide),Qc2 (show (0:Int)<100 by decide),Qc2 (show (0:Int)<400 by decide)]
 by_cases h1:y<1
 ·rw [bif_t h1];congr 1;symm;exact Zf (by omega)
 ·rw [Qa h1]
  by_cases h2:y>9999
  ·rw [bif_t h2];congr 1;symm;exact Zf (by omega)
  ·rw [Qa h2]
   by_cases h4:y%400=0
   ·rw [bif_t h4];congr 1;symm;exact Zt (by omega)
   ·rw [Qa h4]
    by_cases h3:y%4=0
    ·rw [bif_t h3];congr 1
     by_cases h5:y%100=0
     ·rw [Zt h5];symm;exact Zf (by omega)
     ·rw [Zf h5];symm;exact Zt (by omega)
    ·rw [Qa h3];congr 1;symm;exact Zf (by omega)
theorem Qcx (y m:Int):z11.F y m=some (dDays y m):=by
 unfold z11.F z11.j1 dDays
 by_cases h0:y<1
 ·rw [bif_t h0,if_pos (by omega)]
 ·rw [Qa h0]
  by_cases h9:y>9999
  ·rw [bif_t h9,if_pos (by omega)]
  ·rw [Qa h9]
   by_cases h1:m<1
   ·rw [bif_t h1,if_pos (by omega)]
   ·rw [Qa h1]
    by_cases h12:m>12
    ·rw [bif_t h12,if_pos (by omega)]
    ·rw [Qa h12,if_neg (by omega)]
     by_cases h2:m=2
     ·rw [bif_t h2,if_pos h2,Qj9]
      simp only [Zb]
      by_cases hl:leap y
      ·rw [Zt ⟨by omega,hl⟩,if_pos hl];rfl
      ·rw [Zf (λhh=>hl hh.2),if_neg hl];rfl
     ·rw [Qa h2,if_neg h2]
      by_cases g4:m=4
      ·rw [bif_t g4,if_pos (.inl g4)]
      ·rw [Qa g4]
       by_cases g6:m=6
       ·rw [bif_t g6,if_pos (by omega)]
       ·rw [Qa g6]
        by_cases g9:m=9
        ·rw [bif_t g9,if_pos (by omega)]
        ·rw [Qa g9]
         by_cases g11:m=11
         ·rw [bif_t g11,if_pos (by omega)]
         ·rw [Qa g11,if_neg (by omega)]
def addM (y m d k:Int):Int×Int×Int:=(((12*y+m-1)+k)/12,((12*y+m-1)+k)%12+1,min d (dDays (((12*y+m-1)+k)/12) (((12*y+m-1)+k)%12+1)))
theorem Qkq {y m d k:Int} (h:right y m d) (ho:okM y m k):right (addM y m d k).1 (addM y m d k).2.1 (addM y m d k).2.2:=by
 have h1:=Q3 h
 have h2:=Qbn (y:=((12*y+m-1)+k)/12) (m:=((12*y+m-1)+k)%12+1) (by omega) (by omega)
 show 1<=min d _/\min d _<=dDays _ _
 simp only [addM]
 omega
theorem Qpm (a b:Int):(if a<b then a else b)=min b a:=by omega
theorem month_Add {y m d k:Int}:z90.F y m d k=some (if right y m d/\okM y m k then ((addM y m d k).1,(addM y m d k).2.1,(addM y m d k).2.2,0) else (0,0,0,11)):=by
 unfold z90.F
 rw [date_Check]
 simp only [Zb]
 by_cases h:right y m d
 ·have hg:=Q3 h
  rw [if_pos h]
  simp only [decide_true,Zn,Zc]
  by_cases h1:k < -119988
  ·rw [bif_t h1,if_neg (by omega)]
  ·rw [Qa h1]
   by_cases h2:k>119988
   ·rw [bif_t h2,if_neg (by omega)]
   ·rw [Qa h2]
    unfold z90.j2 z90.j3
    rw [Qc (n:=12*y) (by omega) (by omega),Qc (n:=12*y+m) (by omega) (by omega),Qc (n:=12*y+m-1) (by omega) (by omega),Qc (n:=12*y+m-1+k) (by omega) (by omega)]
    by_cases h3:12*y+m-1+k<12
    ·rw [bif_t h3,if_neg (by omega)]
    ·rw [Qa h3,Yd (by omega),Qc (n:=(12*y+m-1+k)/12) (by omega) (by omega)]
     by_cases h4:(12*y+m-1+k)/12>9999
     ·rw [bif_t h4,if_neg (by omega)]
     ·rw [Qa h4,Yk (by omega),Qc (n:=(12*y+m-1+k)%12+1) (by omega) (by omega),date_Days,if_pos (by exact ⟨h,by omega⟩)]
      simp only [Zb,Qpm]
      rfl
 ·rw [if_neg h,if_neg (λhh=>h hh.1)];rfl
theorem terms_Word (k:Int):∃w,z78.F k=some w/\decide (w=[])=decide (¬(0<=k/\k<=2)):=by
 unfold z78.F
 by_cases h:k<0
 ·rw [bif_t h];exact ⟨_,rfl,by simp;omega⟩
 ·rw [Qa h]
  by_cases h':k>=3
  ·rw [bif_t h'];exact ⟨_,rfl,by simp;omega⟩
  ·rw [Qa h']
   have:k=0\/k=1\/k=2:=by omega
   rcases this with rfl|rfl|rfl<;>exact ⟨_,rfl,rfl⟩
theorem Q0p {e:Int} (h:1<=e) (h5:e≠5):Int.tmod 12 e=0↔Qbo e:=by
 rw [Yk (by decide)]
 by_cases hb:12<e
 ·rw [Int.emod_eq_of_lt (by decide) hb];omega
 ·have:e=1\/e=2\/e=3\/e=4\/e=6\/e=7\/e=8\/e=9\/e=10\/e=11\/e=12:=by omega
  rcases this with rfl|rfl|rfl|rfl|rfl|rfl|rfl|rfl|rfl|rfl|rfl<;>decide
theorem terms_odd (t:Tm):z85.F t.p t.r t.kind t.basis t.mode t.y t.m t.d t.every t.count=some (decide (¬kindsOK t)):=by
 obtain ⟨w1,e1,d1⟩:=terms_Word t.kind
 obtain ⟨w2,e2,d2⟩:=Qmd t.basis
 obtain ⟨w3,e3,d3⟩:=Qjh t.mode
 unfold z85.F
 rw [e1]
 simp only [Zb]
 rw [d1]
 by_cases h1:0<=t.kind/\t.kind<=2
 ·rw [Qa (λhh=>hh h1),e2]
  simp only [Zb]
  rw [d2]
  by_cases h2:0<=t.basis/\t.basis<=2
  ·rw [Qa (λhh=>hh h2),e3]
   simp only [Zb]
   rw [d3]
   by_cases h3:0<=t.mode/\t.mode<=4
   ·rw [Qa (λhh=>hh h3)]
    by_cases h4:t.every<1
    ·rw [bif_t h4];congr 1;symm;exact Zt (by omega)
    ·rw [Qa h4]
     by_cases h5:t.every=5
     ·rw [bif_t h5];congr 1;symm;exact Zt (by omega)
     ·rw [Qa h5,if_neg (by omega)]
      congr 1
      have:=Q0p (e:=t.every) (by omega) h5
      rw [<-decide_not]
      exact decide_eq_decide.2 (by omega)
   ·rw [bif_t h3];congr 1;symm;exact Zt (by omega)
  ·rw [bif_t h2];congr 1;symm;exact Zt (by omega)
 ·rw [bif_t h1];congr 1;symm;exact Zt (by omega)
theorem terms_Check (t:Tm):z91.F t.p t.r t.kind t.basis t.mode t.y t.m t.d t.every t.count=some (mCheck t):=by
 unfold z91.F mCheck
 rw [terms_Money]
 simp only [Zb]
 by_cases h1:(mMoney t.p).2=0
 ·rw [Zt h1,if_neg (by omega)]
  simp only [Zn,Zc]
  rw [W0]
  simp only [Zb]
  by_cases h2:(mMoney t.p).1=0
  ·rw [bif_t (Yt.2 h2),if_pos h2]
  ·rw [Qa (λh=>h2 (Yt.1 h)),if_neg h2,terms_Rate]
   simp only [Zb]
   by_cases h3:(mRate t.r).2=0
   ·rw [Zt h3,if_neg (by omega)]
    simp only [Zn,Zc]
    rw [terms_odd]
    simp only [Zb]
    by_cases h4:kindsOK t
    ·rw [Qa (λhh=>hh h4),if_neg (λhh=>hh h4)]
     by_cases h5:t.count<1
     ·rw [bif_t h5,if_pos (.inl h5)]
     ·rw [Qa h5]
      by_cases h6:t.count>1200
      ·rw [bif_t h6,if_pos (.inr h6)]
      ·have hb:=Qe5 (e:=t.every) (c:=t.count) h4.2.2.2 (by omega)
       rw [Qa h6,if_neg (by omega),Qc (by omega) (by omega),month_Add]
       simp only [Zb]
       by_cases h7:right t.y t.m t.d/\okM t.y t.m (t.every*t.count)
       ·rw [if_pos h7,if_pos h7]
       ·rw [if_neg h7,if_neg h7]
    ·rw [bif_t h4,if_pos h4]
   ·rw [Zf h3,if_pos h3];rfl
 ·rw [Zf h1,if_pos h1];rfl
theorem Qjz {a b:Int} (hb:0<b):(Int.tmod a b<0->Int.tmod a b+b=a%b)/\(¬Int.tmod a b<0->Int.tmod a b=a%b)/\-b<Int.tmod a b/\Int.tmod a b<b:=by
 have h1:=Int.emod_nonneg a (show b≠0 by omega)
 have h2:=Int.emod_lt_of_pos a hb
 have h3:=Int.tmod_eq_emod (a:=a) (b:=b)
 by_cases h:0<=a\/b∣a
 ·rw [if_pos h] at h3;omega
 ·rw [if_neg h] at h3
  have:a%b≠0:=λe=>h (.inr (Int.dvd_of_emod_eq_zero e))
  omega
theorem Qks {a b c n:Int} (hn:1<=n/\n<=9999):∃y m d,z12.F a b c n=some (y,m,d)/\right y m d/\y<=n:=by
 have f1:=Qjz (a:=a) (b:=n) (by omega)
 have f2:=Qjz (a:=b) (b:=12) (by omega)
 have m1:=Int.emod_nonneg a (show n≠0 by omega)
 have m2:=Int.emod_lt_of_pos a (show 0<n by omega)
 have hd:=Qbn (y:=a%n+1) (m:=b%12+1) (by omega) (by omega)
 have hd':=Qdg (a%n+1) (b%12+1)
 have f3:=Qjz (a:=c) (b:=dDays (a%n+1) (b%12+1)) (by omega)
 have m5:=Int.emod_nonneg c (show dDays (a%n+1) (b%12+1)≠0 by omega)
 have m6:=Int.emod_lt_of_pos c (show 0<dDays (a%n+1) (b%12+1) by omega)
 refine ⟨a%n+1,b%12+1,c%dDays (a%n+1) (b%12+1)+1,?_,⟨by omega,by omega⟩,by omega⟩
 have hj8:∀j,j=b%12->Int.tmod a n=a%n->z12.j8 a n j c=some (a%n+1,b%12+1,c%dDays (a%n+1) (b%12+1)+1):=λj hj ht=>by
  subst hj
  unfold z12.j8
  rw [ht,Qc (n:=a%n+1) (by omega) (by omega),Qc (n:=b%12+1) (by omega) (by omega),Qcx]
  simp only [Zb]
  rw [if_neg (by omega)]
  generalize dDays (a%n+1) (b%12+1)=k at *
  by_cases h:Int.tmod c k<0
  ·rw [bif_t h,Qc (n:=Int.tmod c k+k) (by omega) (by omega),f3.1 h,Qc (by omega) (by omega)]
  ·rw [Qa h,f3.2.1 h,Qc (by omega) (by omega)]
 have hj5:∀j,j=b%12->Int.tmod a n<0->z12.j5 a n j c=some (a%n+1,b%12+1,c%dDays (a%n+1) (b%12+1)+1):=λj hj ht=>by
  subst hj
  unfold z12.j5 z12.j7
  rw [Qc (n:=Int.tmod a n+n) (by omega) (by omega),f1.1 ht,Qc (n:=a%n+1) (by omega) (by omega),Qc (n:=b%12+1) (by omega) (by omega),Qcx]
  simp only [Zb]
  rw [if_neg (by omega)]
  generalize dDays (a%n+1) (b%12+1)=k at *
  by_cases h:Int.tmod c k<0
  ·rw [bif_t h,Qc (n:=Int.tmod c k+k) (by omega) (by omega),f3.1 h,Qc (by omega) (by omega)]
  ·rw [Qa h,f3.2.1 h,Qc (by omega) (by omega)]
 unfold z12.F
 rw [if_neg (by omega)]
 by_cases h1:Int.tmod a n<0
 ·rw [bif_t h1]
  by_cases h2:Int.tmod b 12<0
  ·rw [bif_t h2,Qc (by omega) (by omega),f2.1 h2];exact hj5 _ rfl h1
  ·rw [Qa h2,f2.2.1 h2];exact hj5 _ rfl h1
 ·rw [Qa h1]
  by_cases h2:Int.tmod b 12<0
  ·rw [bif_t h2,Qc (by omega) (by omega),f2.1 h2];exact hj8 _ rfl (f1.2.1 h1)
  ·rw [Qa h2,f2.2.1 h2];exact hj8 _ rfl (f1.2.1 h1)
theorem Qw4 (s:List UInt8) (k:Nat) (hk:k<=1000000000):∀(f:Nat),k+1-s.length=f->Runs (λrec x=>z17.l0P (k:Int) rec some x) s (List.replicate f 48++s):=by
 intro f
 induction f generalizing s with
 |
  zero=>
  intro h
  refine .done λrec=>?_
  unfold z17.l0P
  rw [Qa (by omega)];rfl
 |
  succ f ih=>
  intro h
  have:=ih (48::s) (by simp;omega)
  have e:List.replicate f (48:UInt8)++48::s=List.replicate (f+1) 48++s:=by
   rw [List.replicate_succ',List.append_assoc];rfl
  rw [e] at this
  refine .step (λrec=>?_) this
  unfold z17.l0P
  rw [bif_t (by omega),if_pos (by simp;omega)]
  rfl
theorem Qty {n k:Nat} (hk:0<k/\k<=1000000) (hn:4*(dg n).length<=1000000000) (hl:(txt n).length<=100000000):z17.F (dg n) false (k:Int)=some (decTxt n k):=by
 have r:=Qw4 (txt n) k (by omega) _ rfl
 have e:z17.l0 (k:Int) (txt n)=some (padded n k):=r.lfp
 have pl:=Qnl n k
 unfold z17.F
 rw [Qle hn]
 simp only [Zb]
 rw [e]
 simp only [Zb]
 have ew:wr .i64 (((padded n k).length:Int)-(k:Int))=(((padded n k).length-k:Nat):Int):=by rw [Qc (by omega) (by omega)];omega
 rw [bif_t (by omega),ew,if_pos (by omega),if_pos (by simp;omega),if_pos (by omega),if_pos (by simp;omega),Zi]
 unfold z17.j3 decTxt
 simp
theorem shr2 (a:Int):Int.fdiv a (2^(min 2 (64:Nat)))=a/4:=by
 rw [Int.fdiv_eq_ediv_of_nonneg _ (by decide)];rfl
theorem shr4 (a:Int):Int.fdiv a (2^(min 4 (64:Nat)))=a/16:=by
 rw [Int.fdiv_eq_ediv_of_nonneg _ (by decide)];rfl
theorem Js {a b:Int} (ha:0<=a) (hb:0<b):Int.tmod a b=a%b/\0<=a%b/\a%b<b:=⟨Yk ha,Int.emod_nonneg a (by omega),Int.emod_lt_of_pos a hb⟩
theorem Qgx {a0 a1 a2 a3 a4 a5 a6 a7 a8 a9 a10 a11 most:Int} (h0:0<=a0/\a0<18446744073709551616) (h1:0<=a1/\a1<65536) (h2:0<=a2/\a2<4294967296) (h3:0<=a3/\a3<256) (h4:0<=a4/\a4<256) (h5:0<=a5/\a5<256)
  (h6:0<=a6/\a6<256) (h7:0<=a7/\a7<256) (h8:0<=a8/\a8<256) (hm:1<=most/\most<=1000) :
  ∃t:Tm,Good t most/\z18.F a0 a1 a2 a3 a4 a5 a6 a7 a8 a9 a10 a11 most=some (t.p,t.r,t.kind,t.basis,t.mode,t.y,t.m,t.d,t.every,t.count):=by
 obtain ⟨y,m,d,ed,hd,hy⟩:=Qks (a:=a9) (b:=a10) (c:=a11) (n:=9000) (by omega)
 have w8:wr .i64 a8=a8:=Qc (by omega) (by omega)
 have t8:=Js h8.1 (show (0:Int)<7 by decide)
 have t7:=Js h7.1 (show 0<most by omega)
 have t6:=Js h6.1 (show (0:Int)<5 by decide)
 have t5:=Js h5.1 (show (0:Int)<3 by decide)
 have t4:=Js h4.1 (show (0:Int)<3 by decide)
 have t3:=Js h3.1 (show (0:Int)<7 by decide)
 have t2:=Js h2.1 (show (0:Int)<100000 by decide)
 have hev:Qbo ([(1:Int),(1:Int),(2:Int),(3:Int),(4:Int),(6:Int),(12:Int)].getD (a8%7).toNat 0):=by
  have:a8%7=0\/a8%7=1\/a8%7=2\/a8%7=3\/a8%7=4\/a8%7=5\/a8%7=6:=by omega
  rcases this with h|h|h|h|h|h|h<;>rw [h]<;>decide
 have hp:∀(x:Int) (p:List UInt8),(∃n:Nat,p=txt n/\0<n/\n<=10^30)->Good ⟨p,decTxt (a2%100000).toNat (a3%7+2).toNat,a4%3,a5%3,a6%5,y,m,d,[(1:Int),(1:Int),(2:Int),(3:Int),(4:Int),(6:Int),(12:Int)].getD (a8%7).toNat 0,1+a7%most⟩ most:=λx p h=>{
  money:=h
  rate:=⟨_,_,rfl,by omega,by omega,by omega⟩
  kinds:=⟨by show 0<=a4%3/\a4%3<=2;omega,by show 0<=a5%3/\a5%3<=2;omega,by show 0<=a6%5/\a6%5<=4;omega,hev⟩
  date:=hd
  year:=hy
  count:=by show 1<=1+a7%most/\1+a7%most<=most;omega}
 have hrate:∀{α:Type} (f:List UInt8->Option α),((z9.F (Int.tmod (wr .i64 a2) 100000)).bind λr7=>((z17.F r7.1 r7.2 (wr .i64 (Int.tmod (wr .i64 a3) 7+2))).bind λr8=>f r8))=f (decTxt (a2%100000).toNat (a3%7+2).toNat):=λf=>by
  rw [Qc (n:=a2) (by omega) (by omega),Qc (n:=a3) (by omega) (by omega),t2.1,t3.1,Qc (n:=a3%7+2) (by omega) (by omega),Wk (by omega)]
  simp only [Zb]
  have e1:neg (a2%100000)=false:=Zf (by omega)
  have e2:(a2%100000).natAbs=(a2%100000).toNat:=by omega
  have e3:a3%7+2=((a3%7+2).toNat:Int):=by omega
  have l1:(dg (a2%100000).toNat).length<=5:=Yj b4 (Nat.lt_of_lt_of_le (show (a2%100000).toNat<100000 by omega) (by decide))
  have l2:(txt (a2%100000).toNat).length<=5:=Y2 (show (a2%100000).toNat<10^5 by omega) (by decide)
  rw [e1,e2]
  conv=>lhs;rw [e3]
  rw [Qty (by omega) (by omega) (by omega)]
  rfl
 have e11:((Int.natAbs 100000000000:Nat))=100000000000:=rfl
 unfold z18.F
 rw [w8,t8.1,if_pos ⟨t8.2.1,by simp;omega⟩,if_neg (by omega),ed]
 simp only [Zb]
 rw [shr2,shr4,Qc (n:=a0/4) (by omega) (by omega),Qc (n:=a0/4+1) (by omega) (by omega),Qc (n:=a0/16) (by omega) (by omega),Qc (n:=a0/16+1) (by omega) (by omega)]
 rw [Qc (n:=a4) (by omega) (by omega),Qc (n:=a5) (by omega) (by omega),Qc (n:=a6) (by omega) (by omega),Qc (n:=a7) (by omega) (by omega),t4.1,t5.1,t6.1,t7.1,Qc (n:=1+a7%most) (by omega) (by omega)]
 rw [Wk (z:=a0/4+1) (by omega)]
 simp only [Zb]
 by_cases hc:a1>60000
 ·rw [bif_t hc,Wk (by omega)]
  simp only [Zb]
  rw [Wk (by omega)]
  simp only [Zb]
  have g1:(dg (a0/16+1).natAbs).length<=20:=Nat.le_trans (Qp _) (sz_le (by omega))
  have g2:(dg (Int.natAbs 100000000000)).length<=20:=Nat.le_trans (Qp _) (sz_le (by decide))
  have hb:((a0/16+1)*100000000000).natAbs=(a0/16+1).toNat*100000000000:=by omega
  have g3:(dg ((a0/16+1)*100000000000).natAbs).length<=40:=Nat.le_trans (Qp _) (sz_le (by omega))
  have g4:(txt ((a0/16+1)*100000000000).natAbs).length<=40:=Y2 (by omega) (by decide)
  rw [Qhi (by omega)]
  simp only [Zb]
  rw [Qkl (by omega) (by omega),if_neg (by omega)]
  simp only [Zb]
  refine ⟨_,hp 0 (txt ((a0/16+1)*100000000000).natAbs) ⟨_,rfl,by omega,by omega⟩,?_⟩
  rw [hrate]
 ·rw [Qa hc]
  have g3:(dg (a0/4+1).natAbs).length<=20:=Nat.le_trans (Qp _) (sz_le (by omega))
  have g4:(txt (a0/4+1).natAbs).length<=20:=Y2 (by omega) (by decide)
  rw [Qkl (by omega) (by omega),if_neg (by omega)]
  simp only [Zb]
  refine ⟨_,hp 0 (txt (a0/4+1).natAbs) ⟨_,rfl,by omega,by omega⟩,?_⟩
  rw [hrate]
def dv (x:D3):List V:=[.int .i64 x.1,.int .i64 x.2.1,.int .i64 x.2.2]
def pv (x:D3×D3):List V:=[.int .i64 x.1.1,.int .i64 x.1.2.1,.int .i64 x.1.2.2,.int .i64 x.2.1,.int .i64 x.2.2.1,.int .i64 x.2.2.2]
theorem asD0 {R:Type} (x:D3) (K:Int->Option R):V.asInt .i64 ((dv x).getD 0 .undef) K=K x.1:=by simp [dv,V.asInt]
theorem asD1 {R:Type} (x:D3) (K:Int->Option R):V.asInt .i64 ((dv x).getD 1 .undef) K=K x.2.1:=by simp [dv,V.asInt]
theorem asD2 {R:Type} (x:D3) (K:Int->Option R):V.asInt .i64 ((dv x).getD 2 .undef) K=K x.2.2:=by simp [dv,V.asInt]
theorem asP0 {R:Type} (x:D3×D3) (K:Int->Option R):V.asInt .i64 ((pv x).getD 0 .undef) K=K x.1.1:=by simp [pv,V.asInt]
theorem asP1 {R:Type} (x:D3×D3) (K:Int->Option R):V.asInt .i64 ((pv x).getD 1 .undef) K=K x.1.2.1:=by simp [pv,V.asInt]
theorem asP2 {R:Type} (x:D3×D3) (K:Int->Option R):V.asInt .i64 ((pv x).getD 2 .undef) K=K x.1.2.2:=by simp [pv,V.asInt]
theorem asP3 {R:Type} (x:D3×D3) (K:Int->Option R):V.asInt .i64 ((pv x).getD 3 .undef) K=K x.2.1:=by simp [pv,V.asInt]
theorem asP4 {R:Type} (x:D3×D3) (K:Int->Option R):V.asInt .i64 ((pv x).getD 4 .undef) K=K x.2.2.1:=by simp [pv,V.asInt]
theorem asP5 {R:Type} (x:D3×D3) (K:Int->Option R):V.asInt .i64 ((pv x).getD 5 .undef) K=K x.2.2.2:=by simp [pv,V.asInt]
def Wv (y m d step:Int) (n:Nat):List D3:=(List.range n).map λk:Nat=>addM y m d ((k+1:Nat)*step)
theorem Qkf (y m d step:Int) (n:Nat):(Wv y m d step n).length=n:=by simp [Wv]
theorem Qdc {y m d step:Int} {n i:Nat} (h:i<(Wv y m d step n).length):(Wv y m d step n)[i]=addM y m d ((i+1:Nat)*step):=by simp [Wv]
theorem Qq7 (y m d step:Int) (n:Nat):Wv y m d step (n+1)=Wv y m d step n++[addM y m d ((n+1:Nat)*step)]:=by
 unfold Wv;rw [List.range_succ,List.map_append];rfl
theorem Qfp {y m k k':Int} (h:okM y m k) (h0:0<=k') (hk:k'<=k) (hm:12<=(12*y+m-1)):okM y m k':=by omega
theorem Ql4 {y m d step:Int} {n:Nat} (hr:right y m d) (hs:1<=step/\step<=12) (hn:n<=1200) (ho:okM y m (n*step)):∀(f k:Nat),k+f=n ->
  Runs (λrec x=>z92.l0P step (n:Int) y m d rec some x) (((k+1:Nat):Int),(Wv y m d step k).map dv) (.inl (((n+1:Nat):Int),(Wv y m d step n).map dv))
 |
  0,k,hk=>by
  have:k=n:=by omega
  subst this
  refine .done λrec=>?_
  unfold z92.l0P
  simp only
  rw [Qa (by omega)]
 |
  f+1,k,hk=>by
  have g:=Q3 hr
  have ih:=Ql4 hr hs hn ho f (k+1) (by omega)
  have hb:((k+1:Nat):Int)*step<=n*step:=Int.mul_le_mul_of_nonneg_right (by omega) (by omega)
  have hb0:0<=((k+1:Nat):Int)*step:=Int.mul_nonneg (by omega) (by omega)
  have hb1:(n:Int)*step<=1200*12:=Int.mul_le_mul (by omega) (by omega) (by omega) (by omega)
  refine .step (λrec=>?_) ih
  unfold z92.l0P
  simp only
  rw [bif_t (by omega),if_neg (by omega),Qc (n:=((k+1:Nat):Int)*step) (by omega) (by omega),month_Add,if_pos ⟨hr,Qfp ho hb0 hb (by omega)⟩]
  simp only [Zb,decide_true,Zn,Zc]
  rw [if_pos (by rw [List.length_map,Qkf];simp;omega),Qc (by omega) (by omega),Qq7,List.map_append]
  rfl
theorem month_Series {y m d step:Int} {n:Nat} (hr:right y m d) (hs:1<=step/\step<=12) (hn:n<=1200) (ho:okM y m (n*step)):z92.F y m d step (n:Int)=some ((Wv y m d step n).map dv,0):=by
 have e:z92.l0 step (n:Int) y m d ((1:Int),[])=some (.inl (((n+1:Nat):Int),(Wv y m d step n).map dv)):=(Ql4 hr hs hn ho n 0 (by omega)).lfp
 unfold z92.F z92.j1
 rw [Qa (by omega),Qa (by omega),Qa (by omega),date_Check]
 simp only [Zb]
 rw [if_pos hr,e]
 rfl
def Tm.dates (t:Tm):List D3:=Wv t.y t.m t.d t.every t.count.toNat
theorem W6 {t:Tm} (h:mCheck t=0):kindsOK t/\(1<=t.count/\t.count<=1200)/\right t.y t.m t.d/\okM t.y t.m (t.every*t.count):=by
 unfold mCheck at h
 split at h
 ·exact absurd h ‹_›
 ·split at h
  ·simp at h
  ·split at h
   ·exact absurd h ‹_›
   ·split at h
    ·simp at h
    ·rename_i hk
     split at h
     ·simp at h
     ·split at h
      ·rename_i h5 h6
       exact ⟨Decidable.not_not.1 hk,by omega,h6.1,h6.2⟩
      ·simp at h
theorem J5 {e:Int} (h:Qbo e):1<=e/\e<=12:=by omega
theorem dues_Dates (t:Tm):z93.F t.p t.r t.kind t.basis t.mode t.y t.m t.d t.every t.count=some (if mCheck t=0 then (t.dates.map dv,0) else ([],mCheck t)):=by
 unfold z93.F
 rw [terms_Check]
 simp only [Zb]
 by_cases h:mCheck t=0
 ·obtain ⟨hk,hc,hr,ho⟩:=W6 h
  have he:=J5 hk.2.2.2
  have ec:t.count=(t.count.toNat:Int):=by omega
  rw [Zt h,if_pos h]
  simp only [Zn,Zc]
  have hs:=month_Series (y:=t.y) (m:=t.m) (d:=t.d) (step:=t.every) (n:=t.count.toNat) hr he (by omega) (by rw [<-ec,Int.mul_comm];exact ho)
  rw [<-ec] at hs
  rw [hs];rfl
 ·rw [Zf h,if_neg h];rfl
def pairs (a:D3):List D3->List (D3×D3)
 |[]=>[]
 |b::l=>(a,b)::pairs b l
theorem Qfh:∀(a:D3) (l:List D3),(pairs a l).length=l.length
 |_,[]=>rfl
 |a,b::l=>by simp [pairs,Qfh b l]
theorem Qmo:∀(a:D3) (l:List D3) (i:Nat) (h:i<(pairs a l).length) (h':i<l.length),(pairs a l)[i]=((if h0:i=0 then a else l[i-1]'(by omega)),l[i])
 |a,b::l,0,_,_=>by simp [pairs]
 |
  a,b::l,i+1,h,h'=>by
  have ih:=Qmo b l i (by rw [Qfh];simp at h';omega) (by simp at h';omega)
  simp only [pairs,List.getElem_cons_succ]
  rw [ih]
  cases i with
  |zero=>simp
  |succ i=>simp
theorem Qpo {l:List D3} (hl:l.length<=2000):∀(f i:Nat) (s:List (List V)) (a:D3),i+f=l.length->s.length=i ->
  ∃z,Runs (λrec x=>z94.l0P (l.map dv) (l.length:Int) rec some x) ((i:Int),s,a.1,a.2.1,a.2.2) ((l.length:Int),s++(pairs a (l.drop i)).map pv,z)
 |
  0,i,s,a,hf,hs=>by
  have:i=l.length:=by omega
  refine ⟨(a.1,a.2.1,a.2.2),.done λrec=>?_⟩
  ·unfold z94.l0P
   simp only
   rw [Qa (by omega),List.drop_eq_nil_of_le (by omega),this];simp [pairs]
 |
  f+1,i,s,a,hf,hs=>by
  have hi:i<l.length:=by omega
  obtain ⟨z,r⟩:=Qpo hl f (i+1) (s++[pv (a,l[i])]) l[i] (by omega) (by simp;omega)
  refine ⟨z,.step (λrec=>?_) (by rw [List.drop_eq_getElem_cons hi];simp only [pairs,List.map_cons];rw [<-List.append_cons] at r;exact r)⟩
  unfold z94.l0P
  simp only
  rw [bif_t (by omega),if_pos (by rw [List.length_map];omega),Zi,Q1 dv hi]
  rw [asD0,asD1,asD2,if_pos (by simp;omega),Qc (by omega) (by omega)]
  rfl
def Tm.start (t:Tm):D3:=(t.y,t.m,t.d)
def Tm.periods (t:Tm):List (D3×D3):=pairs t.start t.dates
theorem Tm.dates_len (t:Tm):t.dates.length=t.count.toNat:=Qkf _ _ _ _ _
theorem dues_Periods (t:Tm):z94.F t.p t.r t.kind t.basis t.mode t.y t.m t.d t.every t.count=some (if mCheck t=0 then (t.periods.map pv,0) else ([],mCheck t)):=by
 unfold z94.F
 rw [dues_Dates]
 simp only [Zb]
 by_cases h:mCheck t=0
 ·obtain ⟨hk,hc,hr,ho⟩:=W6 h
  rw [if_pos h,if_pos h]
  simp only [decide_true,Zn,Zc,List.length_map]
  have hl:=t.dates_len
  obtain ⟨z,r⟩:=Qpo (l:=t.dates) (by omega) t.dates.length 0 [] t.start (by omega) rfl
  have e:z94.l0 (t.dates.map dv) (t.dates.length:Int) ((0:Int),[],t.y,t.m,t.d)=_:=r.lfp
  rw [e]
  rfl
 ·rw [if_neg h,if_neg h]
  simp only
  rw [Zf h];rfl
theorem Qqq {y m d k k':Int} (h:right y m d) (h1:okM y m k) (h2:okM y m k') (hlt:k<k'):numD (addM y m d k)<numD (addM y m d k'):=by
 refine Qhg (Qkq h h1) (Qkq h h2) ?_
 show ((12*y+m-1)+k)/12<((12*y+m-1)+k')/12\/((12*y+m-1)+k)/12=((12*y+m-1)+k')/12/\(((12*y+m-1)+k)%12+1<((12*y+m-1)+k')%12+1\/_)
 omega
theorem Qnb {y m d:Int} (h:right y m d):addM y m d 0=(y,m,d):=by
 have g:=Q3 h
 unfold addM
 have e1:((12*y+m-1)+0)/12=y:=by omega
 have e2:((12*y+m-1)+0)%12+1=m:=by omega
 rw [e1,e2]
 have:=h.2
 congr 2;omega
structure Qwt (t:Tm):Prop where
 right:∀j (h:j<t.dates.length),rightD t.dates[j]
 start:rightD t.start
 first:∀j (h:j<t.dates.length),numD t.start<numD t.dates[j]
 lt:∀i j (hi:i<t.dates.length) (hj:j<t.dates.length),i<j->numD t.dates[i]<numD t.dates[j]
theorem Qwn {t:Tm} (h:mCheck t=0):Qwt t:=by
 obtain ⟨hk,hc,hr,ho⟩:=W6 h
 have he:=J5 hk.2.2.2
 have hl:=t.dates_len
 have g:=Q3 hr
 have key:∀j:Nat,j<t.dates.length->okM t.y t.m ((j+1:Nat)*t.every)/\0<((j+1:Nat):Int)*t.every:=λj hj=>by
  have a1:((j+1:Nat):Int)*t.every<=t.count*t.every:=Int.mul_le_mul_of_nonneg_right (by omega) (by omega)
  have a2:0<((j+1:Nat):Int)*t.every:=Int.mul_pos (by omega) (by omega)
  rw [Int.mul_comm t.count] at a1
  exact ⟨Qfp ho (by omega) a1 (by omega),a2⟩
 have h0:okM t.y t.m 0:=by omega
 refine ⟨λj hj=>?_,hr,λj hj=>?_,λi j hi hj hij=>?_⟩
 ·have e:t.dates[j]=addM t.y t.m t.d ((j+1:Nat)*t.every):=Qdc hj
  rw [e];exact Qkq hr (key j hj).1
 ·have e:t.dates[j]=addM t.y t.m t.d ((j+1:Nat)*t.every):=Qdc hj
  have z:t.start=addM t.y t.m t.d 0:=(Qnb hr).symm
  rw [e,z];exact Qqq hr h0 (key j hj).1 (key j hj).2
 ·have e:t.dates[j]=addM t.y t.m t.d ((j+1:Nat)*t.every):=Qdc hj
  have e':t.dates[i]=addM t.y t.m t.d ((i+1:Nat)*t.every):=Qdc hi
  rw [e,e']
  exact Qqq hr (key i hi).1 (key j hj).1 (Int.mul_lt_mul_of_pos_right (by omega) (by omega))
def Qet:Tm:=⟨[],[],0,0,0,0,0,0,0,0⟩
theorem Qe8:mCheck Qet=5:=by decide +kernel
theorem Qj0 (t:Tm):mCheck t=0↔((mMoney t.p).2=0/\(mMoney t.p).1≠0)/\(mRate t.r).2=0/\kindsOK t/\(1<=t.count/\t.count<=1200)/\right t.y t.m t.d/\okM t.y t.m (t.every*t.count):=by
 constructor
 ·intro h
  have h':=W6 h
  unfold mCheck at h
  split at h
  ·exact absurd h ‹_›
  ·split at h
   ·simp at h
   ·split at h
    ·exact absurd h ‹_›
    ·rename_i h1 h2 h3
     exact ⟨⟨Decidable.not_not.1 h1,h2⟩,Decidable.not_not.1 h3,h'⟩
 ·rintro ⟨⟨h1,h2⟩,h3,h4,h5,h6,h7⟩
  unfold mCheck
  rw [if_neg (λhh=>hh h1),if_neg h2,if_neg (λhh=>hh h3),if_neg (λhh=>hh h4),if_neg (by omega),if_pos ⟨h6,h7⟩]
theorem Yr {α:Type} {c:Bool} {x y z:α} (hx:x=z) (hy:y=z):(bif c then x else y)=z:=by cases c<;>assumption
theorem Qd6 (q:Rat) (b:List Int):z147.F (lb q.num.natAbs) (neg q.num) b=some (cmpI q.num 0):=by
 unfold z147.F
 rw [W0]
 rfl
theorem Qgo {k j:Nat} {q r:Rat} (hq:Sq k q) (hr:Sq j r) (hs:k+j<=100000000) :
  z175.F (fr q).1 (fr q).2.1 (fr q).2.2 (fr r).1 (fr r).2.1 (fr r).2.2=some (cmpI (q.num*r.den) (r.num*q.den)):=by
 have h2:=hq.cross hr;have h2':=hr.cross hq
 have q1:=hq.1;have q2:=hq.2;have r1:=hr.1;have r2:=hr.2
 have l1:=Qj q.num.natAbs;have l2:=Qj r.num.natAbs;have l3:=Qj q.den;have l4:=Qj r.den
 have l3':(lb (q.den:Int).natAbs).length<=sz q.den:=l3
 have l4':(lb (r.den:Int).natAbs).length<=sz r.den:=l4
 have l5:=Qj (q.num*r.den).natAbs;have l6:=Qj (r.num*q.den).natAbs
 unfold z175.F
 rw [Qct r _ _ (by omega)]
 simp only [Zb]
 rw [Yi (by omega)]
 simp only [Zb]
 rw [Qct q _ _ (by omega)]
 simp only [Zb]
 rw [Yi (by omega)]
 simp only [Zb]
 rw [Qc5 (by omega)]
 rfl
theorem Qyk (q:Rat) (b:List Int):z148.F (lb q.num.natAbs) (neg q.num) b=some (lb q.num.natAbs,neg q.num):=rfl
def rndN (m:Int) (a d:Nat):Nat:=if upN m (a/d) (a%d) d then a/d+1 else a/d
def rnd (m:Int) (q:Rat):Int:=if q.num<0 then -(rndN m q.num.natAbs q.den:Int) else (rndN m q.num.natAbs q.den:Int)
theorem Q0i (m:Int) (a:Nat) {d:Nat} (h:0<d):rndN m a d*d<a+d/\a<rndN m a d*d+d:=by
 have h1:=Nat.div_add_mod a d
 have h2:=Nat.mod_lt a h
 unfold rndN
 rw [Nat.mul_comm d] at h1
 split
 ·rename_i hu
  have:=hu.1
  rw [Nat.add_mul,Nat.one_mul]
  omega
 ·omega
theorem Q0m (m:Int) (q:Rat):rnd m q*q.den<q.num+q.den/\q.num<rnd m q*q.den+q.den:=by
 obtain ⟨h1,h2⟩:=Q0i m q.num.natAbs q.den_pos
 unfold rnd
 generalize rndN m q.num.natAbs q.den=r at *
 have e:((r*q.den:Nat):Int)=(r:Int)*q.den:=Int.natCast_mul _ _
 split
 ·rw [Int.neg_mul,<-e];omega
 ·rw [<-e];omega
theorem Qua (m:Int) {d:Nat} (h:0<d):rndN m 0 d=0:=by
 unfold rndN
 rw [Nat.zero_mod,Nat.zero_div,if_neg (λhu=>hu.1 rfl)]
theorem Qhm (m:Int):rnd m 0=0:=by
 unfold rnd
 rw [if_neg (by decide)]
 show ((rndN m 0 1:Nat):Int)=0
 rw [Qua m (by decide)];rfl
theorem Qvd {n:Nat} (h:n<18446744073709551616):wr .u64 ((BitVec.ofInt (IntKind.bits .u64) (n:Int) &&& BitVec.ofInt (IntKind.bits .u64) (1:Int)).toNat:Int)=((n%2:Nat):Int):=by
 rw [BitVec.toNat_and,Qdq h,show (1:Int)=((1:Nat):Int) from rfl,Qdq (by omega),show (1:Nat)=2^1-1 from rfl,Nat.and_two_pow_sub_one_eq_mod,Qq (by omega) (by omega)]
theorem Qwp {m:Int} {low rest d:Nat} (hm:0<=m/\m<=4) (h0:rest≠0) (h1:sz low<=100000000) (h2:sz rest<=100000000):z149.F m (lb low) (lb rest) (lb d)=some (decide (upN m low rest d)):=by
 have l1:=Qj low;have l2:=Qj rest
 have l3:=Qj (rest+rest);have l4:=Y7 rest rest
 unfold z149.F
 rw [Qbq (by omega)]
 simp only [Zb]
 rw [Qcb (by omega)]
 simp only [Zb]
 have g:cmpI ((rest+rest:Nat):Int) d>=0↔d<=2*rest:=by rw [W7];omega
 have g':cmpI ((rest+rest:Nat):Int) d>0↔d<2*rest:=by rw [Wh];omega
 have g'':cmpI ((rest+rest:Nat):Int) d=0↔d=2*rest:=by rw [Yt];omega
 generalize cmpI ((rest+rest:Nat):Int) d=c at *
 unfold upN
 by_cases m1:m=1
 ·rw [bif_t m1];congr 1;symm;apply Zt;exact ⟨h0,.inl m1⟩
 rw [Qa m1]
 by_cases m2:m=2
 ·rw [bif_t m2];congr 1;apply decide_eq_decide.2;rw [g];omega
 rw [Qa m2]
 by_cases m3:m=3
 ·rw [bif_t m3];congr 1;apply decide_eq_decide.2;rw [g'];omega
 rw [Qa m3]
 by_cases m4:m=4
 ·rw [bif_t m4,J1 (by show List.length _<=_;omega)]
  simp only [Zb]
  have hlen:=Qko low
  by_cases hl:low=0
  ·rw [Qa (by omega)]
   by_cases c1:c>0
   ·rw [bif_t c1];congr 1;symm;apply Zt;omega
   ·have hF:∀x:Bool,(bif x then some false else some false)=some false:=λx=>by cases x<;>rfl
    rw [Qa c1,hF];congr 1;symm;apply Zf;omega
  ·rw [bif_t (by omega),if_pos (by omega)]
   have e0:(lb low).getD 0 0=((low%LB:Nat):Int):=by
    have:=Qwb bL 0 low
    rwa [Nat.pow_zero,Nat.div_one] at this
   have e1:low%LB%2=low%2:=Nat.mod_mod_of_dvd low (by decide)
   rw [e0,Qvd (n:=low%LB) (Nat.mod_lt _ (by decide)),e1]
   by_cases c1:c>0
   ·rw [bif_t c1];congr 1;symm;apply Zt;omega
   ·rw [Qa c1]
    by_cases c2:c=0
    ·rw [bif_t c2];congr 1;apply decide_eq_decide.2;omega
    ·rw [Qa c2];congr 1;symm;apply Zf;omega
 ·rw [Qa m4];congr 1;symm;apply Zf;omega
theorem Qji (m:Int) (q:Rat):(rnd m q).natAbs=rndN m q.num.natAbs q.den/\((neg q.num=true/\rnd m q<=0)\/(neg q.num=false/\0<=rnd m q)):=by
 unfold rnd
 by_cases h:q.num<0
 ·rw [if_pos h];exact ⟨by omega,.inl ⟨Zt h,by omega⟩⟩
 ·rw [if_neg h];exact ⟨by omega,.inr ⟨Zf h,by omega⟩⟩
theorem Qov (m:Int):z79.F m=some (decide (0<=m/\m<=4)):=by
 unfold z79.F
 by_cases h:m>=0
 ·rw [bif_t h];congr 1;apply decide_eq_decide.2;omega
 ·rw [Qa h];congr 1;symm;apply Zf;omega
theorem round_Whole {m:Int} {k:Nat} {q:Rat} (hm:0<=m/\m<=4) (hq:Sq k q) (hk:k<=40000000) :
  z150.F (fr q).1 (fr q).2.1 (fr q).2.2 m=some (lb (rnd m q).natAbs,neg (rnd m q),0):=by
 have q1:=hq.1;have q2:=hq.2
 have l1:=Qj q.num.natAbs
 have s1:=Qu (Nat.div_le_self q.num.natAbs q.den)
 have s2:=Qu (Nat.mod_le q.num.natAbs q.den)
 have l2:=Qj (q.num.natAbs/q.den)
 have l3:(lb 1).length<=1:=Nat.le_trans (Qj 1) (sz_le (by decide))
 obtain ⟨a1,a2⟩:=Qji m q
 have hj:∀b:List Int,z150.j14 (lb q.num.natAbs) (neg q.num) b (lb (rndN m q.num.natAbs q.den))=some (lb (rnd m q).natAbs,neg (rnd m q),0):=λb=>by
  unfold z150.j14
  rw [Qd6]
  simp only [Zb]
  rw [Qpb,Yu (z:=rnd m q) a1.symm a2]
  rfl
 unfold z150.F
 rw [Qov,Zt hm]
 simp only [Zb,Zn,Zc]
 rw [Qyk]
 simp only [Zb]
 unfold z59.F
 simp only [Zb]
 rw [Yy q _ _ (by omega)]
 simp only [Zb]
 have hdiv:z68.F (lb q.num.natAbs) (lb q.den)=_:=Qk0 q.den_pos (by omega)
 rw [hdiv]
 simp only [Zb]
 rw [Wy]
 simp only [Zb]
 by_cases hr:q.num.natAbs%q.den=0
 ·rw [Zt hr,Zn,Zc]
  have:rndN m q.num.natAbs q.den=q.num.natAbs/q.den:=by unfold rndN;rw [if_neg (λh=>h.1 hr)]
  rw [<-this];exact hj _
 ·rw [Zf hr,Zo,Zd]
  try rw [Yy q _ _ (by omega)]
  try simp only [Zb]
  rw [Qwp hm hr (by omega) (by omega)]
  simp only [Zb]
  by_cases hu:upN m (q.num.natAbs/q.den) (q.num.natAbs%q.den) q.den
  ·rw [bif_t hu,Yh (by omega)]
   simp only [Zb]
   rw [show Int.toNat 1=1 from rfl,Qbq (by omega)]
   simp only [Zb]
   have:rndN m q.num.natAbs q.den=q.num.natAbs/q.den+1:=by unfold rndN;rw [if_pos hu]
   rw [<-this];exact hj _
  ·rw [Qa hu]
   have:rndN m q.num.natAbs q.den=q.num.natAbs/q.den:=by unfold rndN;rw [if_neg hu]
   rw [<-this];exact hj _
end Go.Proofs.YtgjncgiekniniaaGreatDoor.A
end
section
namespace Go.Proofs.YtgjncgiekniniaaGreatDoor.A
open Go
open Classical in
theorem Qaf (m:Int) {q:Rat} {k:Nat} (h:Sq k q):sz (rnd m q).natAbs<=2*k+2:=by
 obtain ⟨a1,_⟩:=Qji m q
 rw [a1]
 have h1:rndN m q.num.natAbs q.den<=q.num.natAbs+1:=by
  have:=Nat.div_le_self q.num.natAbs q.den
  unfold rndN
  split<;>omega
 have h2:=Qu h1
 have h3:=Y7 q.num.natAbs 1
 have h4:sz 1<=1:=sz_le (by decide)
 have:=h.1
 omega
end Go.Proofs.YtgjncgiekniniaaGreatDoor.A
end
section
namespace Go.Proofs.YtgjncgiekniniaaGreatDoor.A
open Go
theorem Made.olen {l:List Lg} (h:Made l):∀x∈l,x.op.length<=1000000:=λx hx=>by
 obtain ⟨n,r,e,h1,_,_⟩:=h.nums x hx
 have:(txt n).length<=10:=Y2 (Nat.lt_of_le_of_lt h1 (by decide)) (by decide)
 rw [e];omega
theorem Qhr (m:Int) (q:Rat):(rnd m q:Rat)-q<1/\q-(rnd m q:Rat)<1:=by
 obtain ⟨h1,h2⟩:=Q0m m q
 have hd:(0:Rat)<((q.den:Nat):Rat):=by
  have:=q.den_pos
  have e:((0:Nat):Rat)<((q.den:Nat):Rat):=Rat.natCast_lt_natCast.2 this
  exact e
 have hq:(q.num:Rat)=q*((q.den:Nat):Rat):=by
  have h:=Rat.mkRat_eq_div q.num q.den
  rw [Rat.mkRat_self] at h
  have hne:((q.den:Nat):Rat)≠0:=λe=>by rw [e] at hd;exact absurd hd (by decide)
  rw [show (q.num:Rat)=(q.num:Rat)/((q.den:Nat):Rat)*((q.den:Nat):Rat) from (Rat.div_mul_cancel hne).symm]
  exact congrArg (· * ((q.den:Nat):Rat)) h.symm
 have e1:((rnd m q*q.den:Int):Rat)<((q.num+q.den:Int):Rat):=Rat.intCast_lt_intCast.2 h1
 have e2:((q.num:Int):Rat)<((rnd m q*q.den+q.den:Int):Rat):=Rat.intCast_lt_intCast.2 h2
 have e3:((rnd m q*q.den:Int):Rat)=(rnd m q:Rat)*((q.den:Nat):Rat):=by rw [Rat.intCast_mul];rfl
 have e4:((q.num+q.den:Int):Rat)=(q.num:Rat)+((q.den:Nat):Rat):=by rw [Rat.intCast_add];rfl
 have e5:((rnd m q*q.den+q.den:Int):Rat)=(rnd m q:Rat)*((q.den:Nat):Rat)+((q.den:Nat):Rat):=by rw [Rat.intCast_add,e3];rfl
 rw [e3,e4,hq] at e1
 rw [e5,hq] at e2
 generalize (rnd m q:Rat)=r at *
 generalize ((q.den:Nat):Rat)=d at *
 constructor
 ·apply Rat.not_le.1
  intro h
  have:(q+1)*d<=r*d:=Rat.mul_le_mul_of_nonneg_right (by grind) (by grind)
  grind
 ·apply Rat.not_le.1
  intro h
  have:(r+1)*d<=q*d:=Rat.mul_le_mul_of_nonneg_right (by grind) (by grind)
  grind
theorem Made.ll {l:List Lg} (h:Made l):Ll l:=⟨by have:=h.len;omega,h.olen⟩
theorem Qs7 {n:Nat} (hl:(lb n).length<=100000000):∃b:Int,z189.F (lb n)=some b/\0<=b/\b<=64*((lb n).length:Int):=by
 unfold z189.F
 rw [Wy,Zb]
 by_cases h:n=0
 ·rw [Zt h,Zd]
  exact ⟨0,rfl,Int.le_refl _,by omega⟩
 ·rw [Zf h,Zc]
  have h0:0<(lb n).length:=by
   rcases Nat.eq_zero_or_pos (lb n).length with e|e
   ·exact absurd ((Qko n).1 (by omega)) h
   ·exact e
  have hw:wr .i64 ((((lb n).length:Nat):Int)-1)=(((lb n).length-1:Nat):Int):=by rw [Qc (by omega) (by omega)];omega
  rw [hw,if_pos (by omega),Zi]
  obtain ⟨x,hx,hx2⟩:=limb (Qx bL n) ((lb n).length-1)
  have hx':(lb n).getD ((lb n).length-1) 0=(x:Int):=hx
  have hpos:0<x:=by
   rcases Nat.eq_zero_or_pos x with e|e
   ·exfalso
    have hne:lb n≠[]:=λe=>by rw [e] at h0;exact absurd h0 (by decide)
    have ht:(lb n).getLast hne≠0:=Qi4 bL n hne
    rw [List.getLast_eq_getElem] at ht
    rw [e] at hx'
    apply ht
    have:(lb n)[(lb n).length-1]'(by omega)=(lb n).getD ((lb n).length-1) 0:=by rw [Zl,List.getElem?_eq_getElem (by omega)];rfl
    rw [this,hx'];rfl
   ·exact e
  obtain ⟨k,h1,_,_,h4⟩:=bits_Len64 hpos hx2
  rw [hx',h4,Zb]
  rw [Qc (n:=64*(((lb n).length-1:Nat):Int)) (by omega) (by omega),Qc (by omega) (by omega)]
  exact ⟨_,rfl,by omega,by omega⟩
theorem digits_Pow {n t:Nat} (ht:t<=1200) (h:64*(lb n).length*t<=262144) (hs:sz n<=100000):z190.F (lb n) (t:Int)=some (lb (n^t),0):=by
 have l1:=Qj n
 obtain ⟨b,hb,h1,h2⟩:=Qs7 (n:=n) (by omega)
 unfold z190.F
 rw [Qa (by omega),Qa (by omega),hb,Zb]
 have hm:b*(t:Int)<=((64*(lb n).length*t:Nat):Int):=by
  rw [Int.natCast_mul]
  exact Int.mul_le_mul_of_nonneg_right (by omega) (by omega)
 have hm0:0<=b*(t:Int):=Int.mul_nonneg h1 (by omega)
 have hp:t*sz n<=700000000:=Nat.le_trans (Nat.mul_le_mul ht hs) (by decide)
 rw [Qc (by omega) (by omega),Qa (by omega),digits_power (by omega) hp]
 rfl
def lvl (a r:Rat) (n:Nat):Rat:=if r=0 then a/(n:Rat) else a*r*(1+r)^n/((1+r)^n-1)
theorem Qfo (u v:Rat) (hv:v≠0):∀n:Nat,v^n≠0/\(u/v)^n=u^n/v^n
 |0=>by rw [Rat.pow_zero,Rat.pow_zero,Rat.pow_zero];exact ⟨by decide,by grind⟩
 |
  n+1=>by
  obtain ⟨h1,h2⟩:=Qfo u v hv n
  have h3:v^n*v≠0:=by
   intro e
   rcases Rat.mul_eq_zero.1 e with e|e
   ·exact h1 e
   ·exact hv e
  rw [Rat.pow_succ,Rat.pow_succ,Rat.pow_succ,h2]
  exact ⟨h3,by grind⟩
theorem Q3q (an rn ad rd U W:Rat) (h1:ad≠0) (h2:rd≠0) (h3:W≠0) (h4:U-W≠0):(an*rn*U)/(ad*rd*(U-W))=(an/ad)*(rn/rd)*(U/W)/(U/W-1):=by
 have h5:U/W-1≠0:=by
  intro h
  apply h4
  have:U/W*W=U:=Rat.div_mul_cancel h3
  grind
 grind
theorem Qcd (u:Nat):∀n:Nat,((u^n:Nat):Rat)=(u:Rat)^n
 |0=>by rw [Nat.pow_zero,Rat.pow_zero];rfl
 |n+1=>by rw [Nat.pow_succ,Rat.pow_succ,<-Qcd u n,Rat.natCast_mul]
theorem Qcp (q:Rat):(q.num:Rat)/((q.den:Nat):Rat)=q:=by
 have h:=Rat.mkRat_eq_div q.num q.den
 rw [Rat.mkRat_self] at h
 exact h.symm
theorem Yn {n:Nat} (h:n≠0):((n:Nat):Rat)≠0:=λe=>by
 have:((n:Nat):Rat)=((0:Nat):Rat):=e
 exact h (Rat.natCast_inj.1 this)
theorem Qd5 {a r:Rat} {n:Nat} (hr:0<r) (hn:0<n) :
  Rat.divInt (a.num*r.num*(((r.num.natAbs+r.den)^n:Nat):Int)) ((a.den*r.den*((r.num.natAbs+r.den)^n-r.den^n):Nat):Int)=lvl a r n:=by
 have hr0:r≠0:=λe=>by rw [e] at hr;exact absurd hr (by decide)
 have hnum:0<r.num:=by
  have h1:0<=r.num:=Rat.num_nonneg.2 (by grind)
  have h2:r.num≠0:=λe=>hr0 (Rat.num_eq_zero.1 e)
  omega
 have hlt:r.den^n<(r.num.natAbs+r.den)^n:=Nat.pow_lt_pow_left (by omega) (by omega)
 have had:((a.den:Nat):Rat)≠0:=Yn (by have:=a.den_pos;omega)
 have hrd:((r.den:Nat):Rat)≠0:=Yn (by have:=r.den_pos;omega)
 obtain ⟨w1,w2⟩:=Qfo ((r.num.natAbs+r.den:Nat):Rat) ((r.den:Nat):Rat) hrd n
 have hg:1+r=((r.num.natAbs+r.den:Nat):Rat)/((r.den:Nat):Rat):=by
  have e:((r.num.natAbs:Nat):Rat)=(r.num:Rat):=by
   have:(r.num:Int)=((r.num.natAbs:Nat):Int):=by omega
   rw [this];rfl
  rw [Rat.natCast_add,e]
  have:=Qcp r
  grind
 have hsub:(((r.num.natAbs+r.den)^n-r.den^n:Nat):Rat)=((r.num.natAbs+r.den:Nat):Rat)^n-((r.den:Nat):Rat)^n:=by
  have e:((r.num.natAbs+r.den)^n-r.den^n)+r.den^n=(r.num.natAbs+r.den)^n:=by omega
  have e':(((r.num.natAbs+r.den)^n-r.den^n+r.den^n:Nat):Rat)=(((r.num.natAbs+r.den)^n:Nat):Rat):=congrArg (λk:Nat=>(k:Rat)) e
  rw [Rat.natCast_add,Qcd,Qcd] at e'
  grind
 have hd:((r.num.natAbs+r.den:Nat):Rat)^n-((r.den:Nat):Rat)^n≠0:=by
  rw [<-hsub]
  exact Yn (by omega)
 unfold lvl
 rw [if_neg hr0,hg,w2,Rat.divInt_eq_div]
 have ea:=Qcp a
 have er:=Qcp r
 have h:=Q3q (a.num:Rat) (r.num:Rat) ((a.den:Nat):Rat) ((r.den:Nat):Rat) (((r.num.natAbs+r.den:Nat):Rat)^n) (((r.den:Nat):Rat)^n) had hrd w1 hd
 rw [ea,er] at h
 rw [<-h,Rat.intCast_mul,Rat.intCast_mul]
 have c1:(((r.num.natAbs+r.den)^n:Nat):Int)=(((r.num.natAbs+r.den)^n:Nat):Int):=rfl
 rw [Rat.intCast_natCast,Rat.intCast_natCast,Qcd,Rat.natCast_mul,Rat.natCast_mul,hsub]
theorem Qe9 (n:Nat):neg ((n:Nat):Int)=false:=Zf (by omega)
theorem power_plain (n:Nat):z191.F (lb n)=some (lb n,false):=by
 unfold z191.F
 rw [whole_Of,Zb,Bool.false_and]
theorem Qrc {k j:Nat} {q r:Rat} (hq:Sq k q) (hr:Sq j r) (h0:r≠0) (hs:k+j<=100000000) :
  z75.F (fr q).1 (fr q).2.1 (fr q).2.2 (fr r).1 (fr r).2.1 (fr r).2.2=some ((fr (q/r)).1,(fr (q/r)).2.1,(fr (q/r)).2.2,0):=by
 have q1:=hq.1;have q2:=hq.2;have r1:=hr.1;have r2:=hr.2
 have h1:=hq.cross hr
 have h2:=hr.cross hq
 rw [Int.mul_comm] at h2
 have hm:=Y7 (q.num*r.den).natAbs ((q.den:Int)*r.num).natAbs
 exact Qno (Qkp (M:=(q.num*r.den).natAbs+((q.den:Int)*r.num).natAbs) (by omega)) h0 (by omega) (by omega) (by omega) (by omega)
theorem Qdi (n:Nat) {t:Nat} (ht:t≠0):sz (n^t)<=t*sz n:=sz_le (by
 have:=Nat.pow_lt_pow_left (J6 n) ht
 rw [<-Nat.pow_mul,Nat.mul_comm] at this
 exact this)
theorem power_Level {a r:Rat} {n:Nat} {k:Nat} (ha:Sq k a) (hk:k<=10000000) (hr:0<=r) (hr':Sq k r) (hn:1<=n/\n<=1200) (hb:64*sz (r.num.natAbs+r.den)*n<=262144) :
  z192.F (fr a).1 (fr a).2.1 (fr a).2.2 (fr r).1 (fr r).2.1 (fr r).2.2 (n:Int)=some ((fr (lvl a r n)).1,(fr (lvl a r n)).2.1,(fr (lvl a r n)).2.2,0):=by
 have hnum:0<=r.num:=Rat.num_nonneg.2 hr
 unfold z192.F
 rw [Qa (by omega),Zf (by omega)]
 unfold z192.j1
 rw [Zc]
 have es:=Qd6 r (fr r).2.2
 rw [es,Zb,Qa (by rw [Q6];omega),Zb]
 by_cases h0:r=0
 ·have hn0:((n:Int):Rat)≠0:=Yn (n:=n) (by omega)
  have sn:sz n<=4:=sz_le (by omega)
  rw [bif_t (by rw [Yt,h0];rfl),whole_From (by omega),Zb]
  simp only
  rw [frac_From,Zb,Qrc ha (Sq.int (k:=4) (z:=(n:Int)) (by rw [Int.natAbs_natCast];omega) (by decide)) hn0 (by omega)]
  have e:lvl a r n=a/((n:Int):Rat):=by unfold lvl;rw [if_pos h0];rfl
  rw [e];rfl
 ·have hpos:0<r:=by grind
  have hne:r.num≠0:=λe=>h0 (Rat.num_eq_zero.1 e)
  have a1:=ha.1;have a2:=ha.2;have r1:=hr'.1;have r2:=hr'.2
  have hden:=r.den_pos
  generalize hu:r.num.natAbs+r.den=u at *
  have hnu:n*sz u<=4096:=by
   have e:64*sz u*n=64*(n*sz u):=by rw [Nat.mul_assoc,Nat.mul_comm (sz u) n]
   omega
  have hsu:sz u<=4096:=Nat.le_trans (Nat.le_mul_of_pos_left _ (by omega)) hnu
  have lu:=Qj u
  have hvu:sz r.den<=sz u:=Qu (by omega)
  have lv:=Qj r.den
  have b1:64*(lb u).length*n<=262144:=Nat.le_trans (Nat.mul_le_mul_right n (by omega)) hb
  have b2:64*(lb r.den).length*n<=262144:=Nat.le_trans (Nat.mul_le_mul_right n (by omega)) hb
  have hle:r.den^n<=u^n:=Nat.pow_le_pow_left (by omega) n
  have hlt:r.den^n<u^n:=Nat.pow_lt_pow_left (by omega) (by omega)
  have sp:sz (u^n)<=n*sz u:=Qdi u (by omega)
  have lp:=Qj (u^n)
  have sl:sz (u^n-r.den^n)<=n*sz u:=Nat.le_trans (Qu (Nat.sub_le _ _)) sp
  have ll:=Qj (u^n-r.den^n)
  have ln:=Qj r.num.natAbs
  have ln2:=Qj a.num.natAbs
  have s1:=Yg a.num r.num
  have l1:=Qj (a.num*r.num).natAbs
  have s2:=Yg (a.num*r.num) ((u^n:Nat):Int)
  have s3:=Q7 a.den r.den
  have l3:=Qj (a.den*r.den)
  have l4:=Qj a.den
  have s4:=Q7 (a.den*r.den) (u^n-r.den^n)
  rw [Qa (by rw [Yt];exact hne)]
  have eD:=Yy r (fr r).1 (fr r).2.1 (by omega)
  rw [eD,Zb,show z148.F (fr r).1 (fr r).2.1 (fr r).2.2=some ((fr r).1,(fr r).2.1) from rfl,Zb]
  simp only
  rw [show z59.F (lb r.num.natAbs) (neg r.num)=some (lb r.num.natAbs) from rfl,Zb,Qbq (by omega),Zb,hu,digits_Pow hn.2 b1 (by omega),Zb,digits_Pow hn.2 b2 (by omega),Zb]
  simp only [decide_true,Zn,Zc]
  unfold z192.j13
  simp only
  rw [Qds (by omega),if_pos hle,Zb,show z148.F (lb a.num.natAbs) (neg a.num) (lb (a.den-1))=some (lb a.num.natAbs,neg a.num) from rfl,Zb,show z148.F (lb r.num.natAbs) (neg r.num) (lb (r.den-1))=some (lb r.num.natAbs,neg r.num) from rfl,Zb]
  simp only
  have m1:=Yi (x:=a.num) (y:=r.num) (by omega)
  have m2:=Yi (x:=a.num*r.num) (y:=((u^n:Nat):Int)) (by rw [Int.natAbs_natCast];omega)
  have o1:=Qek (num:=a.num*r.num*((u^n:Nat):Int)) (den:=((a.den*r.den*(u^n-r.den^n):Nat):Int)) (by
   have h1:0<a.den:=a.den_pos
   have h2:0<a.den*r.den:=Nat.mul_pos h1 hden
   have h3:0<a.den*r.den*(u^n-r.den^n):=Nat.mul_pos h2 (by omega)
   omega) (by rw [Int.natAbs_natCast] at s2;omega) (by rw [Int.natAbs_natCast];omega)
  rw [Int.natAbs_natCast] at m2
  rw [Qe9] at m2
  rw [Int.natAbs_natCast ((a.den*r.den*(u^n-r.den^n):Nat)),Qe9] at o1
  rw [m1,Zb,power_plain,Zb]
  simp only
  rw [m2,Zb,Yy a _ _ (by omega),Zb,Yv (by omega),Zb,Yv (by omega),Zb,power_plain,Zb]
  simp only
  rw [o1,Zb,<-hu,Qd5 hpos (by omega)]
theorem Qwi (s:List UInt8):0<=(mRate s).1:=by
 unfold mRate
 split
 ·exact Rat.le_refl
 ·split
  ·exact Rat.le_refl
  ·rename_i h
   show (0:Rat)<=mkRat (mDec s).1 (10^(mDec s).2.1)/100
   have h0:0<=(mDec s).1:=by omega
   rw [Rat.mkRat_eq_div]
   have e1:((0:Int):Rat)<=((mDec s).1:Rat):=Rat.intCast_le_intCast.2 h0
   have e2:(0:Rat)<=((mDec s).1:Rat):=e1
   have hp:(0:Nat)<10^(mDec s).2.1:=Nat.pow_pos (by decide)
   have e3:((0:Nat):Rat)<((10^(mDec s).2.1:Nat):Rat):=Rat.natCast_lt_natCast.2 hp
   have e4:(0:Rat)<((10^(mDec s).2.1:Nat):Rat):=e3
   generalize ((mDec s).1:Rat)=x at *
   generalize ((10^(mDec s).2.1:Nat):Rat)=y at *
   have e5:0<=x/y:=by
    rw [Rat.div_def]
    exact Rat.mul_nonneg e2 (Rat.le_of_lt (Rat.inv_pos.2 e4))
   grind
theorem Ji (s:List UInt8):0<=(mMoney s).1/\(mMoney s).1<=10^30:=by
 unfold mMoney
 have h10:(0:Int)<=10^30:=by decide
 split
 ·exact ⟨Int.le_refl _,h10⟩
 ·split
  ·exact ⟨Int.le_refl _,h10⟩
  ·rename_i h;exact ⟨by show 0<=(mWhole s).1;omega,by show (mWhole s).1<=_;omega⟩
def perR (s:List UInt8) (every:Int):Rat:=(mRate s).1*Rat.divInt every 12
theorem Qj8 {e:Int} (he:1<=e/\e<=12):Sq 2 (Rat.divInt e 12):=Sq.div (by decide) (sz_le (by omega)) (sz_le (by decide))
theorem Qbs (s:List UInt8) {e:Int} (he:1<=e/\e<=12):Sq 102 (perR s e):=(W9 s).mul (Qj8 he)
theorem Q32 {e:Int} (he:1<=e):0<Rat.divInt e 12:=by
 rw [Rat.divInt_eq_div]
 have:((1:Int):Rat)<=(e:Rat):=Rat.intCast_le_intCast.2 he
 have e1:(1:Rat)<=(e:Rat):=this
 show 0<(e:Rat)/12
 grind
theorem Qa3 (s:List UInt8) {e:Int} (he:1<=e):0<=perR s e:=Rat.mul_nonneg (Qwi s) (Rat.le_of_lt (Q32 he))
theorem level_Rate {s:List UInt8} {e:Int} (h:(mRate s).2=0) (he:1<=e/\e<=12):z188.F s e=some ((fr (perR s e)).1,(fr (perR s e)).2.1,(fr (perR s e)).2.2,0):=by
 unfold z188.F
 rw [terms_Rate,Zb,h]
 simp only [decide_true,Zn,Zc]
 rw [Qa (by omega),Qa (by omega)]
 unfold z188.j2
 have se:sz e.natAbs<=2:=sz_le (by omega)
 have s12:sz (Int.natAbs 12)<=2:=sz_le (by decide)
 have o:=Qek (num:=e) (den:=12) (by decide) (by omega) (by omega)
 rw [whole_From (by omega),Zb,whole_From (by decide),Zb]
 simp only
 rw [o,Zb]
 simp only
 rw [Qby (W9 s) (Qj8 he) (by decide),Zb]
 rfl
def payN (m:Int) (a:Int) (s:List UInt8) (e:Int) (n:Nat):Int:=rnd m (lvl (a:Rat) (perR s e) n)
theorem Qik {a r:Rat} {n k:Nat} (ha:Sq k a) (hr:0<=r) (hr':Sq k r) (hn:1<=n) (hk:4<=k) (hb:64*sz (r.num.natAbs+r.den)*n<=262144):Sq (2*k+4100) (lvl a r n):=by
 have a1:=ha.1;have a2:=ha.2;have r1:=hr'.1;have r2:=hr'.2
 by_cases h0:r=0
 ·have sn:sz n<=4:=by
   have h1:sz 1<=1:=sz_le (by decide)
   have h2:0<sz (r.num.natAbs+r.den):=by
    have:=Qu (show 1<=r.num.natAbs+r.den by have:=r.den_pos;omega)
    have e1:sz 1≠0:=by decide +kernel
    omega
   have:64*1*n<=262144:=Nat.le_trans (Nat.mul_le_mul_right n (Nat.mul_le_mul_left 64 h2)) hb
   exact sz_le (by omega)
  unfold lvl
  rw [if_pos h0]
  have e:a/(n:Rat)=Rat.divInt (a.num) ((a.den*n:Nat):Int):=by
   rw [Rat.divInt_eq_div,Rat.intCast_natCast,Rat.natCast_mul]
   have:=Qcp a
   have hn0:((n:Nat):Rat)≠0:=Yn (by omega)
   have had:((a.den:Nat):Rat)≠0:=Yn (by have:=a.den_pos;omega)
   grind
  rw [e]
  have hm:=Q7 a.den n
  exact Sq.div (by have:=Nat.mul_pos a.den_pos (show 0<n by omega);omega) (by omega) (by rw [Int.natAbs_natCast];omega)
 ·have hpos:0<r:=by grind
  rw [<-Qd5 hpos (by omega)]
  have hden:=r.den_pos
  have hnum:0<=r.num:=Rat.num_nonneg.2 hr
  have hne:r.num≠0:=λe=>h0 (Rat.num_eq_zero.1 e)
  generalize hu:r.num.natAbs+r.den=u at *
  have hnu:n*sz u<=4096:=by
   have e:64*sz u*n=64*(n*sz u):=by rw [Nat.mul_assoc,Nat.mul_comm (sz u) n]
   omega
  have sp:sz (u^n)<=n*sz u:=Qdi u (by omega)
  have sl:sz (u^n-r.den^n)<=n*sz u:=Nat.le_trans (Qu (Nat.sub_le _ _)) sp
  have hlt:r.den^n<u^n:=Nat.pow_lt_pow_left (by omega) (by omega)
  have s1:=Yg a.num r.num
  have s2:=Yg (a.num*r.num) ((u^n:Nat):Int)
  have s3:=Q7 a.den r.den
  have s4:=Q7 (a.den*r.den) (u^n-r.den^n)
  rw [Int.natAbs_natCast] at s2
  refine Sq.div ?_ (by omega) (by rw [Int.natAbs_natCast];omega)
  have h1:0<a.den:=a.den_pos
  have h2:0<a.den*r.den:=Nat.mul_pos h1 hden
  have h3:0<a.den*r.den*(u^n-r.den^n):=Nat.mul_pos h2 (by omega)
  omega
theorem Qe1 (s:List UInt8) {e:Int} (he:1<=e/\e<=12) {n:Nat} (hn:n<=30):64*sz ((perR s e).num.natAbs+(perR s e).den)*n<=262144:=by
 have h:sz (perR s e).num.natAbs<=102/\sz (perR s e).den<=102:=by
  have h1:=Qhj s
  have se:sz e.natAbs<=2:=sz_le (by omega)
  have s12:sz 12<=2:=sz_le (by decide)
  unfold perR
  have hd:Rat.divInt e 12=mkRat e 12:=rfl
  have m1:=Qbb e (show 0<12 by decide)
  have m2:=Qbf e (show 0<12 by decide)
  rw [<-hd] at m1 m2
  have n1:=Qu m1
  have n2:=Qu m2
  rw [Rat.mul_def']
  have p0:0<(mRate s).1.den*(Rat.divInt e 12).den:=Nat.mul_pos (mRate s).1.den_pos (Rat.divInt e 12).den_pos
  have k1:=Qu (Qbb ((mRate s).1.num*(Rat.divInt e 12).num) p0)
  have k2:=Qu (Qbf ((mRate s).1.num*(Rat.divInt e 12).num) p0)
  have k3:=Yg (mRate s).1.num (Rat.divInt e 12).num
  have k4:=Q7 (mRate s).1.den (Rat.divInt e 12).den
  constructor<;>omega
 have hm:=Y7 (perR s e).num.natAbs (perR s e).den
 have hs:sz ((perR s e).num.natAbs+(perR s e).den)<=104:=by omega
 exact Nat.le_trans (Nat.mul_le_mul (Nat.mul_le_mul_left 64 hs) hn) (by decide)
theorem level_Payment {a:Int} {s:List UInt8} {e m:Int} {n:Nat} (ha:0<=a) (hz:sz a.natAbs<=200) (h:(mRate s).2=0) (he:1<=e/\e<=12) (hn:1<=n/\n<=30) (hm:0<=m/\m<=4) :
  z193.F (lb a.natAbs) (neg a) s e (n:Int) m=some (lb (payN m a s e n).natAbs,neg (payN m a s e n),0):=by
 have hq:Sq 102 (a:Rat):=Sq.int (by omega) (by decide)
 have hb:=Qe1 s he hn.2
 unfold z193.F
 rw [level_Rate h he,Zb]
 simp only [decide_true,Zn,Zc]
 rw [W0,Zb,Qa (by rw [Q6];omega),frac_From,Zb,power_Level hq (by decide) (Qa3 s he.1) (Qbs s he) ⟨hn.1,by omega⟩ hb,Zb]
 simp only [decide_true,Zn,Zc]
 rw [round_Whole hm (Qik hq (Qa3 s he.1) (Qbs s he) hn.1 (by decide) hb) (by decide),Zb]
 rfl
def Qei (m:Int) (a:Int) (n:Nat):Int:=rnd m (Rat.divInt a n)
theorem level_Part {a:Int} {m:Int} {n:Nat} (ha:0<=a) (hz:sz a.natAbs<=200) (hn:1<=n/\n<=1200) (hm:0<=m/\m<=4):z194.F (lb a.natAbs) (neg a) (n:Int) m=some (lb (Qei m a n).natAbs,neg (Qei m a n),0):=by
 have sn:sz n<=4:=sz_le (by omega)
 unfold z194.F
 rw [W0,Zb,Qa (by rw [Q6];omega),Qa (by omega),Qa (by omega)]
 unfold z194.j2
 rw [whole_From (by omega),Zb]
 simp only
 rw [Qek (by omega) (by omega) (by rw [Int.natAbs_natCast];omega),Zb]
 simp only
 rw [round_Whole hm (Sq.div (k:=200) (by omega) (by omega) (by rw [Int.natAbs_natCast];omega)) (by decide),Zb]
 rfl
def intX (t:Tm) (z:Int) (a b:D3):Rat:=(z:Rat)*(mRate t.r).1*yf t.basis a.1 a.2.1 a.2.2 b.1 b.2.1 b.2.2
def intN (t:Tm) (z:Int) (a b:D3):Int:=rnd t.mode (intX t z a b)
theorem Qk6 {t:Tm} {z:Int} {a b:D3} (hz:sz z.natAbs<=200) (ha:rightD a) (hb:rightD b):Sq 232 (intX t z a b):=
 ((Sq.int (k:=100) (by omega) (by decide)).mul (W9 t.r)).mul (Qa0 t.basis ha hb)
theorem Qg7 {t:Tm} {z:Int} {a b:D3} (hz:sz z.natAbs<=200) (ha:rightD a) (hb:rightD b):sz (intN t z a b).natAbs<=466:=Qaf t.mode (Qk6 hz ha hb)
theorem Y6 {t:Tm} (h:kindsOK t):(0<=t.kind/\t.kind<=2)/\(0<=t.basis/\t.basis<=2)/\(0<=t.mode/\t.mode<=4)/\Qbo t.every:=h
theorem plan_Interest {t:Tm} (h:mCheck t=0) {z:Int} (hz:sz z.natAbs<=200) {a b:D3} (ha:rightD a) (hb:rightD b) (hab:numD a<=numD b) :
  z185.F (lb z.natAbs) (neg z) t.p t.r t.kind t.basis t.mode t.y t.m t.d t.every t.count a.1 a.2.1 a.2.2 b.1 b.2.1 b.2.2=some (lb (intN t z a b).natAbs,neg (intN t z a b),0):=by
 obtain ⟨hk,hc,_,_⟩:=W6 h
 obtain ⟨_,k2,k3,_⟩:=Y6 hk
 have q1:Sq 100 (z:Rat):=Sq.int (by omega) (by decide)
 unfold z185.F
 rw [terms_Check,Zb,h]
 simp only [decide_true,Zn,Zc]
 rw [count_Year k2 ha hb hab,Zb]
 simp only [decide_true,Zn,Zc]
 rw [terms_Rate,Zb,frac_From,Zb,Qby q1 (W9 t.r) (by decide),Zb,Qby (q1.mul (W9 t.r)) (Qa0 t.basis ha hb) (by decide),Zb]
 have hw:=round_Whole k3 (Qk6 (t:=t) hz ha hb) (by decide)
 unfold intX at hw
 rw [hw,Zb]
 rfl
structure Rw where
 due:D3
 o:Int
 n:Int
 b:Int
 pay:Int
 c:Int
deriving DecidableEq
def rwv (x:Rw):List V:=[.int .i64 x.due.1,.int .i64 x.due.2.1,.int .i64 x.due.2.2,.str (itxt x.o),.str (itxt x.n),.str (itxt x.b),.str (itxt x.pay),.str (itxt x.c)]
theorem asW0 {R:Type} (x:Rw) (K:Int->Option R):V.asInt .i64 ((rwv x).getD 0 .undef) K=K x.due.1:=by simp [rwv,V.asInt]
theorem asW1 {R:Type} (x:Rw) (K:Int->Option R):V.asInt .i64 ((rwv x).getD 1 .undef) K=K x.due.2.1:=by simp [rwv,V.asInt]
theorem asW2 {R:Type} (x:Rw) (K:Int->Option R):V.asInt .i64 ((rwv x).getD 2 .undef) K=K x.due.2.2:=by simp [rwv,V.asInt]
theorem asW3 {R:Type} (x:Rw) (K:List UInt8->Option R):V.asStr ((rwv x).getD 3 .undef) K=K (itxt x.o):=by simp [rwv,V.asStr]
theorem asW4 {R:Type} (x:Rw) (K:List UInt8->Option R):V.asStr ((rwv x).getD 4 .undef) K=K (itxt x.n):=by simp [rwv,V.asStr]
theorem asW5 {R:Type} (x:Rw) (K:List UInt8->Option R):V.asStr ((rwv x).getD 5 .undef) K=K (itxt x.b):=by simp [rwv,V.asStr]
theorem asW6 {R:Type} (x:Rw) (K:List UInt8->Option R):V.asStr ((rwv x).getD 6 .undef) K=K (itxt x.pay):=by simp [rwv,V.asStr]
theorem asW7 {R:Type} (x:Rw) (K:List UInt8->Option R):V.asStr ((rwv x).getD 7 .undef) K=K (itxt x.c):=by simp [rwv,V.asStr]
def less (a b:Int):Int:=if a<b then a else b
def Wf (kind one z n:Int):Int:=if kind=0 then (if one-n<0 then 0 else less (one-n) z) else less one z
theorem Qpf {a b:Int} (h:sz a.natAbs+sz b.natAbs<=700000000):z196.F (lb a.natAbs) (neg a) (lb b.natAbs) (neg b)=some (lb (less a b).natAbs,neg (less a b)):=by
 have l1:=Qj a.natAbs
 have l2:=Qj b.natAbs
 unfold z196.F less
 rw [Qc5 (by omega),Zb]
 by_cases c:a<b
 ·rw [bif_t (Q6.2 c),if_pos c]
 ·rw [Qa (λe=>c (Q6.1 e)),if_neg c]
theorem plan_part {kind one z n:Int} (h1:sz one.natAbs<=10000000) (h2:sz z.natAbs<=10000000) (h3:sz n.natAbs<=10000000):z197.F kind (lb one.natAbs) (neg one) (lb z.natAbs) (neg z) (lb n.natAbs) (neg n)=some (lb (Wf kind one z n).natAbs,neg (Wf kind one z n)):=by
 have l1:=Qj one.natAbs
 have l3:=Qj n.natAbs
 have hs:sz (one-n).natAbs<=10000001:=by
  have h:=Qu (show (one-n).natAbs<=one.natAbs+n.natAbs by omega)
  have:=Y7 one.natAbs n.natAbs
  omega
 unfold z197.F Wf
 by_cases hk:kind=0
 ·rw [bif_t hk,if_pos hk,Qb7 (by omega),Zb]
  simp only
  rw [W0,Zb]
  by_cases c:one-n<0
  ·rw [bif_t (by rw [Q6];exact c),if_pos c,show Int.natAbs 0=0 from rfl,lb_zero];rfl
  ·rw [Qa (by rw [Q6];exact c),if_neg c,Qpf (by omega),Zb]
 ·rw [Qa hk,if_neg hk,Qpf (by omega),Zb]
def mRow (t:Tm) (one z:Int) (p:D3×D3) (last:Bool):Rw:=
 let n:=intN t z p.1 p.2
 let b:=if last then z else Wf t.kind one z n
 ⟨p.2,z,n,b,n+b,z-b⟩
def mRows (t:Tm) (one:Int):Int->List (D3×D3)->List Rw
 |_,[]=>[]
 |z,p::ps=>mRow t one z p (decide (ps=[]))::mRows t one (mRow t one z p (decide (ps=[]))).c ps
theorem Q2a {kind one z n:Int} (h1:0<=one) (hz:0<=z):0<=Wf kind one z n/\Wf kind one z n<=z:=by
 unfold Wf less
 split<;>(try split)<;>(try split)<;>omega
theorem Qay {t:Tm} {one z:Int} {p:D3×D3} {last:Bool} (h1:0<=one) (hz:0<=z):0<=(mRow t one z p last).c/\(mRow t one z p last).c<=z/\0<=(mRow t one z p last).b/\(mRow t one z p last).b<=z:=by
 have h:=Q2a (kind:=t.kind) (n:=intN t z p.1 p.2) h1 hz
 show 0<=z-(if last then z else Wf t.kind one z (intN t z p.1 p.2))/\z-(if last then z else Wf t.kind one z (intN t z p.1 p.2))<=z/\0<=(if last then z else Wf t.kind one z (intN t z p.1 p.2))/\(if last then z else Wf t.kind one z (intN t z p.1 p.2))<=z
 split<;>omega
theorem Qm8 (t:Tm) (one:Int):∀(ps:List (D3×D3)) (z:Int),(mRows t one z ps).length=ps.length
 |[],_=>rfl
 |p::ps,z=>by simp [mRows,Qm8 t one ps]
def okP (ps:List (D3×D3)):Prop:=∀p∈ps,rightD p.1/\rightD p.2/\numD p.1<=numD p.2
theorem Qc0 {z:Int} (h0:0<=z) (h:z<=10^30):sz z.natAbs<=31:=sz_le (by
 have e:(10:Int)^30=1000000000000000000000000000000:=by decide
 rw [e] at h
 omega)
theorem Qi2 {t:Tm} (h:mCheck t=0) {one:Int} (h1:0<=one) (h1s:sz one.natAbs<=10000000) {ps:List (D3×D3)} (hp:okP ps) (hl:ps.length<=1200):∀(f i:Nat) (z:Int) (s:List Rw),i+f=ps.length->0<=z->z<=10^30->s.length=i ->
  ∃st:Int×List Int×Bool,Runs (λrec x=>z198.l0P (ps.map pv) (ps.map pv) (((ps.map pv).length:Nat):Int) t.p t.r t.kind t.basis t.mode t.y t.m t.d t.every t.count (lb one.natAbs) (neg one) rec some x) ((i:Int),lb z.natAbs,neg z,s.map rwv) (.inl (st.1,st.2.1,st.2.2,(s++mRows t one z (ps.drop i)).map rwv))
 |
  0,i,z,s,hf,hz,hz',hs=>by
  refine ⟨((i:Int),lb z.natAbs,neg z),.done λrec=>?_⟩
  rw [List.drop_eq_nil_of_le (by omega)]
  have ea:s++mRows t one z []=s:=List.append_nil s
  rw [ea]
  unfold z198.l0P
  simp only
  rw [Qa (by rw [List.length_map];omega)]
 |
  f+1,i,z,s,hf,hz,hz',hs=>by
  have hi:i<ps.length:=by omega
  obtain ⟨r1,r2,r3⟩:=hp ps[i] (List.getElem_mem hi)
  have ek:wr .i64 ((i:Int)+1)=((i+1:Nat):Int):=by rw [Qc (by omega) (by omega)];rfl
  have hw:wr .i64 ((((ps.map pv).length:Nat):Int)-1)=((ps.length-1:Nat):Int):=by rw [List.length_map,Qc (by omega) (by omega)];omega
  have s0:=Qc0 hz hz'
  have sn:=Qg7 (t:=t) (z:=z) (by omega) r1 r2
  have key:∀last:Bool,0<=(mRow t one z ps[i] last).b/\(mRow t one z ps[i] last).b<=z:=λlast=>⟨(Qay h1 hz).2.2.1,(Qay h1 hz).2.2.2⟩
  have hj:∀(last:Bool) (rec:(Int×(List Int)×Bool×(List (List V)))->Option ((Int×(List Int)×Bool×(List (List V)))⊕((List (List V))×Int×(List Int)×Bool×(List (List V))))),
    z198.j1031a rec some (lb z.natAbs) (neg z) (lb (mRow t one z ps[i] last).b.natAbs) (neg (mRow t one z ps[i] last).b) (lb (intN t z ps[i].1 ps[i].2).natAbs,neg (intN t z ps[i].1 ps[i].2),0) (s.map rwv) ps[i].2.1 ps[i].2.2.1 ps[i].2.2.2 (i:Int) =
     rec (((i+1:Nat):Int),lb (mRow t one z ps[i] last).c.natAbs,neg (mRow t one z ps[i] last).c,(s++[mRow t one z ps[i] last]).map rwv):=λlast rec=>by
   obtain ⟨kb1,kb2⟩:=key last
   have sb:=Qc0 kb1 (by omega)
   have sc:=Qc0 (Qay (t:=t) (p:=ps[i]) (last:=last) h1 hz).1 (by have:=(Qay (t:=t) (p:=ps[i]) (last:=last) h1 hz).2.1;omega)
   have ec:z-(mRow t one z ps[i] last).b=(mRow t one z ps[i] last).c:=rfl
   have ep:intN t z ps[i].1 ps[i].2+(mRow t one z ps[i] last).b=(mRow t one z ps[i] last).pay:=rfl
   have l1:=Qj z.natAbs
   have l2:=Qj (mRow t one z ps[i] last).b.natAbs
   have l3:=Qj (intN t z ps[i].1 ps[i].2).natAbs
   have sp:sz (mRow t one z ps[i] last).pay.natAbs<=500:=by
    have h:=Qae (intN t z ps[i].1 ps[i].2) (mRow t one z ps[i] last).b
    rw [ep] at h;omega
   unfold z198.j1031a
   rw [Qb7 (by omega),Zb,ec,W4 (by omega),Zb]
   simp only
   rw [W4 (by omega),Zb,W4 (by omega),Zb,Qbd (by omega),Zb,ep]
   simp only
   rw [W4 (by omega),Zb,W4 (by omega),Zb,if_pos (by simp only [List.length_map,List.length_cons,List.length_nil];omega),ek,List.map_append]
   rfl
  have hdrop:ps.drop i=ps[i]::ps.drop (i+1):=List.drop_eq_getElem_cons hi
  have hlast:decide (ps.drop (i+1)=[])=decide (i=ps.length-1):=by
   apply decide_eq_decide.2
   rw [List.drop_eq_nil_iff];omega
  obtain ⟨st,r⟩:=Qi2 h h1 h1s hp hl f (i+1) (mRow t one z ps[i] (decide (i=ps.length-1))).c (s++[mRow t one z ps[i] (decide (i=ps.length-1))]) (by omega) (Qay h1 hz).1 (by have:=(Qay (t:=t) (p:=ps[i]) (last:=decide (i=ps.length-1)) h1 hz).2.1;omega) (by rw [List.length_append,List.length_singleton];omega)
  refine ⟨st,?_⟩
  have hm:mRows t one z (ps.drop i)=mRow t one z ps[i] (decide (i=ps.length-1))::mRows t one (mRow t one z ps[i] (decide (i=ps.length-1))).c (ps.drop (i+1)):=by
   rw [hdrop]
   show mRow t one z ps[i] (decide (ps.drop (i+1)=[]))::mRows t one (mRow t one z ps[i] (decide (ps.drop (i+1)=[]))).c (ps.drop (i+1))=_
   rw [hlast]
  rw [hm,List.append_cons]
  refine .step (λrec=>?_) r
  unfold z198.l0P
  simp only
  rw [bif_t (by rw [List.length_map];omega),if_pos (by rw [List.length_map];omega),Zi,Q1 pv hi]
  simp only [asP0,asP1,asP2,asP3,asP4,asP5]
  rw [plan_Interest h (by omega) r1 r2 r3,Zb]
  simp only [decide_true,Zn,Zc]
  rw [plan_part h1s (by omega) (by omega),Zb,hw]
  by_cases hc:i=ps.length-1
  ·rw [bif_t (by omega)]
   have:=hj true rec
   rw [Zt hc]
   exact this
  ·rw [Qa (by omega)]
   have:=hj false rec
   rw [Zf hc]
   exact this
theorem Qdm (m:Int) {q:Rat} (h:0<=q):0<=rnd m q:=by
 have:=Rat.num_nonneg.2 h
 unfold rnd
 rw [if_neg (by omega)]
 omega
theorem divInt_nonneg {a b:Int} (h:0<=a) (h':0<b):0<=Rat.divInt a b:=by
 rw [Rat.divInt_eq_div,Rat.div_def]
 have e1:((0:Int):Rat)<=(a:Rat):=Rat.intCast_le_intCast.2 h
 have e2:((0:Int):Rat)<(b:Rat):=Rat.intCast_lt_intCast.2 h'
 exact Rat.mul_nonneg e1 (Rat.le_of_lt (Rat.inv_pos.2 e2))
theorem Qhv {a r:Rat} {n:Nat} (ha:0<=a) (hr:0<=r) (hn:1<=n):0<=lvl a r n:=by
 by_cases h0:r=0
 ·unfold lvl
  rw [if_pos h0,Rat.div_def]
  have e:((0:Nat):Rat)<=((n:Nat):Rat):=Rat.natCast_le_natCast.2 (Nat.zero_le n)
  have hn0:((0:Nat):Rat)<((n:Nat):Rat):=Rat.natCast_lt_natCast.2 (by omega)
  exact Rat.mul_nonneg ha (Rat.le_of_lt (Rat.inv_pos.2 hn0))
 ·have hpos:0<r:=by grind
  rw [<-Qd5 hpos (by omega)]
  have hnum:0<=r.num:=Rat.num_nonneg.2 hr
  have hne:r.num≠0:=λe=>h0 (Rat.num_eq_zero.1 e)
  have hna:0<=a.num:=Rat.num_nonneg.2 ha
  have hlt:r.den^n<(r.num.natAbs+r.den)^n:=Nat.pow_lt_pow_left (by omega) (by omega)
  have h2:0<a.den*r.den:=Nat.mul_pos a.den_pos r.den_pos
  have h3:0<a.den*r.den*((r.num.natAbs+r.den)^n-r.den^n):=Nat.mul_pos h2 (by omega)
  exact divInt_nonneg (Int.mul_nonneg (Int.mul_nonneg hna hnum) (by omega)) (by omega)
def eachN (t:Tm):Int:=if t.kind=0 then payN t.mode (mMoney t.p).1 t.r t.every t.count.toNat else if t.kind=1 then Qei t.mode (mMoney t.p).1 t.count.toNat else 0
theorem Qfb {z:Int} (h:0<=z):(0:Rat)<=(z:Rat):=by
 have e1:((0:Int):Rat)<=(z:Rat):=Rat.intCast_le_intCast.2 h
 exact e1
theorem Qla {t:Tm} (h:mCheck t=0) (hc:t.count<=30):0<=eachN t/\sz (eachN t).natAbs<=10000/\z195.F t.p t.r t.kind t.basis t.mode t.y t.m t.d t.every t.count=some (lb (eachN t).natAbs,neg (eachN t),0):=by
 obtain ⟨hk,hcc,_,_⟩:=W6 h
 obtain ⟨k1,k2,k3,k4⟩:=Y6 hk
 have he:=J5 k4
 obtain ⟨i1,i2,_⟩:=(Qj0 t).1 h
 obtain ⟨n,hn⟩:=Wc (show 0<=t.count by omega)
 have hz:=Ji t.p
 have hsz:=Qaa t.p
 have hq:Sq 102 (((mMoney t.p).1:Int):Rat):=Sq.int (by omega) (by decide)
 unfold z195.F
 rw [terms_Money,Zb]
 simp only
 unfold eachN
 by_cases c0:t.kind=0
 ·rw [if_pos c0,bif_t c0,hn,Zi,level_Payment hz.1 (by omega) i2 he (by omega) k3,Zb]
  have hb:=Qe1 t.r he (n:=n) (by omega)
  refine ⟨Qdm _ (Qhv (Qfb hz.1) (Qa3 t.r he.1) (by omega)),?_,rfl⟩
  have:=Qaf t.mode (Qik (n:=n) hq (Qa3 t.r he.1) (Qbs t.r he) (by omega) (by decide) hb)
  show sz (rnd t.mode (lvl ((mMoney t.p).1:Rat) (perR t.r t.every) n)).natAbs<=10000
  omega
 ·rw [if_neg c0,Qa c0]
  by_cases c1:t.kind=1
  ·rw [if_pos c1,bif_t c1,hn,Zi,level_Part hz.1 (by omega) (by omega) k3,Zb]
   have sn:sz n<=4:=sz_le (by omega)
   refine ⟨Qdm _ (divInt_nonneg hz.1 (by omega)),?_,rfl⟩
   have:=Qaf t.mode (Sq.div (k:=200) (n:=(mMoney t.p).1) (d:=(n:Int)) (by omega) (by omega) (by rw [Int.natAbs_natCast];omega))
   show sz (rnd t.mode (Rat.divInt (mMoney t.p).1 n)).natAbs<=10000
   omega
  ·rw [if_neg c1,Qa c1]
   refine ⟨Int.le_refl _,by show sz 0<=_;rw [Qai];omega,?_⟩
   rw [show Int.natAbs 0=0 from rfl,lb_zero];rfl
theorem Qo1:∀(a:D3) (l:List D3),rightD a->(∀x∈l,rightD x)->(∀j (h:j<l.length),numD (if h0:j=0 then a else l[j-1]'(by omega))<=numD l[j])->okP (pairs a l)
 |a,[],_,_,_=>λp hp=>by simp [pairs] at hp
 |
  a,b::l,ha,hl,hn=>by
  intro p hp
  have hb:=hl b (List.mem_cons_self ..)
  rcases List.mem_cons.1 (show p∈(a,b)::pairs b l from hp) with rfl|hp
  ·exact ⟨ha,hb,hn 0 (by simp)⟩
  ·refine Qo1 b l hb (λx hx=>hl x (List.mem_cons_of_mem _ hx)) (λj hj=>?_) p hp
   have:=hn (j+1) (by simp only [List.length_cons];omega)
   rw [dif_neg (by omega)] at this
   by_cases h0:j=0
   ·subst h0;exact this
   ·rw [dif_neg h0]
    obtain ⟨i,rfl⟩:∃i,j=i+1:=⟨j-1,by omega⟩
    exact this
theorem Qga {t:Tm} (h:mCheck t=0):okP t.periods:=by
 have d:=Qwn h
 refine Qo1 t.start t.dates d.start (λx hx=>?_) (λj hj=>?_)
 ·obtain ⟨i,hi,rfl⟩:=List.getElem_of_mem hx
  exact d.right i hi
 ·by_cases h0:j=0
  ·subst h0
   rw [dif_pos rfl]
   exact Int.le_of_lt (d.first 0 hj)
  ·rw [dif_neg h0]
   exact Int.le_of_lt (d.lt (j-1) j (by omega) hj (by omega))
theorem Qdv (t:Tm):t.periods.length=t.count.toNat:=by
 show (pairs t.start t.dates).length=_
 rw [Qfh,t.dates_len]
def mBuild (t:Tm):List Rw:=mRows t (eachN t) (mMoney t.p).1 t.periods
theorem Qgv (t:Tm):(mBuild t).length=t.count.toNat:=by
 unfold mBuild
 rw [Qm8,Qdv]
theorem plan_Build {t:Tm} (h:mCheck t=0) (hc:t.count<=30):z198.F t.p t.r t.kind t.basis t.mode t.y t.m t.d t.every t.count=some ((mBuild t).map rwv,0):=by
 obtain ⟨e1,e2,e3⟩:=Qla h hc
 have hz:=Ji t.p
 have hl:=Qdv t
 obtain ⟨st,r⟩:=Qi2 h e1 (by omega) (Qga h) (by omega) t.periods.length 0 (mMoney t.p).1 [] (Nat.zero_add _) hz.1 hz.2 rfl
 rw [List.drop_zero,List.nil_append] at r
 have er:=r.lfp
 unfold z198.F
 rw [dues_Periods,if_pos h,Zb]
 simp only [decide_true,Zn,Zc]
 rw [e3,Zb]
 simp only [decide_true,Zn,Zc]
 rw [terms_Money,Zb]
 simp only
 refine (congrArg (λo=>Option.bind o _) er).trans ?_
 rfl
theorem Qm4 {t:Tm} (h:mCheck t≠0):z198.F t.p t.r t.kind t.basis t.mode t.y t.m t.d t.every t.count=some ([],mCheck t):=by
 unfold z198.F
 rw [dues_Periods,if_neg h,Zb]
 simp only
 rw [Zf h,Zo,Zd]
structure Ro where
 due:D3
 o:List UInt8
 n:List UInt8
 b:List UInt8
 pay:List UInt8
 c:List UInt8
def rov (x:Ro):List V:=[.int .i64 x.due.1,.int .i64 x.due.2.1,.int .i64 x.due.2.2,.str x.o,.str x.n,.str x.b,.str x.pay,.str x.c]
def Rw.ro (x:Rw):Ro:=⟨x.due,itxt x.o,itxt x.n,itxt x.b,itxt x.pay,itxt x.c⟩
theorem Q2g (l:List Rw):l.map rwv=(l.map Rw.ro).map rov:=by rw [List.map_map];rfl
theorem asO0 {R:Type} (x:Ro) (K:Int->Option R):V.asInt .i64 ((rov x).getD 0 .undef) K=K x.due.1:=by simp [rov,V.asInt]
theorem asO1 {R:Type} (x:Ro) (K:Int->Option R):V.asInt .i64 ((rov x).getD 1 .undef) K=K x.due.2.1:=by simp [rov,V.asInt]
theorem asO2 {R:Type} (x:Ro) (K:Int->Option R):V.asInt .i64 ((rov x).getD 2 .undef) K=K x.due.2.2:=by simp [rov,V.asInt]
theorem asO3 {R:Type} (x:Ro) (K:List UInt8->Option R):V.asStr ((rov x).getD 3 .undef) K=K x.o:=by simp [rov,V.asStr]
theorem asO4 {R:Type} (x:Ro) (K:List UInt8->Option R):V.asStr ((rov x).getD 4 .undef) K=K x.n:=by simp [rov,V.asStr]
theorem asO5 {R:Type} (x:Ro) (K:List UInt8->Option R):V.asStr ((rov x).getD 5 .undef) K=K x.b:=by simp [rov,V.asStr]
theorem asO6 {R:Type} (x:Ro) (K:List UInt8->Option R):V.asStr ((rov x).getD 6 .undef) K=K x.pay:=by simp [rov,V.asStr]
theorem asO7 {R:Type} (x:Ro) (K:List UInt8->Option R):V.asStr ((rov x).getD 7 .undef) K=K x.c:=by simp [rov,V.asStr]
def mSum:Int->Int->List Ro->Int×Int×Int
 |a,b,[]=>(a,b,0)
 |a,b,r::l=>if (mMoney r.n).2≠0 then (0,0,(mMoney r.n).2) else if (mMoney r.b).2≠0 then (0,0,(mMoney r.b).2) else mSum (a+(mMoney r.n).1) (b+(mMoney r.b).1) l
abbrev sumO (S:Int×Int×Int) (x:Int×(List Int)×Bool×(List Int)×Bool):(Int×(List Int)×Bool×(List Int)×Bool)⊕(Int×(List Int)×Bool×(List Int)×Bool×(List Int)×Bool×(List Int)×Bool):=
 if S.2.2=0 then .inl (x.1,lb S.1.natAbs,neg S.1,lb S.2.1.natAbs,neg S.2.1) else .inr (S.2.2,[],false,[],false,x.2)
theorem Qg4 {a b:Int} {i:Nat} (h0:0<=a) (h1:a<=10^30*i) (hb0:0<=b) (hb:b<=10^30):0<=a+b/\a+b<=10^30*((i+1:Nat):Int):=by
 have e:(10:Int)^30=1000000000000000000000000000000:=by decide
 rw [e] at *
 omega
theorem Qcs {a:Int} {i:Nat} (h0:0<=a) (h1:a<=10^30*i) (hi:i<=1000000):sz a.natAbs<=40:=sz_le (by
 have e:(10:Int)^30=1000000000000000000000000000000:=by decide
 rw [e] at h1
 have e2:(10:Nat)^40=10000000000000000000000000000000000000000:=by decide
 omega)
theorem Qp0 {l:List Ro} (hl:l.length<=1000000):∀(f i:Nat) (a b:Int),i+f=l.length->0<=a->a<=10^30*i->0<=b->b<=10^30*i ->
  ∃x,Runs (λrec x=>z187.l0P (l.map rov) (((l.map rov).length:Nat):Int) rec some x) ((i:Int),lb a.natAbs,neg a,lb b.natAbs,neg b) (sumO (mSum a b (l.drop i)) x)
 |
  0,i,a,b,hf,_,_,_,_=>by
  refine ⟨((i:Int),[],false,[],false),.done λrec=>?_⟩
  rw [List.drop_eq_nil_of_le (by omega)]
  unfold z187.l0P
  simp only
  rw [Qa (by rw [List.length_map];omega)]
  rfl
 |
  f+1,i,a,b,hf,ha0,ha,hb0,hb=>by
  have hi:i<l.length:=by omega
  have ek:wr .i64 ((i:Int)+1)=((i+1:Nat):Int):=by rw [Qc (by omega) (by omega)];rfl
  have hm1:=Ji l[i].n
  have hm2:=Ji l[i].b
  have z1:=Qaa l[i].n
  have z2:=Qaa l[i].b
  have za:=Qcs ha0 ha (by omega)
  have zb:=Qcs hb0 hb (by omega)
  have la:=Qj a.natAbs
  have lb':=Qj b.natAbs
  have l1:=Qj (mMoney l[i].n).1.natAbs
  have l2:=Qj (mMoney l[i].b).1.natAbs
  rw [List.drop_eq_getElem_cons hi]
  have hstep:∀rec:(Int×(List Int)×Bool×(List Int)×Bool)->Option ((Int×(List Int)×Bool×(List Int)×Bool)⊕(Int×(List Int)×Bool×(List Int)×Bool×(List Int)×Bool×(List Int)×Bool)),
    z187.l0P (l.map rov) (((l.map rov).length:Nat):Int) rec some ((i:Int),lb a.natAbs,neg a,lb b.natAbs,neg b) =
     if (mMoney l[i].n).2≠0 then some (.inr ((mMoney l[i].n).2,[],false,[],false,lb a.natAbs,neg a,lb b.natAbs,neg b)) else if (mMoney l[i].b).2≠0 then some (.inr ((mMoney l[i].b).2,[],false,[],false,lb a.natAbs,neg a,lb b.natAbs,neg b))
     else rec (((i+1:Nat):Int),lb (a+(mMoney l[i].n).1).natAbs,neg (a+(mMoney l[i].n).1),lb (b+(mMoney l[i].b).1).natAbs,neg (b+(mMoney l[i].b).1)):=λrec=>by
   unfold z187.l0P
   simp only
   rw [bif_t (by rw [List.length_map];omega),if_pos (by rw [List.length_map];omega),Zi,Q1 rov hi]
   simp only [asO0,asO1,asO2,asO3,asO4,asO5,asO6,asO7]
   rw [terms_Money,Zb]
   simp only
   by_cases c1:(mMoney l[i].n).2=0
   ·rw [Zt c1,Zn,Zc,if_neg (λe=>e c1),terms_Money,Zb]
    simp only
    by_cases c2:(mMoney l[i].b).2=0
    ·rw [Zt c2,Zn,Zc,if_neg (λe=>e c2),Qbd (by omega),Zb,Qbd (by omega),Zb,ek]
    ·rw [Zf c2,Zo,Zd,if_pos c2]
   ·rw [Zf c1,Zo,Zd,if_pos c1]
  unfold mSum
  by_cases c1:(mMoney l[i].n).2≠0
  ·refine ⟨((i:Int),lb a.natAbs,neg a,lb b.natAbs,neg b),.done λrec=>?_⟩
   rw [hstep,if_pos c1,if_pos c1]
   show _=some (if (mMoney l[i].n).2=0 then _ else _)
   rw [if_neg c1]
  ·by_cases c2:(mMoney l[i].b).2≠0
   ·refine ⟨((i:Int),lb a.natAbs,neg a,lb b.natAbs,neg b),.done λrec=>?_⟩
    rw [hstep,if_neg c1,if_pos c2,if_neg c1,if_pos c2]
    show _=some (if (mMoney l[i].b).2=0 then _ else _)
    rw [if_neg c2]
   ·obtain ⟨p1,p2⟩:=Qg4 ha0 ha hm1.1 hm1.2
    obtain ⟨p3,p4⟩:=Qg4 hb0 hb hm2.1 hm2.2
    obtain ⟨x,r⟩:=Qp0 hl f (i+1) (a+(mMoney l[i].n).1) (b+(mMoney l[i].b).1) (by omega) p1 p2 p3 p4
    refine ⟨x,?_⟩
    rw [if_neg c1,if_neg c2]
    exact .step (λrec=>by rw [hstep,if_neg c1,if_neg c2]) r
theorem plan_Sum {l:List Ro} (hl:l.length<=1000000):z187.F (l.map rov)=some (lb (mSum 0 0 l).1.natAbs,neg (mSum 0 0 l).1,lb (mSum 0 0 l).2.1.natAbs,neg (mSum 0 0 l).2.1,(mSum 0 0 l).2.2):=by
 obtain ⟨x,r⟩:=Qp0 hl l.length 0 0 0 (Nat.zero_add _) (Int.le_refl _) (by decide) (Int.le_refl _) (by decide)
 rw [List.drop_zero] at r
 have er:=r.lfp
 rw [show Int.natAbs 0=0 from rfl,lb_zero] at er
 unfold z187.F
 refine (congrArg (λo=>Option.bind o _) er).trans ?_
 rw [Zb]
 by_cases h:(mSum 0 0 l).2.2=0
 ·unfold sumO
  rw [if_pos h,h]
 ·have hz:∀(l:List Ro) (a b:Int),(mSum a b l).2.2≠0->(mSum a b l).1=0/\(mSum a b l).2.1=0:=by
   intro l
   induction l with
   |nil=>intro a b h;exact absurd rfl h
   |
    cons r l ih=>
    intro a b h
    unfold mSum at h ⊢
    split
    ·exact ⟨rfl,rfl⟩
    ·rename_i c1
     rw [if_neg c1] at h
     split
     ·exact ⟨rfl,rfl⟩
     ·rename_i c2
      rw [if_neg c2] at h
      exact ih _ _ h
  obtain ⟨z1,z2⟩:=hz l 0 0 h
  unfold sumO
  rw [if_neg h,z1,z2,show Int.natAbs 0=0 from rfl,lb_zero]
  rfl
def s17:Tm:=⟨[49,48,48,48,48,48],[49,50],0,0,2,2024,1,1,1,2⟩
theorem Qx8:mCheck s17=0:=by decide +kernel
def r17a:Rw:=⟨(2024,2,1),100000,1000,49751,50751,50249⟩
def r17b:Rw:=⟨(2024,3,1),50249,502,50249,50751,0⟩
theorem Q0w:mBuild s17=[r17a,r17b]:=by decide +kernel
theorem Qvi:mSum 0 0 ([r17a,r17b].map Rw.ro)=(1502,100000,0):=by decide +kernel
theorem Qcc:z200.F=some true:=by
 have e1:z199.F=some (s17.p,s17.r,s17.kind,s17.basis,s17.mode,s17.y,s17.m,s17.d,s17.every,s17.count):=rfl
 have e2:=plan_Build Qx8 (by decide)
 rw [Q0w] at e2
 have e3:=Qm4 (t:=Qet) (by rw [Qe8];decide)
 rw [Qe8] at e3
 have e4:z187.F ([r17a,r17b].map rwv)=some (lb 1502,neg 1502,lb 100000,neg 100000,0):=by
  rw [Q2g,plan_Sum (by decide),Qvi];rfl
 have t0:itxt 50751=[53,48,55,53,49]:=by decide +kernel
 have t1:itxt 1000=[49,48,48,48]:=by decide +kernel
 have t2:itxt 0=[48]:=by decide +kernel
 have t3:itxt 100000=[49,48,48,48,48,48]:=by decide +kernel
 have g0:(([r17a,r17b].map rwv).getD 0 [])=rwv r17a:=rfl
 have g1:(([r17a,r17b].map rwv).getD 1 [])=rwv r17b:=rfl
 have p1:z135.F (lb 100000) (neg 100000)=some [49,48,48,48,48,48]:=by
  have h:=W4 (z:=100000) (Nat.le_trans (sz_le (show Int.natAbs 100000<10^6 by decide)) (by decide))
  rw [t3] at h;exact h
 have p2:z20.F (lb 1502) (neg 1502)=some (cmpI 1502 0):=W0 1502
 unfold z200.F
 rw [e1,Zb]
 simp only
 rw [e2,Zb]
 refine (congrArg (λo=>Option.bind o _) e3).trans ?_
 rw [Zb]
 simp only [decide_true,Zn,Zc]
 rw [show ((([r17a,r17b].map rwv).length:Nat):Int)=2 from rfl]
 simp only [decide_true,Zn,Zc]
 unfold z200.j4
 simp only
 rw [e4,Zb,if_pos (by decide),g0,g1]
 simp only [asW0,asW1,asW2,asW3,asW4,asW5,asW6,asW7]
 rw [show r17a.pay=50751 from rfl,show r17a.n=1000 from rfl,show r17b.c=0 from rfl,t0,t1,t2]
 simp only [decide_true,Zd]
 rw [if_pos (by decide),if_pos (by decide)]
 rw [p1,Zb]
 simp only [decide_true,Zd]
 rw [p2,Zb]
 rfl
theorem Qhu {t:Tm} {most:Int} (h:Good t most) (hm:most<=40):mCheck t=0:=by
 have hb:=Qe5 h.kinds.2.2.2 (c:=t.count) ⟨h.count.1,by have:=h.count.2;omega⟩
 have hc:=h.count
 have hev:=h.kinds.2.2.2
 exact h.check (by
  have h1:t.every<=12:=by rcases hev with h|h|h|h|h|h<;>omega
  have h2:t.every*t.count<=12*t.count:=Int.mul_le_mul_of_nonneg_right h1 (by omega)
  omega) (by omega)
theorem Q26 (m:Int) {a d a' d':Nat} (hd:0<d) (hd':0<d') (h:a*d'<=a'*d):rndN m a d<=rndN m a' d':=by
 have e1:=Nat.div_add_mod a d
 have e2:=Nat.div_add_mod a' d'
 have hq:a/d<=a'/d':=by
  rw [Nat.le_div_iff_mul_le hd']
  have h1:a/d*d<=a:=Nat.div_mul_le_self a d
  have h2:a/d*d*d'<=a'*d:=Nat.le_trans (Nat.mul_le_mul_right d' h1) h
  rw [Nat.mul_right_comm] at h2
  exact Nat.le_of_mul_le_mul_right h2 hd
 have hub:∀a d,rndN m a d<=a/d+1:=λa d=>by unfold rndN;split<;>omega
 have hlb:∀a d,a/d<=rndN m a d:=λa d=>by unfold rndN;split<;>omega
 rcases Nat.lt_or_ge (a/d) (a'/d') with hl|hl
 ·have:=hub a d
  have:=hlb a' d'
  omega
 ·have heq:a/d=a'/d':=by omega
  have hs:a%d*d'<=a'%d'*d:=by
   have x1:a*d'=a/d*(d*d')+a%d*d':=by
    calc a*d'=(d*(a/d)+a%d)*d':=by rw [e1]
     _=d*(a/d)*d'+a%d*d':=Nat.add_mul _ _ _
     _=a/d*(d*d')+a%d*d':=by rw [Nat.mul_comm d (a/d),Nat.mul_assoc]
   have x2:a'*d=a/d*(d*d')+a'%d'*d:=by
    calc a'*d=(d'*(a'/d')+a'%d')*d:=by rw [e2]
     _=d'*(a'/d')*d+a'%d'*d:=Nat.add_mul _ _ _
     _=a/d*(d*d')+a'%d'*d:=by rw [<-heq,Nat.mul_comm d' (a/d),Nat.mul_assoc,Nat.mul_comm d' d]
   omega
  have hup:upN m (a/d) (a%d) d->upN m (a'/d') (a'%d') d':=by
   rintro ⟨h0,hm⟩
   have h0':a'%d'≠0:=λe=>by
    rw [e,Nat.zero_mul] at hs
    have:0<a%d*d':=Nat.mul_pos (by omega) hd'
    omega
   have hle:d<=2*(a%d)->d'<=2*(a'%d'):=λh1=>by
    have h2:d*d'<=2*(a%d)*d':=Nat.mul_le_mul_right d' h1
    rw [Nat.mul_assoc] at h2
    have h3:d*d'<=2*(a'%d'*d):=Nat.le_trans h2 (Nat.mul_le_mul_left 2 hs)
    rw [Nat.mul_comm d d',<-Nat.mul_assoc] at h3
    exact Nat.le_of_mul_le_mul_right h3 hd
   have hlt:d<2*(a%d)->d'<2*(a'%d'):=λh1=>by
    have h2:d*d'<2*(a%d)*d':=Nat.mul_lt_mul_of_pos_right h1 hd'
    rw [Nat.mul_assoc] at h2
    have h3:d*d'<2*(a'%d'*d):=Nat.lt_of_lt_of_le h2 (Nat.mul_le_mul_left 2 hs)
    rw [Nat.mul_comm d d',<-Nat.mul_assoc] at h3
    exact Nat.lt_of_mul_lt_mul_right h3
   refine ⟨h0',?_⟩
   rw [<-heq]
   rcases hm with hm|⟨hm,h1⟩|⟨hm,h1⟩|⟨hm,h1|⟨h1,h2⟩⟩
   ·exact .inl hm
   ·exact .inr (.inl ⟨hm,hle h1⟩)
   ·exact .inr (.inr (.inl ⟨hm,hlt h1⟩))
   ·exact .inr (.inr (.inr ⟨hm,.inl (hlt h1)⟩))
   ·have:=hle (by omega)
    rcases Nat.lt_or_ge d' (2*(a'%d')) with h3|h3
    ·exact .inr (.inr (.inr ⟨hm,.inl h3⟩))
    ·exact .inr (.inr (.inr ⟨hm,.inr ⟨by omega,h2⟩⟩))
  unfold rndN
  by_cases hu:upN m (a/d) (a%d) d
  ·rw [if_pos hu,if_pos (hup hu)];omega
  ·rw [if_neg hu]
   split<;>omega
theorem Qv4 (m:Int) {x y:Rat} (hx:0<=x) (h:x<=y):rnd m x<=rnd m y:=by
 have nx:=Rat.num_nonneg.2 hx
 have ny:=Rat.num_nonneg.2 (show 0<=y by grind)
 have hc:=(Rat.le_iff _ _).1 h
 unfold rnd
 rw [if_neg (by omega),if_neg (by omega)]
 have e1:x.num=(x.num.natAbs:Int):=by omega
 have e2:y.num=(y.num.natAbs:Int):=by omega
 have:x.num.natAbs*y.den<=y.num.natAbs*x.den:=by
  rw [e1,e2,<-Int.natCast_mul,<-Int.natCast_mul] at hc
  exact Int.ofNat_le.1 hc
 have:=Q26 m x.den_pos y.den_pos this
 omega
def grn (r:Rat):Nat->Rat
 |0=>0
 |k+1=>grn r k+grn r k*r+1
def bal (P L r:Rat):Nat->Rat
 |0=>P
 |k+1=>bal P L r k*(1+r)-L
theorem Qf8 {r:Rat} (hr:0<=r):∀k,0<=grn r k
 |0=>Rat.le_refl
 |
  k+1=>by
  have h:=Qf8 hr k
  have h2:0<=grn r k*r:=Rat.mul_nonneg h hr
  unfold grn
  grind
theorem Qxc {r:Rat} (hr:0<=r) (k:Nat):grn r k+1<=grn r (k+1):=by
 have h2:0<=grn r k*r:=Rat.mul_nonneg (Qf8 hr k) hr
 show grn r k+1<=grn r k+grn r k*r+1
 grind
theorem Qir {r:Rat} (hr:0<=r) {k:Nat}:∀{n:Nat},k<=n->grn r k<=grn r n
 |
  0,h=>by
  have:k=0:=by omega
  subst this;exact Rat.le_refl
 |
  n+1,h=>by
  by_cases e:k=n+1
  ·subst e;exact Rat.le_refl
  ·have h1:=Qir hr (show k<=n by omega)
   have h2:=Qxc hr n
   grind
theorem Qqi (P L r:Rat):∀k,bal P L r k=P*(1+r)^k-L*grn r k
 |
  0=>by
  show P=P*(1+r)^0-L*0
  rw [Rat.pow_zero];grind
 |
  k+1=>by
  have ih:=Qqi P L r k
  show bal P L r k*(1+r)-L=P*(1+r)^(k+1)-L*(grn r k+grn r k*r+1)
  rw [ih,Rat.pow_succ]
  grind
theorem Qrp (r:Rat):∀k,grn r k*r=(1+r)^k-1
 |
  0=>by
  show 0*r=(1+r)^0-1
  rw [Rat.pow_zero];grind
 |
  k+1=>by
  have ih:=Qrp r k
  show (grn r k+grn r k*r+1)*r=(1+r)^(k+1)-1
  rw [Rat.pow_succ]
  grind
theorem Qm9:∀k:Nat,grn 0 k=(k:Rat)
 |0=>rfl
 |
  k+1=>by
  have ih:=Qm9 k
  show grn 0 k+grn 0 k*0+1=((k+1:Nat):Rat)
  rw [ih,Rat.natCast_add]
  show (k:Rat)+(k:Rat)*0+1=(k:Rat)+1
  grind
theorem Q3o {P r:Rat} (hr:0<=r) {n:Nat} (hn:1<=n):lvl P r n*grn r n=P*(1+r)^n:=by
 unfold lvl
 by_cases h0:r=0
 ·subst h0
  rw [if_pos rfl,Qm9]
  have hn0:((n:Nat):Rat)≠0:=Yn (by omega)
  have e1:∀k:Nat,((1:Rat)+0)^k=1:=by
   intro k
   induction k with
   |zero=>exact Rat.pow_zero _
   |succ k ih=>rw [Rat.pow_succ,ih];grind
  rw [e1,Rat.div_mul_cancel hn0,Rat.mul_one]
 ·rw [if_neg h0]
  have hf:=Qrp r n
  have hg1:=Qir hr hn
  have e1:grn r 1=1:=by
   show 0+0*r+1=1
   grind
  rw [e1] at hg1
  have hg:grn r n≠0:=λe=>by rw [e] at hg1;exact absurd hg1 (by decide)
  have hd:(1+r)^n-1≠0:=by
   rw [<-hf]
   intro e
   rcases Rat.mul_eq_zero.1 e with e|e
   ·exact hg e
   ·exact h0 e
  rw [<-hf] at hd ⊢
  have h5:P*r*(1+r)^n/(grn r n*r)*(grn r n*r)=P*r*(1+r)^n:=Rat.div_mul_cancel hd
  have h6:(P*r*(1+r)^n/(grn r n*r)*grn r n-P*(1+r)^n)*r=0:=by grind
  rcases Rat.mul_eq_zero.1 h6 with e|e
  ·grind
  ·exact absurd e h0
theorem Q1z {P r:Rat} (hr:0<=r) {n:Nat} (hn:1<=n):bal P (lvl P r n) r n=0:=by
 rw [Qqi,Q3o hr hn];grind
theorem Ql7 {P L r:Rat} (hr:0<=r) (hL:0<=L) {n:Nat} (he:bal P L r n=0):∀k,k<=n->0<=bal P L r (n-k)
 |0,_=>by rw [Nat.sub_zero,he];exact Rat.le_refl
 |
  k+1,h=>by
  have ih:=Ql7 hr hL he k (by omega)
  have e:n-k=(n-(k+1))+1:=by omega
  rw [e] at ih
  have h1:bal P L r (n-(k+1)+1)=bal P L r (n-(k+1))*(1+r)-L:=rfl
  rw [h1] at ih
  apply Rat.not_lt.1
  intro hneg
  have h2:bal P L r (n-(k+1))*(1+r)<=0*(1+r):=Rat.mul_le_mul_of_nonneg_right (by grind) (by grind)
  have h3:bal P L r (n-(k+1))*(1+r)<0:=by
   have h4:bal P L r (n-(k+1))*(1+r)<=bal P L r (n-(k+1))*1:=by
    have:0<=(- bal P L r (n-(k+1)))*r:=Rat.mul_nonneg (by grind) hr
    grind
   grind
  grind
end Go.Proofs.YtgjncgiekniniaaGreatDoor.A
end
