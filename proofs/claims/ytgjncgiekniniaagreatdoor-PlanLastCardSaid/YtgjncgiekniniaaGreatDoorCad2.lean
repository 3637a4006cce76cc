/- Part 2 of the proof of TermsChecks.card, TermsBounds.card, AccrueDays.card, AccrueSums.card, AccrueTells.card, AccrueLegs.card, AccrueTwice.card, PlanInterest.card, PlanSums.card, PlanLast.card, PlanBuilds.card. -/
import Derived.Test.YtgjncgiekniniaaGreatDoorCad1
set_option linter.unusedVariables false
set_option linter.unusedSimpArgs false
section
namespace Go.Proofs.YtgjncgiekniniaaGreatDoor.A
open Go
noncomputable section
def z14.l0b6P (a:List Int) {R:Type} (rec:Int->Option R) (done:(Int)->Option R):Int->Option R:=λb=>(bif (decide (b>0)) then (if 0<=(wr .i64 (b-1))/\(wr .i64 (b-1))<(a.length:Int) then (bif (decide ((a.getD ((wr .i64 (b-1))).toNat 0)=0)) then (rec (wr .i64 (b-1))) else (done b)) else none) else (done b))
def z14.l0b6 (a:List Int) (x:Int):Option ((Int)):=lfp (λrec x=>z14.l0b6P a rec some x) x
def z14.F (a0:List Int):Option ((List Int)):=
 ((z14.l0b6 a0 (((a0).length:Nat):Int)).bind λo1=>(if 0<=o1/\o1<=(a0.length:Int) then (some (a0.take (o1).toNat)) else none))
def z19.F (a0:List Int):Option (Bool):=
 (some (decide ((((a0).length:Nat):Int)=0)))
def z19.enc (r:Bool):V:=(.bool r)
def z19.pack:List V->Option Pack
 |[(.agg [(.ints _ .u64 a0)])]=>some ⟨Bool,z19.F a0,z19.enc⟩
 |_=>none
def z20.F (a0:List Int) (a1:Bool):Option (Int):=
 ((z19.F a0).bind λr1=>(bif r1 then (some 0) else (bif a1 then (some (-1:Int)) else (some 1))))
def z20.enc (r:Int):V:=(.int .i64 r)
def z20.pack:List V->Option Pack
 |[(.agg [(.ints _ .u64 a0),(.bool a1)])]=>some ⟨Int,z20.F a0 a1,z20.enc⟩
 |_=>none
def z21.F (a0:List Int) (a1:Bool):Option ((List Int)×Bool):=
 (bif a1 then ((z19.F a0).bind λr1=>(some (a0,(!r1)))) else (some (a0,false)))
def z21.enc (r:(List Int)×Bool):V:=(.agg [(.ints false .u64 r.1),(.bool r.2)])
def z21.pack:List V->Option Pack
 |[(.agg [(.ints _ .u64 a0)]),(.bool a1)]=>some ⟨(List Int)×Bool,z21.F a0 a1,z21.enc⟩
 |_=>none
def z22.F (a0:List Int) (a1:Int):Option (Int):=
 (bif (decide (a1>=(((a0).length:Nat):Int))) then (some 0) else (if 0<=a1/\a1<(a0.length:Int) then (some (a0.getD (a1).toNat 0)) else none))
def z22.enc (r:Int):V:=(.int .u64 r)
def z22.pack:List V->Option Pack
 |[(.agg [(.ints _ .u64 a0)]),(.int .i64 a1)]=>some ⟨Int,z22.F a0 a1,z22.enc⟩
 |_=>none
def z23.l0b6P (a:List Int) {R:Type} (rec:Int->Option R) (done:(Int)->Option R):Int->Option R:=λb=>(bif (decide (b>0)) then (if 0<=(wr .i64 (b-1))/\(wr .i64 (b-1))<(a.length:Int) then (bif (decide ((a.getD ((wr .i64 (b-1))).toNat 0)=0)) then (rec (wr .i64 (b-1))) else (done b)) else none) else (done b))
def z23.l0b6 (a:List Int) (x:Int):Option ((Int)):=lfp (λrec x=>z23.l0b6P a rec some x) x
def z23.F (a0:List Int):Option ((List Int)):=
 ((z23.l0b6 a0 (((a0).length:Nat):Int)).bind λo1=>(if 0<=o1/\o1<=o1/\o1<=(a0.length:Int) then (some (a0.take (o1).toNat)) else none))
def z23.enc (r:(List Int)):V:=(.agg [(.ints false .u64 r)])
def z23.pack:List V->Option Pack
 |[(.ints _ .u64 a0)]=>some ⟨(List Int),z23.F a0,z23.enc⟩
 |_=>none
def z24.l0P (a:Int) (b c:List Int) {R:Type} (rec done:(Int×Int×(List Int))->Option R):(Int×Int×(List Int))->Option R:=λx=>match x with
 |(d,e,g)=>(bif (decide (e<a)) then ((z22.F b e).bind λh=>((z22.F c e).bind λj=>((z0.F h j d).bind λk=>(if 0<=e/\e<(g.length:Int) then (if (e).toNat<g.length then (rec (k.2,(wr .i64 (e+1)),(g.set (e).toNat k.1))) else none) else none)))) else (done (d,e,g)))
def z24.l0 (a:Int) (b c:List Int) (x:(Int×Int×(List Int))):Option ((Int×Int×(List Int))):=lfp (λrec x=>z24.l0P a b c rec some x) x
def z24.F (a0 a1:List Int):Option ((List Int)):=
 (if 0<=(wr .i64 ((if (((a1).length:Nat):Int)>(((a0).length:Nat):Int) then (((a1).length:Nat):Int) else (((a0).length:Nat):Int))+1))/\(wr .i64 ((if (((a1).length:Nat):Int)>(((a0).length:Nat):Int) then (((a1).length:Nat):Int) else (((a0).length:Nat):Int))+1))*8<=140737488355328 then ((z24.l0 ((((List.replicate ((wr .i64 ((if (((a1).length:Nat):Int)>(((a0).length:Nat):Int) then (((a1).length:Nat):Int) else (((a0).length:Nat):Int))+1))).toNat (0:Int))).length:Nat):Int) a0 a1 ((0:Int),(0:Int),(List.replicate ((wr .i64 ((if (((a1).length:Nat):Int)>(((a0).length:Nat):Int) then (((a1).length:Nat):Int) else (((a0).length:Nat):Int))+1))).toNat (0:Int)))).bind λo1=>((z23.F o1.2.2).bind λr2=>(some r2))) else none)
def z24.enc (r:(List Int)):V:=(.agg [(.ints false .u64 r)])
def z24.pack:List V->Option Pack
 |[(.agg [(.ints _ .u64 a0)]),(.agg [(.ints _ .u64 a1)])]=>some ⟨(List Int),z24.F a0 a1,z24.enc⟩
 |_=>none
def z25.F (a0:Int):Option (Bool):=
 (some (!decide (a0=a0)))
def z25.enc (r:Bool):V:=(.bool r)
def z25.pack:List V->Option Pack
 |[(.int .i64 a0)]=>some ⟨Bool,z25.F a0,z25.enc⟩
 |_=>none
def z26.F (a0 a1:Int):Option (Int):=
 ((z25.F a0).bind λr1=>((z25.F a1).bind λr2=>(bif r1 then (bif r2 then (some 0) else (some (-1:Int))) else (bif r2 then (some 1) else (bif (decide (a0<a1)) then (some (-1:Int)) else (bif (decide (a0>a1)) then (some 1) else (some 0)))))))
def z26.enc (r:Int):V:=(.int .i64 r)
def z26.pack:List V->Option Pack
 |[(.int .i64 a0),(.int .i64 a1)]=>some ⟨Int,z26.F a0 a1,z26.enc⟩
 |_=>none
def z27.F (a0:Int):Option (Bool):=
 (some (!decide (a0=a0)))
def z27.enc (r:Bool):V:=(.bool r)
def z27.pack:List V->Option Pack
 |[(.int .u64 a0)]=>some ⟨Bool,z27.F a0,z27.enc⟩
 |_=>none
def z28.F (a0 a1:Int):Option (Int):=
 ((z27.F a0).bind λr1=>((z27.F a1).bind λr2=>(bif r1 then (bif r2 then (some 0) else (some (-1:Int))) else (bif r2 then (some 1) else (bif (decide (a0<a1)) then (some (-1:Int)) else (bif (decide (a0>a1)) then (some 1) else (some 0)))))))
def z28.enc (r:Int):V:=(.int .i64 r)
def z28.pack:List V->Option Pack
 |[(.int .u64 a0),(.int .u64 a1)]=>some ⟨Int,z28.F a0 a1,z28.enc⟩
 |_=>none
def z29.l0P (a b:List Int) {R:Type} (rec:Int->Option R) (done:((Int)⊕(Int))->Option R):Int->Option R:=λc=>(bif (decide (c>=0)) then (if 0<=c/\c<(a.length:Int) then (if 0<=c/\c<(b.length:Int) then ((z28.F (a.getD (c).toNat 0) (b.getD (c).toNat 0)).bind λd=>(bif (!decide (d=0)) then (done (.inr d)) else (rec (wr .i64 (c-1))))) else none) else none) else (done (.inl c)))
def z29.l0 (a b:List Int) (x:Int):Option (((Int)⊕(Int))):=lfp (λrec x=>z29.l0P a b rec some x) x
def z29.F (a0 a1:List Int):Option (Int):=
 ((z26.F (((a0).length:Nat):Int) (((a1).length:Nat):Int)).bind λr1=>(bif (!decide (r1=0)) then (some r1) else ((z29.l0 a0 a1 (wr .i64 ((((a0).length:Nat):Int)-1))).bind λo2=>match o2 with | .inl p3=>(some 0) | .inr q4=>(some q4))))
def z29.enc (r:Int):V:=(.int .i64 r)
def z29.pack:List V->Option Pack
 |[(.agg [(.ints _ .u64 a0)]),(.agg [(.ints _ .u64 a1)])]=>some ⟨Int,z29.F a0 a1,z29.enc⟩
 |_=>none
def z30.l0P (a:Int) (b c:List Int) {R:Type} (rec done:(Int×Int×(List Int))->Option R):(Int×Int×(List Int))->Option R:=λx=>match x with
 |(d,e,g)=>(bif (decide (e<a)) then (if 0<=e/\e<(b.length:Int) then ((z22.F c e).bind λh=>((z1.F (b.getD (e).toNat 0) h d).bind λj=>(if 0<=e/\e<(g.length:Int) then (if (e).toNat<g.length then (rec (j.2,(wr .i64 (e+1)),(g.set (e).toNat j.1))) else none) else none))) else none) else (done (d,e,g)))
def z30.l0 (a:Int) (b c:List Int) (x:(Int×Int×(List Int))):Option ((Int×Int×(List Int))):=lfp (λrec x=>z30.l0P a b c rec some x) x
def z30.F (a0 a1:List Int):Option ((List Int)×Bool):=
 ((z29.F a0 a1).bind λr1=>(bif (decide (r1<0)) then (some ([],false)) else (if 0<=(((a0).length:Nat):Int)/\(((a0).length:Nat):Int)*8<=140737488355328 then ((z30.l0 ((((List.replicate ((((a0).length:Nat):Int)).toNat (0:Int))).length:Nat):Int) a0 a1 ((0:Int),(0:Int),(List.replicate ((((a0).length:Nat):Int)).toNat (0:Int)))).bind λo2=>((z23.F o2.2.2).bind λr3=>(some (r3,true)))) else none)))
def z30.enc (r:(List Int)×Bool):V:=(.tup [(.agg [(.ints false .u64 r.1)]),(.bool r.2)])
def z30.pack:List V->Option Pack
 |[(.agg [(.ints _ .u64 a0)]),(.agg [(.ints _ .u64 a1)])]=>some ⟨(List Int)×Bool,z30.F a0 a1,z30.enc⟩
 |_=>none
def z31.F (a0:List Int) (a1:Bool) (a2:List Int) (a3:Bool):Option ((List Int)×Bool):=
 (bif (decide (a1=a3)) then ((z24.F a0 a2).bind λr1=>((z21.F r1 a1).bind λr2=>(some (r2.1,r2.2)))) else ((z30.F a0 a2).bind λr3=>(bif r3.2 then ((z21.F r3.1 a1).bind λr4=>(some (r4.1,r4.2))) else ((z30.F a2 a0).bind λr5=>((z21.F r5.1 a3).bind λr6=>(some (r6.1,r6.2)))))))
def z31.enc (r:(List Int)×Bool):V:=(.agg [(.ints false .u64 r.1),(.bool r.2)])
def z31.pack:List V->Option Pack
 |[(.agg [(.ints _ .u64 a0),(.bool a1)]),(.agg [(.ints _ .u64 a2),(.bool a3)])]=>some ⟨(List Int)×Bool,z31.F a0 a1 a2 a3,z31.enc⟩
 |_=>none
def z32.F (a0:List Int) (a1:Bool):Option ((List Int)×Bool):=
 ((z21.F a0 (!a1)).bind λr1=>(some (r1.1,r1.2)))
def z32.enc (r:(List Int)×Bool):V:=(.agg [(.ints false .u64 r.1),(.bool r.2)])
def z32.pack:List V->Option Pack
 |[(.agg [(.ints _ .u64 a0),(.bool a1)])]=>some ⟨(List Int)×Bool,z32.F a0 a1,z32.enc⟩
 |_=>none
def z33.F (a0:List Int) (a1:Bool) (a2:List Int) (a3:Bool):Option ((List Int)×Bool):=
 ((z32.F a2 a3).bind λr1=>((z31.F a0 a1 r1.1 r1.2).bind λr2=>(some (r2.1,r2.2))))
def z33.enc (r:(List Int)×Bool):V:=(.agg [(.ints false .u64 r.1),(.bool r.2)])
def z33.pack:List V->Option Pack
 |[(.agg [(.ints _ .u64 a0),(.bool a1)]),(.agg [(.ints _ .u64 a2),(.bool a3)])]=>some ⟨(List Int)×Bool,z33.F a0 a1 a2 a3,z33.enc⟩
 |_=>none
def z34.F (a0:List Int) (a1:Bool) (a2:List Int) (a3:Bool):Option (Int):=
 ((z33.F a0 a1 a2 a3).bind λr1=>((z20.F r1.1 r1.2).bind λr2=>(some r2)))
def z34.enc (r:Int):V:=(.int .i64 r)
def z34.pack:List V->Option Pack
 |[(.agg [(.ints _ .u64 a0),(.bool a1)]),(.agg [(.ints _ .u64 a2),(.bool a3)])]=>some ⟨Int,z34.F a0 a1 a2 a3,z34.enc⟩
 |_=>none
def z35.F (a0 a1:List UInt8):Option (Bool):=
 (bif (decide ((a0.length:Int)>=(a1.length:Int))) then (if 0<=(a1.length:Int)/\(a1.length:Int)<=((a0).length:Int) then (some (decide ((a0.take ((a1.length:Int)).toNat)=a1))) else none) else (some false))
def z35.enc (r:Bool):V:=(.bool r)
def z35.pack:List V->Option Pack
 |[(.str a0),(.str a1)]=>some ⟨Bool,z35.F a0 a1,z35.enc⟩
 |_=>none
def z36.F (a0 a1:List UInt8):Option ((List UInt8)×Bool):=
 ((z35.F a0 a1).bind λr1=>(bif (!r1) then (some (a0,false)) else (if 0<=(a1.length:Int)/\(a1.length:Int)<=((a0).length:Int) then (some ((a0.drop ((a1.length:Int)).toNat),true)) else none)))
def z36.enc (r:(List UInt8)×Bool):V:=(.tup [(.str r.1),(.bool r.2)])
def z36.pack:List V->Option Pack
 |[(.str a0),(.str a1)]=>some ⟨(List UInt8)×Bool,z36.F a0 a1,z36.enc⟩
 |_=>none
def z37.F (a0 a1:List UInt8):Option ((List UInt8)×Bool):=
 ((z36.F a0 a1).bind λr1=>(some (r1.1,r1.2)))
def z37.enc (r:(List UInt8)×Bool):V:=(.tup [(.str r.1),(.bool r.2)])
def z37.pack:List V->Option Pack
 |[(.str a0),(.str a1)]=>some ⟨(List UInt8)×Bool,z37.F a0 a1,z37.enc⟩
 |_=>none
def z38.F (a0:List Int):Option ((List Int)):=
 (if (a0).length*8<=140737488355328 then ((z23.F a0).bind λr1=>(some r1)) else none)
def z38.enc (r:(List Int)):V:=(.agg [(.ints false .u64 r)])
def z38.pack:List V->Option Pack
 |[(.ints _ .u64 a0)]=>some ⟨(List Int),z38.F a0,z38.enc⟩
 |_=>none
def z39.F (a0 a1:Int):Option (Int×Int):=
 (some ((wr .u64 ((wr .u64 ((wr .u64 ((Int.fdiv a0 (2^(min 32 (64:Nat))))*(Int.fdiv a1 (2^(min 32 (64:Nat))))))+(Int.fdiv (wr .u64 ((wr .u64 ((Int.fdiv a0 (2^(min 32 (64:Nat))))*(wr .u64 ((BitVec.ofInt (IntKind.bits .u64) a1 &&& BitVec.ofInt (IntKind.bits .u64) 4294967295).toNat:Int))))+(Int.fdiv (wr .u64 ((wr .u64 ((BitVec.ofInt (IntKind.bits .u64) a0 &&& BitVec.ofInt (IntKind.bits .u64) 4294967295).toNat:Int))*(wr .u64 ((BitVec.ofInt (IntKind.bits .u64) a1 &&& BitVec.ofInt (IntKind.bits .u64) 4294967295).toNat:Int)))) (2^(min 32 (64:Nat)))))) (2^(min 32 (64:Nat))))))+(Int.fdiv (wr .u64 ((wr .u64 ((BitVec.ofInt (IntKind.bits .u64) (wr .u64 ((wr .u64 ((Int.fdiv a0 (2^(min 32 (64:Nat))))*(wr .u64 ((BitVec.ofInt (IntKind.bits .u64) a1 &&& BitVec.ofInt (IntKind.bits .u64) 4294967295).toNat:Int))))+(Int.fdiv (wr .u64 ((wr .u64 ((BitVec.ofInt (IntKind.bits .u64) a0 &&& BitVec.ofInt (IntKind.bits .u64) 4294967295).toNat:Int))*(wr .u64 ((BitVec.ofInt (IntKind.bits .u64) a1 &&& BitVec.ofInt (IntKind.bits .u64) 4294967295).toNat:Int)))) (2^(min 32 (64:Nat)))))) &&& BitVec.ofInt (IntKind.bits .u64) 4294967295).toNat:Int))+(wr .u64 ((wr .u64 ((BitVec.ofInt (IntKind.bits .u64) a0 &&& BitVec.ofInt (IntKind.bits .u64) 4294967295).toNat:Int))*(Int.fdiv a1 (2^(min 32 (64:Nat)))))))) (2^(min 32 (64:Nat)))))),(wr .u64 (a0*a1))))
def z39.enc (r:Int×Int):V:=(.tup [(.int .u64 r.1),(.int .u64 r.2)])
def z39.pack:List V->Option Pack
 |[(.int .u64 a0),(.int .u64 a1)]=>some ⟨Int×Int,z39.F a0 a1,z39.enc⟩
 |_=>none
def z40.l0aP (a:Int) (b c:Nat) (d:List Int) (e:Int) {R:Type} (rec done:(Int×Int×(List Int))->Option R):(Int×Int×(List Int))->Option R:=λx=>match x with
 |(g,h,j)=>(bif (decide (h<e)) then (if 0<=h/\h<(d.length:Int) then ((z39.F a (d.getD (h).toNat 0)).bind λk=>((z0.F k.2 g 0).bind λm=>(if 0<=h/\h<((c:Nat):Int) then (if (b+(h).toNat)<j.length then ((z0.F (j.getD (b+(h).toNat) 0) m.1 0).bind λn=>(if 0<=h/\h<((c:Nat):Int) then (if (b+(h).toNat)<j.length then (rec ((wr .u64 ((wr .u64 (k.1+m.2))+n.2)),(wr .i64 (h+1)),(j.set (b+(h).toNat) n.1))) else none) else none)) else none) else none))) else none) else (done (g,h,j)))
def z40.l0a (a:Int) (b c:Nat) (d:List Int) (e:Int) (x:(Int×Int×(List Int))):Option ((Int×Int×(List Int))):=lfp (λrec x=>z40.l0aP a b c d e rec some x) x
def z40.l0P (a:List Int) (b:Int) (c:List Int) {R:Type} (rec done:(Int×(List Int))->Option R):(Int×(List Int))->Option R:=λx=>match x with
 |(d,e)=>(bif (decide (d<b)) then (if 0<=d/\d<(a.length:Int) then (if 0<=d/\d<=((e).length:Int) then ((z40.l0a (a.getD (d).toNat 0) (d).toNat ((e).length-(d).toNat) c (((c).length:Nat):Int) ((0:Int),(0:Int),e)).bind λg=>(if 0<=(((c).length:Nat):Int)/\(((c).length:Nat):Int)<((((e).length-(d).toNat):Nat):Int) then (if ((d).toNat+((((c).length:Nat):Int)).toNat)<g.2.2.length then (if 0<=(((c).length:Nat):Int)/\(((c).length:Nat):Int)<((((e).length-(d).toNat):Nat):Int) then (if ((d).toNat+((((c).length:Nat):Int)).toNat)<g.2.2.length then (rec ((wr .i64 (d+1)),(g.2.2.set ((d).toNat+((((c).length:Nat):Int)).toNat) (wr .u64 ((g.2.2.getD ((d).toNat+((((c).length:Nat):Int)).toNat) 0)+g.1))))) else none) else none) else none) else none)) else none) else none) else (done (d,e)))
def z40.l0 (a:List Int) (b:Int) (c:List Int) (x:(Int×(List Int))):Option ((Int×(List Int))):=lfp (λrec x=>z40.l0P a b c rec some x) x
def z40.F (a0 a1:List Int):Option ((List Int)):=
 (if 0<=(wr .i64 ((wr .i64 ((((a0).length:Nat):Int)+(((a1).length:Nat):Int)))+1))/\(wr .i64 ((wr .i64 ((((a0).length:Nat):Int)+(((a1).length:Nat):Int)))+1))*8<=140737488355328 then ((z40.l0 a1 (((a1).length:Nat):Int) a0 ((0:Int),(List.replicate ((wr .i64 ((wr .i64 ((((a0).length:Nat):Int)+(((a1).length:Nat):Int)))+1))).toNat (0:Int)))).bind λo1=>((z23.F o1.2).bind λr2=>(some r2))) else none)
def z40.enc (r:(List Int)):V:=(.agg [(.ints false .u64 r)])
def z40.pack:List V->Option Pack
 |[(.agg [(.ints _ .u64 a0)]),(.agg [(.ints _ .u64 a1)])]=>some ⟨(List Int),z40.F a0 a1,z40.enc⟩
 |_=>none
def z41.l2P (a:List UInt8) {R:Type} (rec done:(Int×Nat)->Option R):(Int×Nat)->Option R:=λx=>match x with
 |(b,c)=>(if c<a.length then (rec ((wr .u64 ((wr .u64 ((10:Int)*b))+(wr .u64 (wr .i32 (((Utf8.decode ⟨a.toArray⟩ c).1:Int)-48))))),(c+(Utf8.decode ⟨a.toArray⟩ c).2))) else (done (b,c)))
def z41.l2 (a:List UInt8) (x:(Int×Nat)):Option ((Int×Nat)):=lfp (λrec x=>z41.l2P a rec some x) x
def z41.l2aP (a:List UInt8) {R:Type} (rec done:(Int×Nat)->Option R):(Int×Nat)->Option R:=λx=>match x with
 |(b,c)=>(if c<a.length then (rec ((wr .u64 ((wr .u64 ((10:Int)*b))+(wr .u64 (wr .i32 (((Utf8.decode ⟨a.toArray⟩ c).1:Int)-48))))),(c+(Utf8.decode ⟨a.toArray⟩ c).2))) else (done (b,c)))
def z41.l2a (a:List UInt8) (x:(Int×Nat)):Option ((Int×Nat)):=lfp (λrec x=>z41.l2aP a rec some x) x
def z41.j5011a {R:Type} (rec done:((List UInt8)×Bool×(List Int))->Option R) (a:Int) (b:List UInt8) (c:List Int):Option R:=
 (if 0<=a/\a<=((b).length:Int) then ((z41.l2a (b.take (a).toNat) ((0:Int),0)).bind λd=>((z38.F [(1000000000000000000:Int)]).bind λe=>((z40.F c e).bind λg=>((z38.F [d.1]).bind λh=>((z24.F g h).bind λj=>(if 0<=a/\a<=((b).length:Int) then (rec ((b.drop (a).toNat),false,j)) else none)))))) else none)
def z41.l0aaP {R:Type} (rec done:((List UInt8)×Bool×(List Int))->Option R):((List UInt8)×Bool×(List Int))->Option R:=λx=>match x with
 |(a,b,c)=>(bif (!decide (a=([]:List UInt8))) then (bif (!b) then (if (0:Int)<=(18:Int)/\(18:Int)<=((a).length:Int) then ((z41.l2 (a.take 18) ((0:Int),0)).bind λd=>((z38.F [(1000000000000000000:Int)]).bind λe=>((z40.F c e).bind λg=>((z38.F [d.1]).bind λh=>((z24.F g h).bind λj=>(if (0:Int)<=(18:Int)/\(18:Int)<=((a).length:Int) then (rec ((a.drop 18),false,j)) else none)))))) else none) else (bif (decide ((Int.tmod (a.length:Int) 18)=0)) then (z41.j5011a rec done 18 a c) else (z41.j5011a rec done (Int.tmod (a.length:Int) 18) a c))) else (done (a,b,c)))
def z41.l0aa (x:((List UInt8)×Bool×(List Int))):Option (((List UInt8)×Bool×(List Int))):=lfp (λrec x=>z41.l0aaP rec some x) x
def z41.F (a0:List UInt8):Option ((List Int)×Int):=
 (bif (decide ((a0.length:Int)>4096)) then (some ([],(7:Int))) else (bif (decide (a0=([]:List UInt8))) then (some ([],(5:Int))) else ((z3.F a0 ([48,49,50,51,52,53,54,55,56,57]:List UInt8)).bind λr1=>(bif (!decide (r1=([]:List UInt8))) then (some ([],(5:Int))) else (bif (decide ((a0.length:Int)>1)) then (if (0:Int)<=(0:Int)/\(0:Int)<(a0.length:Int) then (bif (decide (((a0.getD 0 0).toNat:Int)=48)) then (some ([],(5:Int))) else ((z41.l0aa (a0,true,[])).bind λo5=>(some (o5.2.2,(0:Int))))) else none) else ((z41.l0aa (a0,true,[])).bind λo6=>(some (o6.2.2,(0:Int)))))))))
def z41.enc (r:(List Int)×Int):V:=(.tup [(.agg [(.ints false .u64 r.1)]),(.int .i64 r.2)])
def z41.pack:List V->Option Pack
 |[(.str a0)]=>some ⟨(List Int)×Int,z41.F a0,z41.enc⟩
 |_=>none
def z42.F (a0:List UInt8):Option ((List Int)×Bool×Int):=
 ((z37.F a0 ([45]:List UInt8)).bind λr1=>((z41.F r1.1).bind λr2=>(bif (!decide (r2.2=0)) then (some ([],false,r2.2)) else (bif r1.2 then ((z19.F r2.1).bind λr3=>(bif r3 then (some ([],false,(5:Int))) else ((z21.F r2.1 r1.2).bind λr7=>(some (r7.1,r7.2,(0:Int)))))) else ((z21.F r2.1 r1.2).bind λr8=>(some (r8.1,r8.2,(0:Int))))))))
def z42.enc (r:(List Int)×Bool×Int):V:=(.tup [(.agg [(.ints false .u64 r.1),(.bool r.2.1)]),(.int .i64 r.2.2)])
def z42.pack:List V->Option Pack
 |[(.str a0)]=>some ⟨(List Int)×Bool×Int,z42.F a0,z42.enc⟩
 |_=>none
def z43.l0P {R:Type} (rec done:(Int×(List Int)×(List Int))->Option R):(Int×(List Int)×(List Int))->Option R:=λx=>match x with
 |(a,b,c)=>(bif (decide (a>0)) then (bif (decide ((wr .i64 ((BitVec.ofInt (IntKind.bits .i64) a &&& BitVec.ofInt (IntKind.bits .i64) 1).toNat:Int))=1)) then ((z40.F c b).bind λd=>(bif (decide (a>1)) then ((z40.F b b).bind λe=>(rec ((Int.fdiv a (2^(min 1 (64:Nat)))),e,d))) else (rec ((Int.fdiv a (2^(min 1 (64:Nat)))),b,d)))) else (bif (decide (a>1)) then ((z40.F b b).bind λg=>(rec ((Int.fdiv a (2^(min 1 (64:Nat)))),g,c))) else (rec ((Int.fdiv a (2^(min 1 (64:Nat)))),b,c)))) else (done (a,b,c)))
def z43.l0 (x:(Int×(List Int)×(List Int))):Option ((Int×(List Int)×(List Int))):=lfp (λrec x=>z43.l0P rec some x) x
def z43.F (a0:List Int) (a1:Int):Option ((List Int)):=
 ((z38.F [(1:Int)]).bind λr1=>((z43.l0 (a1,a0,r1)).bind λo2=>(some o2.2.2)))
def z43.enc (r:(List Int)):V:=(.agg [(.ints false .u64 r)])
def z43.pack:List V->Option Pack
 |[(.agg [(.ints _ .u64 a0)]),(.int .i64 a1)]=>some ⟨(List Int),z43.F a0 a1,z43.enc⟩
 |_=>none
def z44.F (a0:Int):Option ((List Int)×Int):=
 (bif (decide (a0<0)) then (some ([],(2:Int))) else (bif (decide (a0>4096)) then (some ([],(6:Int))) else ((z38.F [(10:Int)]).bind λr1=>((z43.F r1 a0).bind λr2=>(some (r2,(0:Int)))))))
def z44.enc (r:(List Int)×Int):V:=(.tup [(.agg [(.ints false .u64 r.1)]),(.int .i64 r.2)])
def z44.pack:List V->Option Pack
 |[(.int .i64 a0)]=>some ⟨(List Int)×Int,z44.F a0,z44.enc⟩
 |_=>none
def z45.F:Option ((List Int)×Bool):=
 ((z44.F 30).bind λr1=>((z21.F r1.1 false).bind λr2=>(some (r2.1,r2.2))))
def z45.enc (r:(List Int)×Bool):V:=(.agg [(.ints false .u64 r.1),(.bool r.2)])
def z45.pack:List V->Option Pack
 |[]=>some ⟨(List Int)×Bool,z45.F,z45.enc⟩
 |_=>none
def z46.F (a0:List UInt8):Option ((List Int)×Bool×Int):=
 ((z42.F a0).bind λr1=>(bif (!decide (r1.2.2=0)) then (some ([],false,r1.2.2)) else ((z20.F r1.1 r1.2.1).bind λr2=>(bif (decide (r2<0)) then (some ([],false,(19:Int))) else (z45.F.bind λr3=>((z34.F r1.1 r1.2.1 r3.1 r3.2).bind λr4=>(bif (decide (r4>0)) then (some ([],false,(19:Int))) else (some (r1.1,r1.2.1,(0:Int))))))))))
def z46.enc (r:(List Int)×Bool×Int):V:=(.tup [(.agg [(.ints false .u64 r.1),(.bool r.2.1)]),(.int .i64 r.2.2)])
def z46.pack:List V->Option Pack
 |[(.str a0)]=>some ⟨(List Int)×Bool×Int,z46.F a0,z46.enc⟩
 |_=>none
def z47.F (a0:List Int) (a1:Bool):Option ((List Int)×Bool×(List Int)):=
 (some (a0,a1,[]))
def z47.enc (r:(List Int)×Bool×(List Int)):V:=(.agg [(.ints false .u64 r.1),(.bool r.2.1),(.ints false .u64 r.2.2)])
def z47.pack:List V->Option Pack
 |[(.agg [(.ints _ .u64 a0),(.bool a1)])]=>some ⟨(List Int)×Bool×(List Int),z47.F a0 a1,z47.enc⟩
 |_=>none
def z48.F (a0:Int):Option ((List Int)×Bool):=
 (bif (decide (a0<0)) then ((z38.F [(wr .u64 (0-(wr .u64 a0)))]).bind λr1=>((z21.F r1 true).bind λr2=>(some (r2.1,r2.2)))) else ((z38.F [(wr .u64 a0)]).bind λr3=>((z21.F r3 false).bind λr4=>(some (r4.1,r4.2)))))
def z48.enc (r:(List Int)×Bool):V:=(.agg [(.ints false .u64 r.1),(.bool r.2)])
def z48.pack:List V->Option Pack
 |[(.int .i64 a0)]=>some ⟨(List Int)×Bool,z48.F a0,z48.enc⟩
 |_=>none
def z49.F (a0:List UInt8):Option (Bool):=
 (bif (!decide (a0=([]:List UInt8))) then ((z3.F a0 ([48,49,50,51,52,53,54,55,56,57]:List UInt8)).bind λr1=>(some (decide (r1=([]:List UInt8))))) else (some false))
def z49.enc (r:Bool):V:=(.bool r)
def z49.pack:List V->Option Pack
 |[(.str a0)]=>some ⟨Bool,z49.F a0,z49.enc⟩
 |_=>none
def z50.j8 (j8:List UInt8) (r1:(List UInt8)×Bool):Option ((List Int)×Bool×Int×Int):=
 ((z41.F j8).bind λr9=>((z21.F r9.1 r1.2).bind λr10=>(some (r10.1,r10.2,((r1.1.drop 1).length:Int),(0:Int)))))
def z50.j6 (j6:Bool) (r1:(List UInt8)×Bool):Option ((List Int)×Bool×Int×Int):=
 (bif j6 then (some ([],false,(0:Int),(5:Int))) else (bif (decide (((r1.1.drop 1).length:Int)>64)) then (some ([],false,(0:Int),(10:Int))) else (if (r1.1.take 0).length+(r1.1.drop 1).length<=9223372036854775807 then ((z4.F ((r1.1.take 0)++(r1.1.drop 1)) ([48]:List UInt8)).bind λr7=>(bif (decide (r7=([]:List UInt8))) then (z50.j8 ([48]:List UInt8) r1) else (z50.j8 r7 r1))) else none)))
def z50.j4 (j4:Bool) (r1:(List UInt8)×Bool):Option ((List Int)×Bool×Int×Int):=
 (bif j4 then (some ([],false,(0:Int),(5:Int))) else (bif r1.2 then (if (r1.1.take 0).length+(r1.1.drop 1).length<=9223372036854775807 then ((z3.F ((r1.1.take 0)++(r1.1.drop 1)) ([48]:List UInt8)).bind λr5=>(z50.j6 (decide (r5=([]:List UInt8))) r1)) else none) else (z50.j6 false r1)))
def z50.j18 (j18:List UInt8) (r1:(List UInt8)×Bool) (r11:Int):Option ((List Int)×Bool×Int×Int):=
 ((z41.F j18).bind λr19=>((z21.F r19.1 r1.2).bind λr20=>(some (r20.1,r20.2,((r1.1.drop ((wr .i64 (r11+1))).toNat).length:Int),(0:Int)))))
def z50.j16 (j16:Bool) (r1:(List UInt8)×Bool) (r11:Int):Option ((List Int)×Bool×Int×Int):=
 (bif j16 then (some ([],false,(0:Int),(5:Int))) else (bif (decide (((r1.1.drop ((wr .i64 (r11+1))).toNat).length:Int)>64)) then (some ([],false,(0:Int),(10:Int))) else (if (r1.1.take (r11).toNat).length+(r1.1.drop ((wr .i64 (r11+1))).toNat).length<=9223372036854775807 then ((z4.F ((r1.1.take (r11).toNat)++(r1.1.drop ((wr .i64 (r11+1))).toNat)) ([48]:List UInt8)).bind λr17=>(bif (decide (r17=([]:List UInt8))) then (z50.j18 ([48]:List UInt8) r1 r11) else (z50.j18 r17 r1 r11))) else none)))
def z50.j14 (j14:Bool) (r1:(List UInt8)×Bool) (r11:Int):Option ((List Int)×Bool×Int×Int):=
 (bif j14 then (some ([],false,(0:Int),(5:Int))) else (bif r1.2 then (if (r1.1.take (r11).toNat).length+(r1.1.drop ((wr .i64 (r11+1))).toNat).length<=9223372036854775807 then ((z3.F ((r1.1.take (r11).toNat)++(r1.1.drop ((wr .i64 (r11+1))).toNat)) ([48]:List UInt8)).bind λr15=>(z50.j16 (decide (r15=([]:List UInt8))) r1 r11)) else none) else (z50.j16 false r1 r11)))
def z50.j26 (j26:List UInt8) (r1:(List UInt8)×Bool):Option ((List Int)×Bool×Int×Int):=
 ((z41.F j26).bind λr27=>((z21.F r27.1 r1.2).bind λr28=>(some (r28.1,r28.2,(0:Int),(0:Int)))))
def z50.j24 (r1:(List UInt8)×Bool):Option ((List Int)×Bool×Int×Int):=
 (if r1.1.length+([]:List UInt8).length<=9223372036854775807 then ((z4.F (r1.1++([]:List UInt8)) ([48]:List UInt8)).bind λr25=>(bif (decide (r25=([]:List UInt8))) then (z50.j26 ([48]:List UInt8) r1) else (z50.j26 r25 r1))) else none)
def z50.j22 (j22:Bool) (r1:(List UInt8)×Bool):Option ((List Int)×Bool×Int×Int):=
 (bif j22 then (some ([],false,(0:Int),(5:Int))) else (bif r1.2 then (if r1.1.length+([]:List UInt8).length<=9223372036854775807 then ((z3.F (r1.1++([]:List UInt8)) ([48]:List UInt8)).bind λr23=>(bif (decide (r23=([]:List UInt8))) then (some ([],false,(0:Int),(5:Int))) else (z50.j24 r1))) else none) else (z50.j24 r1)))
def z50.F (a0:List UInt8):Option ((List Int)×Bool×Int×Int):=
 (bif (decide ((a0.length:Int)>4096)) then (some ([],false,(0:Int),(7:Int))) else ((z37.F a0 ([45]:List UInt8)).bind λr1=>(bif (decide (([46]:List UInt8)=r1.1)) then (if (0:Int)<=(0:Int)/\(0:Int)<=((r1.1).length:Int) then (if (0:Int)<=(1:Int)/\(1:Int)<=((r1.1).length:Int) then ((z49.F (r1.1.take 0)).bind λr2=>(bif (!r2) then (z50.j4 true r1) else ((z49.F (r1.1.drop 1)).bind λr3=>(bif (!r3) then (z50.j4 true r1) else (bif (decide (((r1.1.take 0).length:Int)>1)) then (if (0:Int)<=(0:Int)/\(0:Int)<((r1.1.take 0).length:Int) then (z50.j4 (decide ((((r1.1.take 0).getD 0 0).toNat:Int)=48)) r1) else none) else (z50.j4 false r1)))))) else none) else none) else (if (0:Int)<=(0:Int)/\(0:Int)<(([46]:List UInt8).length:Int) then ((z2.F r1.1 ((([46]:List UInt8).getD 0 0).toNat:Int)).bind λr11=>(bif (decide (r11>=0)) then (if 0<=r11/\r11<=((r1.1).length:Int) then (if 0<=(wr .i64 (r11+1))/\(wr .i64 (r11+1))<=((r1.1).length:Int) then ((z49.F (r1.1.take (r11).toNat)).bind λr12=>(bif (!r12) then (z50.j14 true r1 r11) else ((z49.F (r1.1.drop ((wr .i64 (r11+1))).toNat)).bind λr13=>(bif (!r13) then (z50.j14 true r1 r11) else (bif (decide (((r1.1.take (r11).toNat).length:Int)>1)) then (if (0:Int)<=(0:Int)/\(0:Int)<((r1.1.take (r11).toNat).length:Int) then (z50.j14 (decide ((((r1.1.take (r11).toNat).getD 0 0).toNat:Int)=48)) r1 r11) else none) else (z50.j14 false r1 r11)))))) else none) else none) else ((z49.F r1.1).bind λr21=>(bif (!r21) then (z50.j22 true r1) else (bif (decide ((r1.1.length:Int)>1)) then (if (0:Int)<=(0:Int)/\(0:Int)<(r1.1.length:Int) then (z50.j22 (decide (((r1.1.getD 0 0).toNat:Int)=48)) r1) else none) else (z50.j22 false r1)))))) else none))))
def z50.enc (r:(List Int)×Bool×Int×Int):V:=(.tup [(.agg [(.ints false .u64 r.1),(.bool r.2.1),(.int .i64 r.2.2.1)]),(.int .i64 r.2.2.2)])
def z50.pack:List V->Option Pack
 |[(.str a0)]=>some ⟨(List Int)×Bool×Int×Int,z50.F a0,z50.enc⟩
 |_=>none
def z51.F (a0:Int):Option (Bool):=
 (bif (decide (a0<0)) then (some true) else (some (decide (a0>64))))
def z51.enc (r:Bool):V:=(.bool r)
def z51.pack:List V->Option Pack
 |[(.int .i64 a0)]=>some ⟨Bool,z51.F a0,z51.enc⟩
 |_=>none
def z52.F (a0:List Int) (a1:Bool) (a2:Int):Option ((List Int)×Bool×Int×Int):=
 ((z51.F a2).bind λr1=>(bif r1 then (some ([],false,(0:Int),(10:Int))) else (some (a0,a1,a2,(0:Int)))))
def z52.enc (r:(List Int)×Bool×Int×Int):V:=(.tup [(.agg [(.ints false .u64 r.1),(.bool r.2.1),(.int .i64 r.2.2.1)]),(.int .i64 r.2.2.2)])
def z52.pack:List V->Option Pack
 |[(.agg [(.ints _ .u64 a0),(.bool a1)]),(.int .i64 a2)]=>some ⟨(List Int)×Bool×Int×Int,z52.F a0 a1 a2,z52.enc⟩
 |_=>none
def z53.F (a0:List Int) (a1:Bool) (a2:Int):Option ((List Int)×Bool):=
 (some (a0,a1))
def z53.enc (r:(List Int)×Bool):V:=(.agg [(.ints false .u64 r.1),(.bool r.2)])
def z53.pack:List V->Option Pack
 |[(.agg [(.ints _ .u64 a0),(.bool a1),(.int .i64 a2)])]=>some ⟨(List Int)×Bool,z53.F a0 a1 a2,z53.enc⟩
 |_=>none
def z54.F (a0:List Int) (a1:Bool) (a2:List Int) (a3:Bool):Option ((List Int)×Bool):=
 ((z40.F a0 a2).bind λr1=>((z21.F r1 (!decide (a1=a3))).bind λr2=>(some (r2.1,r2.2))))
def z54.enc (r:(List Int)×Bool):V:=(.agg [(.ints false .u64 r.1),(.bool r.2)])
def z54.pack:List V->Option Pack
 |[(.agg [(.ints _ .u64 a0),(.bool a1)]),(.agg [(.ints _ .u64 a2),(.bool a3)])]=>some ⟨(List Int)×Bool,z54.F a0 a1 a2 a3,z54.enc⟩
 |_=>none
def z55.F (a0:Int):Option ((List Int)×Bool):=
 ((z44.F a0).bind λr1=>((z21.F r1.1 false).bind λr2=>(some (r2.1,r2.2))))
def z55.enc (r:(List Int)×Bool):V:=(.agg [(.ints false .u64 r.1),(.bool r.2)])
def z55.pack:List V->Option Pack
 |[(.int .i64 a0)]=>some ⟨(List Int)×Bool,z55.F a0,z55.enc⟩
 |_=>none
def z56.F (a0:List Int) (a1:Bool) (a2 a3:Int):Option ((List Int)×Bool):=
 ((z55.F (wr .i64 (a3-a2))).bind λr1=>((z54.F a0 a1 r1.1 r1.2).bind λr2=>(some (r2.1,r2.2))))
def z56.enc (r:(List Int)×Bool):V:=(.agg [(.ints false .u64 r.1),(.bool r.2)])
def z56.pack:List V->Option Pack
 |[(.agg [(.ints _ .u64 a0),(.bool a1),(.int .i64 a2)]),(.int .i64 a3)]=>some ⟨(List Int)×Bool,z56.F a0 a1 a2 a3,z56.enc⟩
 |_=>none
def z57.F (a0:List Int) (a1:Bool) (a2:Int) (a3:List Int) (a4:Bool) (a5:Int):Option (Int):=
 ((z56.F a0 a1 a2 (if a5>a2 then a5 else a2)).bind λr1=>((z56.F a3 a4 a5 (if a5>a2 then a5 else a2)).bind λr2=>((z34.F r1.1 r1.2 r2.1 r2.2).bind λr3=>(some r3))))
def z57.enc (r:Int):V:=(.int .i64 r)
def z57.pack:List V->Option Pack
 |[(.agg [(.ints _ .u64 a0),(.bool a1),(.int .i64 a2)]),(.agg [(.ints _ .u64 a3),(.bool a4),(.int .i64 a5)])]=>some ⟨Int,z57.F a0 a1 a2 a3 a4 a5,z57.enc⟩
 |_=>none
def z58.F (a0:List Int) (a1:Bool) (a2:Int):Option (Int):=
 (some a2)
def z58.enc (r:Int):V:=(.int .i64 r)
def z58.pack:List V->Option Pack
 |[(.agg [(.ints _ .u64 a0),(.bool a1),(.int .i64 a2)])]=>some ⟨Int,z58.F a0 a1 a2,z58.enc⟩
 |_=>none
def z59.F (a0:List Int) (a1:Bool):Option ((List Int)):=
 (some a0)
def z59.enc (r:(List Int)):V:=(.agg [(.ints false .u64 r)])
def z59.pack:List V->Option Pack
 |[(.agg [(.ints _ .u64 a0),(.bool a1)])]=>some ⟨(List Int),z59.F a0 a1,z59.enc⟩
 |_=>none
def z60.F (a0:List Int):Option ((List Int)):=
 (if (a0).length*8<=140737488355328 then (some a0) else none)
def z60.enc (r:(List Int)):V:=(.ints false .u64 r)
def z60.pack:List V->Option Pack
 |[(.agg [(.ints _ .u64 a0)])]=>some ⟨(List Int),z60.F a0,z60.enc⟩
 |_=>none
def z61.j8 (j7 j8:Int):Option (Int):=
 (if 0<=(wr .u8 j7)/\(wr .u8 j7)<(([0,1,2,2,3,3,3,3,4,4,4,4,4,4,4,4,5,5,5,5,5,5,5,5,5,5,5,5,5,5,5,5,6,6,6,6,6,6,6,6,6,6,6,6,6,6,6,6,6,6,6,6,6,6,6,6,6,6,6,6,6,6,6,6,7,7,7,7,7,7,7,7,7,7,7,7,7,7,7,7,7,7,7,7,7,7,7,7,7,7,7,7,7,7,7,7,7,7,7,7,7,7,7,7,7,7,7,7,7,7,7,7,7,7,7,7,7,7,7,7,7,7,7,7,7,7,7,7,8,8,8,8,8,8,8,8,8,8,8,8,8,8,8,8,8,8,8,8,8,8,8,8,8,8,8,8,8,8,8,8,8,8,8,8,8,8,8,8,8,8,8,8,8,8,8,8,8,8,8,8,8,8,8,8,8,8,8,8,8,8,8,8,8,8,8,8,8,8,8,8,8,8,8,8,8,8,8,8,8,8,8,8,8,8,8,8,8,8,8,8,8,8,8,8,8,8,8,8,8,8,8,8,8,8,8,8,8,8,8,8,8,8,8,8,8,8,8,8,8,8,8,8,8,8,8,8]:List UInt8).length:Int) then (some (wr .i64 (j8+(wr .i64 ((([0,1,2,2,3,3,3,3,4,4,4,4,4,4,4,4,5,5,5,5,5,5,5,5,5,5,5,5,5,5,5,5,6,6,6,6,6,6,6,6,6,6,6,6,6,6,6,6,6,6,6,6,6,6,6,6,6,6,6,6,6,6,6,6,7,7,7,7,7,7,7,7,7,7,7,7,7,7,7,7,7,7,7,7,7,7,7,7,7,7,7,7,7,7,7,7,7,7,7,7,7,7,7,7,7,7,7,7,7,7,7,7,7,7,7,7,7,7,7,7,7,7,7,7,7,7,7,7,8,8,8,8,8,8,8,8,8,8,8,8,8,8,8,8,8,8,8,8,8,8,8,8,8,8,8,8,8,8,8,8,8,8,8,8,8,8,8,8,8,8,8,8,8,8,8,8,8,8,8,8,8,8,8,8,8,8,8,8,8,8,8,8,8,8,8,8,8,8,8,8,8,8,8,8,8,8,8,8,8,8,8,8,8,8,8,8,8,8,8,8,8,8,8,8,8,8,8,8,8,8,8,8,8,8,8,8,8,8,8,8,8,8,8,8,8,8,8,8,8,8,8,8,8,8,8,8]:List UInt8).getD ((wr .u8 j7)).toNat 0).toNat:Int))))) else none)
def z61.j10 (j9 j10:Int):Option (Int):=
 (if 0<=(wr .u8 j9)/\(wr .u8 j9)<(([0,1,2,2,3,3,3,3,4,4,4,4,4,4,4,4,5,5,5,5,5,5,5,5,5,5,5,5,5,5,5,5,6,6,6,6,6,6,6,6,6,6,6,6,6,6,6,6,6,6,6,6,6,6,6,6,6,6,6,6,6,6,6,6,7,7,7,7,7,7,7,7,7,7,7,7,7,7,7,7,7,7,7,7,7,7,7,7,7,7,7,7,7,7,7,7,7,7,7,7,7,7,7,7,7,7,7,7,7,7,7,7,7,7,7,7,7,7,7,7,7,7,7,7,7,7,7,7,8,8,8,8,8,8,8,8,8,8,8,8,8,8,8,8,8,8,8,8,8,8,8,8,8,8,8,8,8,8,8,8,8,8,8,8,8,8,8,8,8,8,8,8,8,8,8,8,8,8,8,8,8,8,8,8,8,8,8,8,8,8,8,8,8,8,8,8,8,8,8,8,8,8,8,8,8,8,8,8,8,8,8,8,8,8,8,8,8,8,8,8,8,8,8,8,8,8,8,8,8,8,8,8,8,8,8,8,8,8,8,8,8,8,8,8,8,8,8,8,8,8,8,8,8,8,8,8]:List UInt8).length:Int) then (some (wr .i64 (j10+(wr .i64 ((([0,1,2,2,3,3,3,3,4,4,4,4,4,4,4,4,5,5,5,5,5,5,5,5,5,5,5,5,5,5,5,5,6,6,6,6,6,6,6,6,6,6,6,6,6,6,6,6,6,6,6,6,6,6,6,6,6,6,6,6,6,6,6,6,7,7,7,7,7,7,7,7,7,7,7,7,7,7,7,7,7,7,7,7,7,7,7,7,7,7,7,7,7,7,7,7,7,7,7,7,7,7,7,7,7,7,7,7,7,7,7,7,7,7,7,7,7,7,7,7,7,7,7,7,7,7,7,7,8,8,8,8,8,8,8,8,8,8,8,8,8,8,8,8,8,8,8,8,8,8,8,8,8,8,8,8,8,8,8,8,8,8,8,8,8,8,8,8,8,8,8,8,8,8,8,8,8,8,8,8,8,8,8,8,8,8,8,8,8,8,8,8,8,8,8,8,8,8,8,8,8,8,8,8,8,8,8,8,8,8,8,8,8,8,8,8,8,8,8,8,8,8,8,8,8,8,8,8,8,8,8,8,8,8,8,8,8,8,8,8,8,8,8,8,8,8,8,8,8,8,8,8,8,8,8,8]:List UInt8).getD ((wr .u8 j9)).toNat 0).toNat:Int))))) else none)
def z61.j2 (j1 j2:Int):Option (Int):=
 (bif (decide (j1>=65536)) then (bif (decide ((Int.fdiv j1 (2^(min 16 (64:Nat))))>=256)) then (z61.j8 (Int.fdiv (Int.fdiv j1 (2^(min 16 (64:Nat)))) (2^(min 8 (64:Nat)))) (wr .i64 ((wr .i64 (j2+16))+8))) else (z61.j8 (Int.fdiv j1 (2^(min 16 (64:Nat)))) (wr .i64 (j2+16)))) else (bif (decide (j1>=256)) then (z61.j10 (Int.fdiv j1 (2^(min 8 (64:Nat)))) (wr .i64 (j2+8))) else (z61.j10 j1 j2)))
def z61.F (a0:Int):Option (Int):=
 (bif (decide (a0>=4294967296)) then (z61.j2 (Int.fdiv a0 (2^(min 32 (64:Nat)))) 32) else (z61.j2 a0 0))
def z61.enc (r:Int):V:=(.int .i64 r)
def z61.pack:List V->Option Pack
 |[(.int .u64 a0)]=>some ⟨Int,z61.F a0,z61.enc⟩
 |_=>none
def z62.F (a0:Int):Option (Int):=
 ((z61.F a0).bind λr1=>(some (wr .i64 ((64:Int)-r1))))
def z62.enc (r:Int):V:=(.int .i64 r)
def z62.pack:List V->Option Pack
 |[(.int .u64 a0)]=>some ⟨Int,z62.F a0,z62.enc⟩
 |_=>none
def z63.l0b8P (a b c:Int) {R:Type} (rec done:(Int×Int)->Option R):(Int×Int)->Option R:=λx=>match x with
 |(d,e)=>(bif (decide (d>=4294967296)) then (bif (decide ((wr .u64 (e+a))>=4294967296)) then (done ((wr .u64 (d-1)),(wr .u64 (e+a)))) else (rec ((wr .u64 (d-1)),(wr .u64 (e+a))))) else (bif (decide ((wr .u64 (d*b))>(wr .u64 ((wr .u64 ((4294967296:Int)*e))+c)))) then (bif (decide ((wr .u64 (e+a))>=4294967296)) then (done ((wr .u64 (d-1)),(wr .u64 (e+a)))) else (rec ((wr .u64 (d-1)),(wr .u64 (e+a))))) else (done (d,e))))
def z63.l0b8 (a b c:Int) (x:(Int×Int)):Option ((Int×Int)):=lfp (λrec x=>z63.l0b8P a b c rec some x) x
def z63.l2b8P (a b c:Int) {R:Type} (rec done:(Int×Int)->Option R):(Int×Int)->Option R:=λx=>match x with
 |(d,e)=>(bif (decide (e>=4294967296)) then (bif (decide ((wr .u64 (d+a))>=4294967296)) then (done ((wr .u64 (d+a)),(wr .u64 (e-1)))) else (rec ((wr .u64 (d+a)),(wr .u64 (e-1))))) else (bif (decide ((wr .u64 (e*b))>(wr .u64 ((wr .u64 ((4294967296:Int)*d))+c)))) then (bif (decide ((wr .u64 (d+a))>=4294967296)) then (done ((wr .u64 (d+a)),(wr .u64 (e-1)))) else (rec ((wr .u64 (d+a)),(wr .u64 (e-1))))) else (done (d,e))))
def z63.l2b8 (a b c:Int) (x:(Int×Int)):Option ((Int×Int)):=lfp (λrec x=>z63.l2b8P a b c rec some x) x
def z63.F (a0 a1 a2:Int):Option (Int×Int):=
 (bif (decide (a2=0)) then none else (bif (decide (a2<=a0)) then none else (bif (decide (a0=0)) then (if a2=0 then none else (if a2=0 then none else (some ((wr .u64 (Int.tdiv a1 a2)),(Int.tmod a1 a2))))) else ((z62.F a2).bind λr1=>(if 0<=(wr .u64 r1) then (if 0<=(wr .u64 r1) then (if 0<=(wr .u64 ((64:Int)-(wr .u64 r1))) then (if 0<=(wr .u64 r1) then (if (Int.fdiv (wr .u64 (a2*2^(min ((wr .u64 r1)).toNat (64:Nat)))) (2^(min 32 (64:Nat))))=0 then none else ((z63.l0b8 (Int.fdiv (wr .u64 (a2*2^(min ((wr .u64 r1)).toNat (64:Nat)))) (2^(min 32 (64:Nat)))) (wr .u64 ((BitVec.ofInt (IntKind.bits .u64) (wr .u64 (a2*2^(min ((wr .u64 r1)).toNat (64:Nat)))) &&& BitVec.ofInt (IntKind.bits .u64) 4294967295).toNat:Int)) (Int.fdiv (wr .u64 (a1*2^(min ((wr .u64 r1)).toNat (64:Nat)))) (2^(min 32 (64:Nat)))) ((wr .u64 (Int.tdiv (wr .u64 ((BitVec.ofInt (IntKind.bits .u64) (wr .u64 (a0*2^(min ((wr .u64 r1)).toNat (64:Nat)))) ||| BitVec.ofInt (IntKind.bits .u64) (Int.fdiv a1 (2^(min ((wr .u64 ((64:Int)-(wr .u64 r1)))).toNat (64:Nat))))).toNat:Int)) (Int.fdiv (wr .u64 (a2*2^(min ((wr .u64 r1)).toNat (64:Nat)))) (2^(min 32 (64:Nat)))))),(wr .u64 ((wr .u64 ((BitVec.ofInt (IntKind.bits .u64) (wr .u64 (a0*2^(min ((wr .u64 r1)).toNat (64:Nat)))) ||| BitVec.ofInt (IntKind.bits .u64) (Int.fdiv a1 (2^(min ((wr .u64 ((64:Int)-(wr .u64 r1)))).toNat (64:Nat))))).toNat:Int))-(wr .u64 ((wr .u64 (Int.tdiv (wr .u64 ((BitVec.ofInt (IntKind.bits .u64) (wr .u64 (a0*2^(min ((wr .u64 r1)).toNat (64:Nat)))) ||| BitVec.ofInt (IntKind.bits .u64) (Int.fdiv a1 (2^(min ((wr .u64 ((64:Int)-(wr .u64 r1)))).toNat (64:Nat))))).toNat:Int)) (Int.fdiv (wr .u64 (a2*2^(min ((wr .u64 r1)).toNat (64:Nat)))) (2^(min 32 (64:Nat))))))*(Int.fdiv (wr .u64 (a2*2^(min ((wr .u64 r1)).toNat (64:Nat)))) (2^(min 32 (64:Nat)))))))))).bind λo2=>(if (Int.fdiv (wr .u64 (a2*2^(min ((wr .u64 r1)).toNat (64:Nat)))) (2^(min 32 (64:Nat))))=0 then none else ((z63.l2b8 (Int.fdiv (wr .u64 (a2*2^(min ((wr .u64 r1)).toNat (64:Nat)))) (2^(min 32 (64:Nat)))) (wr .u64 ((BitVec.ofInt (IntKind.bits .u64) (wr .u64 (a2*2^(min ((wr .u64 r1)).toNat (64:Nat)))) &&& BitVec.ofInt (IntKind.bits .u64) 4294967295).toNat:Int)) (wr .u64 ((BitVec.ofInt (IntKind.bits .u64) (wr .u64 (a1*2^(min ((wr .u64 r1)).toNat (64:Nat)))) &&& BitVec.ofInt (IntKind.bits .u64) 4294967295).toNat:Int)) ((wr .u64 ((wr .u64 ((wr .u64 ((wr .u64 ((wr .u64 ((BitVec.ofInt (IntKind.bits .u64) (wr .u64 (a0*2^(min ((wr .u64 r1)).toNat (64:Nat)))) ||| BitVec.ofInt (IntKind.bits .u64) (Int.fdiv a1 (2^(min ((wr .u64 ((64:Int)-(wr .u64 r1)))).toNat (64:Nat))))).toNat:Int))*4294967296))+(Int.fdiv (wr .u64 (a1*2^(min ((wr .u64 r1)).toNat (64:Nat)))) (2^(min 32 (64:Nat))))))-(wr .u64 (o2.1*(wr .u64 (a2*2^(min ((wr .u64 r1)).toNat (64:Nat))))))))-(wr .u64 ((wr .u64 (Int.tdiv (wr .u64 ((wr .u64 ((wr .u64 ((wr .u64 ((BitVec.ofInt (IntKind.bits .u64) (wr .u64 (a0*2^(min ((wr .u64 r1)).toNat (64:Nat)))) ||| BitVec.ofInt (IntKind.bits .u64) (Int.fdiv a1 (2^(min ((wr .u64 ((64:Int)-(wr .u64 r1)))).toNat (64:Nat))))).toNat:Int))*4294967296))+(Int.fdiv (wr .u64 (a1*2^(min ((wr .u64 r1)).toNat (64:Nat)))) (2^(min 32 (64:Nat))))))-(wr .u64 (o2.1*(wr .u64 (a2*2^(min ((wr .u64 r1)).toNat (64:Nat)))))))) (Int.fdiv (wr .u64 (a2*2^(min ((wr .u64 r1)).toNat (64:Nat)))) (2^(min 32 (64:Nat))))))*(Int.fdiv (wr .u64 (a2*2^(min ((wr .u64 r1)).toNat (64:Nat)))) (2^(min 32 (64:Nat)))))))),(wr .u64 (Int.tdiv (wr .u64 ((wr .u64 ((wr .u64 ((wr .u64 ((BitVec.ofInt (IntKind.bits .u64) (wr .u64 (a0*2^(min ((wr .u64 r1)).toNat (64:Nat)))) ||| BitVec.ofInt (IntKind.bits .u64) (Int.fdiv a1 (2^(min ((wr .u64 ((64:Int)-(wr .u64 r1)))).toNat (64:Nat))))).toNat:Int))*4294967296))+(Int.fdiv (wr .u64 (a1*2^(min ((wr .u64 r1)).toNat (64:Nat)))) (2^(min 32 (64:Nat))))))-(wr .u64 (o2.1*(wr .u64 (a2*2^(min ((wr .u64 r1)).toNat (64:Nat)))))))) (Int.fdiv (wr .u64 (a2*2^(min ((wr .u64 r1)).toNat (64:Nat)))) (2^(min 32 (64:Nat)))))))).bind λo3=>(if 0<=(wr .u64 r1) then (some ((wr .u64 ((wr .u64 (o2.1*4294967296))+o3.2)),(Int.fdiv (wr .u64 ((wr .u64 ((wr .u64 ((wr .u64 ((wr .u64 ((wr .u64 ((wr .u64 ((BitVec.ofInt (IntKind.bits .u64) (wr .u64 (a0*2^(min ((wr .u64 r1)).toNat (64:Nat)))) ||| BitVec.ofInt (IntKind.bits .u64) (Int.fdiv a1 (2^(min ((wr .u64 ((64:Int)-(wr .u64 r1)))).toNat (64:Nat))))).toNat:Int))*4294967296))+(Int.fdiv (wr .u64 (a1*2^(min ((wr .u64 r1)).toNat (64:Nat)))) (2^(min 32 (64:Nat))))))-(wr .u64 (o2.1*(wr .u64 (a2*2^(min ((wr .u64 r1)).toNat (64:Nat))))))))*4294967296))+(wr .u64 ((BitVec.ofInt (IntKind.bits .u64) (wr .u64 (a1*2^(min ((wr .u64 r1)).toNat (64:Nat)))) &&& BitVec.ofInt (IntKind.bits .u64) 4294967295).toNat:Int))))-(wr .u64 (o3.2*(wr .u64 (a2*2^(min ((wr .u64 r1)).toNat (64:Nat)))))))) (2^(min ((wr .u64 r1)).toNat (64:Nat)))))) else none))))) else none) else none) else none) else none)))))
def z63.enc (r:Int×Int):V:=(.tup [(.int .u64 r.1),(.int .u64 r.2)])
def z63.pack:List V->Option Pack
 |[(.int .u64 a0),(.int .u64 a1),(.int .u64 a2)]=>some ⟨Int×Int,z63.F a0 a1 a2,z63.enc⟩
 |_=>none
def z64.l0P (a:List Int) (b:Int) {R:Type} (rec done:(Int×Int×(List Int))->Option R):(Int×Int×(List Int))->Option R:=λx=>match x with
 |(c,d,e)=>(bif (decide (d>=0)) then (if 0<=d/\d<(a.length:Int) then ((z63.F c (a.getD (d).toNat 0) b).bind λg=>(if 0<=d/\d<(e.length:Int) then (if (d).toNat<e.length then (rec (g.2,(wr .i64 (d-1)),(e.set (d).toNat g.1))) else none) else none)) else none) else (done (c,d,e)))
def z64.l0 (a:List Int) (b:Int) (x:(Int×Int×(List Int))):Option ((Int×Int×(List Int))):=lfp (λrec x=>z64.l0P a b rec some x) x
def z64.F (a0:List Int) (a1:Int):Option ((List Int)×Int):=
 (if 0<=(((a0).length:Nat):Int)/\(((a0).length:Nat):Int)*8<=140737488355328 then ((z64.l0 a0 a1 ((0:Int),(wr .i64 ((((a0).length:Nat):Int)-1)),(List.replicate ((((a0).length:Nat):Int)).toNat (0:Int)))).bind λo1=>(some (o1.2.2,o1.1))) else none)
def z64.enc (r:(List Int)×Int):V:=(.tup [(.ints false .u64 r.1),(.int .u64 r.2)])
def z64.pack:List V->Option Pack
 |[(.ints _ .u64 a0),(.int .u64 a1)]=>some ⟨(List Int)×Int,z64.F a0 a1,z64.enc⟩
 |_=>none
def z65.F (a0:Int):Option (Bool):=
 (bif (decide (a0<0)) then (some true) else (some (decide (a0>262144))))
def z65.enc (r:Bool):V:=(.bool r)
def z65.pack:List V->Option Pack
 |[(.int .i64 a0)]=>some ⟨Bool,z65.F a0,z65.enc⟩
 |_=>none
def z66.l0P (a b:Nat) (c d:Int) {R:Type} (rec done:(Int×(List Int))->Option R):(Int×(List Int))->Option R:=λx=>match x with
 |(e,g)=>(bif (decide (e<d)) then (if 0<=e/\e<((b:Nat):Int) then (if (a+(e).toNat)<g.length then (if 0<=c then (if 0<=e/\e<((b:Nat):Int) then (if (a+(e).toNat)<g.length then (bif (decide ((wr .i64 (e+1))<((b:Nat):Int))) then (if 0<=e/\e<((b:Nat):Int) then (if (a+(e).toNat)<(g.set (a+(e).toNat) (Int.fdiv (g.getD (a+(e).toNat) 0) (2^(min (c).toNat (64:Nat))))).length then (if 0<=(wr .i64 (e+1))/\(wr .i64 (e+1))<((b:Nat):Int) then (if (a+((wr .i64 (e+1))).toNat)<(g.set (a+(e).toNat) (Int.fdiv (g.getD (a+(e).toNat) 0) (2^(min (c).toNat (64:Nat))))).length then (if 0<=(wr .u64 ((64:Int)-c)) then (if 0<=e/\e<((b:Nat):Int) then (if (a+(e).toNat)<(g.set (a+(e).toNat) (Int.fdiv (g.getD (a+(e).toNat) 0) (2^(min (c).toNat (64:Nat))))).length then (rec ((wr .i64 (e+1)),((g.set (a+(e).toNat) (Int.fdiv (g.getD (a+(e).toNat) 0) (2^(min (c).toNat (64:Nat))))).set (a+(e).toNat) (wr .u64 ((BitVec.ofInt (IntKind.bits .u64) ((g.set (a+(e).toNat) (Int.fdiv (g.getD (a+(e).toNat) 0) (2^(min (c).toNat (64:Nat))))).getD (a+(e).toNat) 0) ||| BitVec.ofInt (IntKind.bits .u64) (wr .u64 (((g.set (a+(e).toNat) (Int.fdiv (g.getD (a+(e).toNat) 0) (2^(min (c).toNat (64:Nat))))).getD (a+((wr .i64 (e+1))).toNat) 0)*2^(min ((wr .u64 ((64:Int)-c))).toNat (64:Nat))))).toNat:Int))))) else none) else none) else none) else none) else none) else none) else none) else (rec ((wr .i64 (e+1)),(g.set (a+(e).toNat) (Int.fdiv (g.getD (a+(e).toNat) 0) (2^(min (c).toNat (64:Nat)))))))) else none) else none) else none) else none) else none) else (done (e,g)))
def z66.l0 (a b:Nat) (c d:Int) (x:(Int×(List Int))):Option ((Int×(List Int))):=lfp (λrec x=>z66.l0P a b c d rec some x) x
def z66.F (a0:List Int) (a1:Int):Option ((List Int)×Int):=
 ((z65.F a1).bind λr1=>(bif r1 then (some ([],(2:Int))) else (if (a0).length*8<=140737488355328 then (if 0<=(if (((a0).length:Nat):Int)<(wr .i64 (Int.tdiv a1 64)) then (((a0).length:Nat):Int) else (wr .i64 (Int.tdiv a1 64)))/\(if (((a0).length:Nat):Int)<(wr .i64 (Int.tdiv a1 64)) then (((a0).length:Nat):Int) else (wr .i64 (Int.tdiv a1 64)))<=((a0).length:Int) then ((z66.l0 ((if (((a0).length:Nat):Int)<(wr .i64 (Int.tdiv a1 64)) then (((a0).length:Nat):Int) else (wr .i64 (Int.tdiv a1 64)))).toNat ((a0).length-((if (((a0).length:Nat):Int)<(wr .i64 (Int.tdiv a1 64)) then (((a0).length:Nat):Int) else (wr .i64 (Int.tdiv a1 64)))).toNat) (wr .u64 (Int.tmod a1 64)) ((((a0).length-((if (((a0).length:Nat):Int)<(wr .i64 (Int.tdiv a1 64)) then (((a0).length:Nat):Int) else (wr .i64 (Int.tdiv a1 64)))).toNat):Nat):Int) ((0:Int),a0)).bind λo2=>((z38.F ((o2.2.drop ((if (((a0).length:Nat):Int)<(wr .i64 (Int.tdiv a1 64)) then (((a0).length:Nat):Int) else (wr .i64 (Int.tdiv a1 64)))).toNat).take ((a0).length-((if (((a0).length:Nat):Int)<(wr .i64 (Int.tdiv a1 64)) then (((a0).length:Nat):Int) else (wr .i64 (Int.tdiv a1 64)))).toNat))).bind λr3=>(some (r3,(0:Int))))) else none) else none)))
def z66.enc (r:(List Int)×Int):V:=(.tup [(.agg [(.ints false .u64 r.1)]),(.int .i64 r.2)])
def z66.pack:List V->Option Pack
 |[(.agg [(.ints _ .u64 a0)]),(.int .i64 a1)]=>some ⟨(List Int)×Int,z66.F a0 a1,z66.enc⟩
 |_=>none
def z67.l0P (a:Int) (b:List Int) (c:Int) {R:Type} (rec done:(Int×(List Int))->Option R):(Int×(List Int))->Option R:=λx=>match x with
 |(d,e)=>(bif (decide (d<c)) then (if 0<=d/\d<(b.length:Int) then (if 0<=d/\d<(e.length:Int) then (if (d).toNat<e.length then (if 0<=a then (if 0<=d/\d<(e.length:Int) then (if (d).toNat<e.length then (if 0<=(wr .u64 ((64:Int)-a)) then (if 0<=(wr .i64 (d+1))/\(wr .i64 (d+1))<((e.set (d).toNat (wr .u64 ((BitVec.ofInt (IntKind.bits .u64) (e.getD (d).toNat 0) ||| BitVec.ofInt (IntKind.bits .u64) (wr .u64 ((b.getD (d).toNat 0)*2^(min (a).toNat (64:Nat))))).toNat:Int))).length:Int) then (if ((wr .i64 (d+1))).toNat<(e.set (d).toNat (wr .u64 ((BitVec.ofInt (IntKind.bits .u64) (e.getD (d).toNat 0) ||| BitVec.ofInt (IntKind.bits .u64) (wr .u64 ((b.getD (d).toNat 0)*2^(min (a).toNat (64:Nat))))).toNat:Int))).length then (rec ((wr .i64 (d+1)),((e.set (d).toNat (wr .u64 ((BitVec.ofInt (IntKind.bits .u64) (e.getD (d).toNat 0) ||| BitVec.ofInt (IntKind.bits .u64) (wr .u64 ((b.getD (d).toNat 0)*2^(min (a).toNat (64:Nat))))).toNat:Int))).set ((wr .i64 (d+1))).toNat (Int.fdiv (b.getD (d).toNat 0) (2^(min ((wr .u64 ((64:Int)-a))).toNat (64:Nat))))))) else none) else none) else none) else none) else none) else none) else none) else none) else none) else (done (d,e)))
def z67.l0 (a:Int) (b:List Int) (c:Int) (x:(Int×(List Int))):Option ((Int×(List Int))):=lfp (λrec x=>z67.l0P a b c rec some x) x
def z67.l0aP (a:Int) (b:List Int) (c:Int) {R:Type} (rec done:(Int×(List Int))->Option R):(Int×(List Int))->Option R:=λx=>match x with
 |(d,e)=>(bif (decide (d<c)) then (if 0<=d/\d<(b.length:Int) then (if 0<=d/\d<(e.length:Int) then (if (d).toNat<e.length then (if 0<=a then (if 0<=d/\d<(e.length:Int) then (if (d).toNat<e.length then (if 0<=(wr .u64 ((64:Int)-a)) then (if 0<=(wr .i64 (d+1))/\(wr .i64 (d+1))<((e.set (d).toNat (wr .u64 ((BitVec.ofInt (IntKind.bits .u64) (e.getD (d).toNat 0) ||| BitVec.ofInt (IntKind.bits .u64) (wr .u64 ((b.getD (d).toNat 0)*2^(min (a).toNat (64:Nat))))).toNat:Int))).length:Int) then (if ((wr .i64 (d+1))).toNat<(e.set (d).toNat (wr .u64 ((BitVec.ofInt (IntKind.bits .u64) (e.getD (d).toNat 0) ||| BitVec.ofInt (IntKind.bits .u64) (wr .u64 ((b.getD (d).toNat 0)*2^(min (a).toNat (64:Nat))))).toNat:Int))).length then (rec ((wr .i64 (d+1)),((e.set (d).toNat (wr .u64 ((BitVec.ofInt (IntKind.bits .u64) (e.getD (d).toNat 0) ||| BitVec.ofInt (IntKind.bits .u64) (wr .u64 ((b.getD (d).toNat 0)*2^(min (a).toNat (64:Nat))))).toNat:Int))).set ((wr .i64 (d+1))).toNat (Int.fdiv (b.getD (d).toNat 0) (2^(min ((wr .u64 ((64:Int)-a))).toNat (64:Nat))))))) else none) else none) else none) else none) else none) else none) else none) else none) else none) else (done (d,e)))
def z67.l0a (a:Int) (b:List Int) (c:Int) (x:(Int×(List Int))):Option ((Int×(List Int))):=lfp (λrec x=>z67.l0aP a b c rec some x) x
def z67.l0b3P (a b:Nat) (c:Int) (d e:Nat) (g:Int) (h:List Int) {R:Type} (rec done:(Int×Int×Int×(List Int))->Option R):(Int×Int×Int×(List Int))->Option R:=λx=>match x with
 |(j,k,m,n)=>(bif (decide (m<g)) then (if 0<=m/\m<((e:Nat):Int) then (if (d+(m).toNat)<h.length then ((z39.F (h.getD (d+(m).toNat) 0) c).bind λo=>((z0.F o.2 j 0).bind λp=>(if 0<=m/\m<((b:Nat):Int) then (if (a+(m).toNat)<n.length then ((z1.F (n.getD (a+(m).toNat) 0) p.1 k).bind λq=>(if 0<=m/\m<((b:Nat):Int) then (if (a+(m).toNat)<n.length then (rec ((wr .u64 (o.1+p.2)),q.2,(wr .i64 (m+1)),(n.set (a+(m).toNat) q.1))) else none) else none)) else none) else none))) else none) else none) else (done (j,k,m,n)))
def z67.l0b3 (a b:Nat) (c:Int) (d e:Nat) (g:Int) (h:List Int) (x:(Int×Int×Int×(List Int))):Option ((Int×Int×Int×(List Int))):=lfp (λrec x=>z67.l0b3P a b c d e g h rec some x) x
def z67.l0b4P (a b c d:Nat) (e:Int) (g:List Int) {R:Type} (rec done:(Int×Int×(List Int))->Option R):(Int×Int×(List Int))->Option R:=λx=>match x with
 |(h,j,k)=>(bif (decide (j<e)) then (if 0<=j/\j<((d:Nat):Int) then (if (c+(j).toNat)<g.length then (if 0<=j/\j<((b:Nat):Int) then (if (a+(j).toNat)<k.length then ((z0.F (k.getD (a+(j).toNat) 0) (g.getD (c+(j).toNat) 0) h).bind λm=>(if 0<=j/\j<((b:Nat):Int) then (if (a+(j).toNat)<k.length then (rec (m.2,(wr .i64 (j+1)),(k.set (a+(j).toNat) m.1))) else none) else none)) else none) else none) else none) else none) else (done (h,j,k)))
def z67.l0b4 (a b c d:Nat) (e:Int) (g:List Int) (x:(Int×Int×(List Int))):Option ((Int×Int×(List Int))):=lfp (λrec x=>z67.l0b4P a b c d e g rec some x) x
def z67.l2P (a b c d:Nat) (e:List Int) {R:Type} (rec done:(Int×Int×(List Int))->Option R):(Int×Int×(List Int))->Option R:=λx=>match x with
 |(g,h,j)=>(bif (!decide (h=0)) then ((z67.l0b4 c d a b ((b:Nat):Int) e ((0:Int),(0:Int),j)).bind λk=>(if 0<=((b:Nat):Int)/\((b:Nat):Int)<((d:Nat):Int) then (if (c+(((b:Nat):Int)).toNat)<k.2.2.length then (if 0<=((b:Nat):Int)/\((b:Nat):Int)<((d:Nat):Int) then (if (c+(((b:Nat):Int)).toNat)<k.2.2.length then (if 0<=((b:Nat):Int)/\((b:Nat):Int)<((d:Nat):Int) then (if (c+(((b:Nat):Int)).toNat)<(k.2.2.set (c+(((b:Nat):Int)).toNat) (wr .u64 ((k.2.2.getD (c+(((b:Nat):Int)).toNat) 0)+k.1))).length then (bif (decide (((k.2.2.set (c+(((b:Nat):Int)).toNat) (wr .u64 ((k.2.2.getD (c+(((b:Nat):Int)).toNat) 0)+k.1))).getD (c+(((b:Nat):Int)).toNat) 0)=0)) then (rec ((wr .u64 (g-1)),(0:Int),(k.2.2.set (c+(((b:Nat):Int)).toNat) (wr .u64 ((k.2.2.getD (c+(((b:Nat):Int)).toNat) 0)+k.1))))) else (rec ((wr .u64 (g-1)),h,(k.2.2.set (c+(((b:Nat):Int)).toNat) (wr .u64 ((k.2.2.getD (c+(((b:Nat):Int)).toNat) 0)+k.1)))))) else none) else none) else none) else none) else none) else none)) else (done (g,h,j)))
def z67.l2 (a b c d:Nat) (e:List Int) (x:(Int×Int×(List Int))):Option ((Int×Int×(List Int))):=lfp (λrec x=>z67.l2P a b c d e rec some x) x
def z67.l0aaP (a b:Nat) (c:List Int) {R:Type} (rec done:(Int×(List Int)×(List Int))->Option R):(Int×(List Int)×(List Int))->Option R:=λx=>match x with
 |(d,e,g)=>(bif (decide (d>=0)) then (if 0<=d/\d<=(wr .i64 ((wr .i64 (d+((b:Nat):Int)))+1))/\(wr .i64 ((wr .i64 (d+((b:Nat):Int)))+1))<=((e).length:Int) then (if 0<=((b:Nat):Int)/\((b:Nat):Int)<(((((wr .i64 ((wr .i64 (d+((b:Nat):Int)))+1))).toNat-(d).toNat):Nat):Int) then (if ((d).toNat+(((b:Nat):Int)).toNat)<e.length then (if 0<=(wr .i64 (((b:Nat):Int)-1))/\(wr .i64 (((b:Nat):Int)-1))<(((((wr .i64 ((wr .i64 (d+((b:Nat):Int)))+1))).toNat-(d).toNat):Nat):Int) then (if ((d).toNat+((wr .i64 (((b:Nat):Int)-1))).toNat)<e.length then (if 0<=(wr .i64 (((b:Nat):Int)-2))/\(wr .i64 (((b:Nat):Int)-2))<(((((wr .i64 ((wr .i64 (d+((b:Nat):Int)))+1))).toNat-(d).toNat):Nat):Int) then (if ((d).toNat+((wr .i64 (((b:Nat):Int)-2))).toNat)<e.length then (if 0<=(wr .i64 (((b:Nat):Int)-1))/\(wr .i64 (((b:Nat):Int)-1))<((b:Nat):Int) then (if (a+((wr .i64 (((b:Nat):Int)-1))).toNat)<c.length then (bif (decide ((e.getD ((d).toNat+(((b:Nat):Int)).toNat) 0)>=(c.getD (a+((wr .i64 (((b:Nat):Int)-1))).toNat) 0))) then ((z67.l0b3 (d).toNat (((wr .i64 ((wr .i64 (d+((b:Nat):Int)))+1))).toNat-(d).toNat) 18446744073709551615 a b ((b:Nat):Int) c ((0:Int),(0:Int),(0:Int),e)).bind λh=>(if 0<=((b:Nat):Int)/\((b:Nat):Int)<(((((wr .i64 ((wr .i64 (d+((b:Nat):Int)))+1))).toNat-(d).toNat):Nat):Int) then (if ((d).toNat+(((b:Nat):Int)).toNat)<h.2.2.2.length then ((z1.F (h.2.2.2.getD ((d).toNat+(((b:Nat):Int)).toNat) 0) h.1 h.2.1).bind λj=>(if 0<=((b:Nat):Int)/\((b:Nat):Int)<(((((wr .i64 ((wr .i64 (d+((b:Nat):Int)))+1))).toNat-(d).toNat):Nat):Int) then (if ((d).toNat+(((b:Nat):Int)).toNat)<h.2.2.2.length then ((z67.l2 a b (d).toNat (((wr .i64 ((wr .i64 (d+((b:Nat):Int)))+1))).toNat-(d).toNat) c ((18446744073709551615:Int),j.2,(h.2.2.2.set ((d).toNat+(((b:Nat):Int)).toNat) j.1))).bind λk=>(if 0<=d/\d<(g.length:Int) then (if (d).toNat<g.length then (rec ((wr .i64 (d-1)),k.2.2,(g.set (d).toNat k.1))) else none) else none)) else none) else none)) else none) else none)) else (if 0<=(wr .i64 (((b:Nat):Int)-1))/\(wr .i64 (((b:Nat):Int)-1))<((b:Nat):Int) then (if (a+((wr .i64 (((b:Nat):Int)-1))).toNat)<c.length then ((z63.F (e.getD ((d).toNat+(((b:Nat):Int)).toNat) 0) (e.getD ((d).toNat+((wr .i64 (((b:Nat):Int)-1))).toNat) 0) (c.getD (a+((wr .i64 (((b:Nat):Int)-1))).toNat) 0)).bind λm=>(if 0<=(wr .i64 (((b:Nat):Int)-2))/\(wr .i64 (((b:Nat):Int)-2))<((b:Nat):Int) then (if (a+((wr .i64 (((b:Nat):Int)-2))).toNat)<c.length then ((z39.F m.1 (c.getD (a+((wr .i64 (((b:Nat):Int)-2))).toNat) 0)).bind λn=>(bif (decide (n.1<m.2)) then ((z67.l0b3 (d).toNat (((wr .i64 ((wr .i64 (d+((b:Nat):Int)))+1))).toNat-(d).toNat) m.1 a b ((b:Nat):Int) c ((0:Int),(0:Int),(0:Int),e)).bind λo=>(if 0<=((b:Nat):Int)/\((b:Nat):Int)<(((((wr .i64 ((wr .i64 (d+((b:Nat):Int)))+1))).toNat-(d).toNat):Nat):Int) then (if ((d).toNat+(((b:Nat):Int)).toNat)<o.2.2.2.length then ((z1.F (o.2.2.2.getD ((d).toNat+(((b:Nat):Int)).toNat) 0) o.1 o.2.1).bind λp=>(if 0<=((b:Nat):Int)/\((b:Nat):Int)<(((((wr .i64 ((wr .i64 (d+((b:Nat):Int)))+1))).toNat-(d).toNat):Nat):Int) then (if ((d).toNat+(((b:Nat):Int)).toNat)<o.2.2.2.length then ((z67.l2 a b (d).toNat (((wr .i64 ((wr .i64 (d+((b:Nat):Int)))+1))).toNat-(d).toNat) c (m.1,p.2,(o.2.2.2.set ((d).toNat+(((b:Nat):Int)).toNat) p.1))).bind λq=>(if 0<=d/\d<(g.length:Int) then (if (d).toNat<g.length then (rec ((wr .i64 (d-1)),q.2.2,(g.set (d).toNat q.1))) else none) else none)) else none) else none)) else none) else none)) else (bif (decide (n.1=m.2)) then (bif (decide (n.2<=(e.getD ((d).toNat+((wr .i64 (((b:Nat):Int)-2))).toNat) 0))) then ((z67.l0b3 (d).toNat (((wr .i64 ((wr .i64 (d+((b:Nat):Int)))+1))).toNat-(d).toNat) m.1 a b ((b:Nat):Int) c ((0:Int),(0:Int),(0:Int),e)).bind λr=>(if 0<=((b:Nat):Int)/\((b:Nat):Int)<(((((wr .i64 ((wr .i64 (d+((b:Nat):Int)))+1))).toNat-(d).toNat):Nat):Int) then (if ((d).toNat+(((b:Nat):Int)).toNat)<r.2.2.2.length then ((z1.F (r.2.2.2.getD ((d).toNat+(((b:Nat):Int)).toNat) 0) r.1 r.2.1).bind λs=>(if 0<=((b:Nat):Int)/\((b:Nat):Int)<(((((wr .i64 ((wr .i64 (d+((b:Nat):Int)))+1))).toNat-(d).toNat):Nat):Int) then (if ((d).toNat+(((b:Nat):Int)).toNat)<r.2.2.2.length then ((z67.l2 a b (d).toNat (((wr .i64 ((wr .i64 (d+((b:Nat):Int)))+1))).toNat-(d).toNat) c (m.1,s.2,(r.2.2.2.set ((d).toNat+(((b:Nat):Int)).toNat) s.1))).bind λt=>(if 0<=d/\d<(g.length:Int) then (if (d).toNat<g.length then (rec ((wr .i64 (d-1)),t.2.2,(g.set (d).toNat t.1))) else none) else none)) else none) else none)) else none) else none)) else (if 0<=(wr .i64 (((b:Nat):Int)-1))/\(wr .i64 (((b:Nat):Int)-1))<((b:Nat):Int) then (if (a+((wr .i64 (((b:Nat):Int)-1))).toNat)<c.length then ((z0.F m.2 (c.getD (a+((wr .i64 (((b:Nat):Int)-1))).toNat) 0) 0).bind λu=>(bif (decide (u.2=0)) then (if 0<=(wr .i64 (((b:Nat):Int)-2))/\(wr .i64 (((b:Nat):Int)-2))<((b:Nat):Int) then (if (a+((wr .i64 (((b:Nat):Int)-2))).toNat)<c.length then ((z39.F (wr .u64 (m.1-1)) (c.getD (a+((wr .i64 (((b:Nat):Int)-2))).toNat) 0)).bind λv=>(bif (decide (v.1<u.1)) then ((z67.l0b3 (d).toNat (((wr .i64 ((wr .i64 (d+((b:Nat):Int)))+1))).toNat-(d).toNat) (wr .u64 (m.1-1)) a b ((b:Nat):Int) c ((0:Int),(0:Int),(0:Int),e)).bind λw=>(if 0<=((b:Nat):Int)/\((b:Nat):Int)<(((((wr .i64 ((wr .i64 (d+((b:Nat):Int)))+1))).toNat-(d).toNat):Nat):Int) then (if ((d).toNat+(((b:Nat):Int)).toNat)<w.2.2.2.length then ((z1.F (w.2.2.2.getD ((d).toNat+(((b:Nat):Int)).toNat) 0) w.1 w.2.1).bind λy=>(if 0<=((b:Nat):Int)/\((b:Nat):Int)<(((((wr .i64 ((wr .i64 (d+((b:Nat):Int)))+1))).toNat-(d).toNat):Nat):Int) then (if ((d).toNat+(((b:Nat):Int)).toNat)<w.2.2.2.length then ((z67.l2 a b (d).toNat (((wr .i64 ((wr .i64 (d+((b:Nat):Int)))+1))).toNat-(d).toNat) c ((wr .u64 (m.1-1)),y.2,(w.2.2.2.set ((d).toNat+(((b:Nat):Int)).toNat) y.1))).bind λz=>(if 0<=d/\d<(g.length:Int) then (if (d).toNat<g.length then (rec ((wr .i64 (d-1)),z.2.2,(g.set (d).toNat z.1))) else none) else none)) else none) else none)) else none) else none)) else (bif (decide (v.1=u.1)) then (bif (decide (v.2<=(e.getD ((d).toNat+((wr .i64 (((b:Nat):Int)-2))).toNat) 0))) then ((z67.l0b3 (d).toNat (((wr .i64 ((wr .i64 (d+((b:Nat):Int)))+1))).toNat-(d).toNat) (wr .u64 (m.1-1)) a b ((b:Nat):Int) c ((0:Int),(0:Int),(0:Int),e)).bind λA=>(if 0<=((b:Nat):Int)/\((b:Nat):Int)<(((((wr .i64 ((wr .i64 (d+((b:Nat):Int)))+1))).toNat-(d).toNat):Nat):Int) then (if ((d).toNat+(((b:Nat):Int)).toNat)<A.2.2.2.length then ((z1.F (A.2.2.2.getD ((d).toNat+(((b:Nat):Int)).toNat) 0) A.1 A.2.1).bind λB=>(if 0<=((b:Nat):Int)/\((b:Nat):Int)<(((((wr .i64 ((wr .i64 (d+((b:Nat):Int)))+1))).toNat-(d).toNat):Nat):Int) then (if ((d).toNat+(((b:Nat):Int)).toNat)<A.2.2.2.length then ((z67.l2 a b (d).toNat (((wr .i64 ((wr .i64 (d+((b:Nat):Int)))+1))).toNat-(d).toNat) c ((wr .u64 (m.1-1)),B.2,(A.2.2.2.set ((d).toNat+(((b:Nat):Int)).toNat) B.1))).bind λC=>(if 0<=d/\d<(g.length:Int) then (if (d).toNat<g.length then (rec ((wr .i64 (d-1)),C.2.2,(g.set (d).toNat C.1))) else none) else none)) else none) else none)) else none) else none)) else (if 0<=(wr .i64 (((b:Nat):Int)-1))/\(wr .i64 (((b:Nat):Int)-1))<((b:Nat):Int) then (if (a+((wr .i64 (((b:Nat):Int)-1))).toNat)<c.length then ((z0.F u.1 (c.getD (a+((wr .i64 (((b:Nat):Int)-1))).toNat) 0) 0).bind λD=>(bif (decide (D.2=0)) then (if 0<=(wr .i64 (((b:Nat):Int)-2))/\(wr .i64 (((b:Nat):Int)-2))<((b:Nat):Int) then (if (a+((wr .i64 (((b:Nat):Int)-2))).toNat)<c.length then ((z39.F (wr .u64 ((wr .u64 (m.1-1))-1)) (c.getD (a+((wr .i64 (((b:Nat):Int)-2))).toNat) 0)).bind λE=>(bif (decide (E.1<D.1)) then ((z67.l0b3 (d).toNat (((wr .i64 ((wr .i64 (d+((b:Nat):Int)))+1))).toNat-(d).toNat) (wr .u64 ((wr .u64 (m.1-1))-1)) a b ((b:Nat):Int) c ((0:Int),(0:Int),(0:Int),e)).bind λG=>(if 0<=((b:Nat):Int)/\((b:Nat):Int)<(((((wr .i64 ((wr .i64 (d+((b:Nat):Int)))+1))).toNat-(d).toNat):Nat):Int) then (if ((d).toNat+(((b:Nat):Int)).toNat)<G.2.2.2.length then ((z1.F (G.2.2.2.getD ((d).toNat+(((b:Nat):Int)).toNat) 0) G.1 G.2.1).bind λH=>(if 0<=((b:Nat):Int)/\((b:Nat):Int)<(((((wr .i64 ((wr .i64 (d+((b:Nat):Int)))+1))).toNat-(d).toNat):Nat):Int) then (if ((d).toNat+(((b:Nat):Int)).toNat)<G.2.2.2.length then ((z67.l2 a b (d).toNat (((wr .i64 ((wr .i64 (d+((b:Nat):Int)))+1))).toNat-(d).toNat) c ((wr .u64 ((wr .u64 (m.1-1))-1)),H.2,(G.2.2.2.set ((d).toNat+(((b:Nat):Int)).toNat) H.1))).bind λI=>(if 0<=d/\d<(g.length:Int) then (if (d).toNat<g.length then (rec ((wr .i64 (d-1)),I.2.2,(g.set (d).toNat I.1))) else none) else none)) else none) else none)) else none) else none)) else (bif (decide (E.1=D.1)) then (bif (decide (E.2<=(e.getD ((d).toNat+((wr .i64 (((b:Nat):Int)-2))).toNat) 0))) then ((z67.l0b3 (d).toNat (((wr .i64 ((wr .i64 (d+((b:Nat):Int)))+1))).toNat-(d).toNat) (wr .u64 ((wr .u64 (m.1-1))-1)) a b ((b:Nat):Int) c ((0:Int),(0:Int),(0:Int),e)).bind λJ=>(if 0<=((b:Nat):Int)/\((b:Nat):Int)<(((((wr .i64 ((wr .i64 (d+((b:Nat):Int)))+1))).toNat-(d).toNat):Nat):Int) then (if ((d).toNat+(((b:Nat):Int)).toNat)<J.2.2.2.length then ((z1.F (J.2.2.2.getD ((d).toNat+(((b:Nat):Int)).toNat) 0) J.1 J.2.1).bind λK=>(if 0<=((b:Nat):Int)/\((b:Nat):Int)<(((((wr .i64 ((wr .i64 (d+((b:Nat):Int)))+1))).toNat-(d).toNat):Nat):Int) then (if ((d).toNat+(((b:Nat):Int)).toNat)<J.2.2.2.length then ((z67.l2 a b (d).toNat (((wr .i64 ((wr .i64 (d+((b:Nat):Int)))+1))).toNat-(d).toNat) c ((wr .u64 ((wr .u64 (m.1-1))-1)),K.2,(J.2.2.2.set ((d).toNat+(((b:Nat):Int)).toNat) K.1))).bind λL=>(if 0<=d/\d<(g.length:Int) then (if (d).toNat<g.length then (rec ((wr .i64 (d-1)),L.2.2,(g.set (d).toNat L.1))) else none) else none)) else none) else none)) else none) else none)) else (if 0<=(wr .i64 (((b:Nat):Int)-1))/\(wr .i64 (((b:Nat):Int)-1))<((b:Nat):Int) then (if (a+((wr .i64 (((b:Nat):Int)-1))).toNat)<c.length then ((z0.F D.1 (c.getD (a+((wr .i64 (((b:Nat):Int)-1))).toNat) 0) 0).bind λM=>(bif (decide (M.2=0)) then none else ((z67.l0b3 (d).toNat (((wr .i64 ((wr .i64 (d+((b:Nat):Int)))+1))).toNat-(d).toNat) (wr .u64 ((wr .u64 ((wr .u64 (m.1-1))-1))-1)) a b ((b:Nat):Int) c ((0:Int),(0:Int),(0:Int),e)).bind λN=>(if 0<=((b:Nat):Int)/\((b:Nat):Int)<(((((wr .i64 ((wr .i64 (d+((b:Nat):Int)))+1))).toNat-(d).toNat):Nat):Int) then (if ((d).toNat+(((b:Nat):Int)).toNat)<N.2.2.2.length then ((z1.F (N.2.2.2.getD ((d).toNat+(((b:Nat):Int)).toNat) 0) N.1 N.2.1).bind λO=>(if 0<=((b:Nat):Int)/\((b:Nat):Int)<(((((wr .i64 ((wr .i64 (d+((b:Nat):Int)))+1))).toNat-(d).toNat):Nat):Int) then (if ((d).toNat+(((b:Nat):Int)).toNat)<N.2.2.2.length then ((z67.l2 a b (d).toNat (((wr .i64 ((wr .i64 (d+((b:Nat):Int)))+1))).toNat-(d).toNat) c ((wr .u64 ((wr .u64 ((wr .u64 (m.1-1))-1))-1)),O.2,(N.2.2.2.set ((d).toNat+(((b:Nat):Int)).toNat) O.1))).bind λP=>(if 0<=d/\d<(g.length:Int) then (if (d).toNat<g.length then (rec ((wr .i64 (d-1)),P.2.2,(g.set (d).toNat P.1))) else none) else none)) else none) else none)) else none) else none)))) else none) else none)) else (if 0<=(wr .i64 (((b:Nat):Int)-1))/\(wr .i64 (((b:Nat):Int)-1))<((b:Nat):Int) then (if (a+((wr .i64 (((b:Nat):Int)-1))).toNat)<c.length then ((z0.F D.1 (c.getD (a+((wr .i64 (((b:Nat):Int)-1))).toNat) 0) 0).bind λQ=>(bif (decide (Q.2=0)) then none else ((z67.l0b3 (d).toNat (((wr .i64 ((wr .i64 (d+((b:Nat):Int)))+1))).toNat-(d).toNat) (wr .u64 ((wr .u64 ((wr .u64 (m.1-1))-1))-1)) a b ((b:Nat):Int) c ((0:Int),(0:Int),(0:Int),e)).bind λS=>(if 0<=((b:Nat):Int)/\((b:Nat):Int)<(((((wr .i64 ((wr .i64 (d+((b:Nat):Int)))+1))).toNat-(d).toNat):Nat):Int) then (if ((d).toNat+(((b:Nat):Int)).toNat)<S.2.2.2.length then ((z1.F (S.2.2.2.getD ((d).toNat+(((b:Nat):Int)).toNat) 0) S.1 S.2.1).bind λU=>(if 0<=((b:Nat):Int)/\((b:Nat):Int)<(((((wr .i64 ((wr .i64 (d+((b:Nat):Int)))+1))).toNat-(d).toNat):Nat):Int) then (if ((d).toNat+(((b:Nat):Int)).toNat)<S.2.2.2.length then ((z67.l2 a b (d).toNat (((wr .i64 ((wr .i64 (d+((b:Nat):Int)))+1))).toNat-(d).toNat) c ((wr .u64 ((wr .u64 ((wr .u64 (m.1-1))-1))-1)),U.2,(S.2.2.2.set ((d).toNat+(((b:Nat):Int)).toNat) U.1))).bind λW=>(if 0<=d/\d<(g.length:Int) then (if (d).toNat<g.length then (rec ((wr .i64 (d-1)),W.2.2,(g.set (d).toNat W.1))) else none) else none)) else none) else none)) else none) else none)))) else none) else none)))) else none) else none) else ((z67.l0b3 (d).toNat (((wr .i64 ((wr .i64 (d+((b:Nat):Int)))+1))).toNat-(d).toNat) (wr .u64 ((wr .u64 (m.1-1))-1)) a b ((b:Nat):Int) c ((0:Int),(0:Int),(0:Int),e)).bind λY=>(if 0<=((b:Nat):Int)/\((b:Nat):Int)<(((((wr .i64 ((wr .i64 (d+((b:Nat):Int)))+1))).toNat-(d).toNat):Nat):Int) then (if ((d).toNat+(((b:Nat):Int)).toNat)<Y.2.2.2.length then ((z1.F (Y.2.2.2.getD ((d).toNat+(((b:Nat):Int)).toNat) 0) Y.1 Y.2.1).bind λZ=>(if 0<=((b:Nat):Int)/\((b:Nat):Int)<(((((wr .i64 ((wr .i64 (d+((b:Nat):Int)))+1))).toNat-(d).toNat):Nat):Int) then (if ((d).toNat+(((b:Nat):Int)).toNat)<Y.2.2.2.length then ((z67.l2 a b (d).toNat (((wr .i64 ((wr .i64 (d+((b:Nat):Int)))+1))).toNat-(d).toNat) c ((wr .u64 ((wr .u64 (m.1-1))-1)),Z.2,(Y.2.2.2.set ((d).toNat+(((b:Nat):Int)).toNat) Z.1))).bind λa0=>(if 0<=d/\d<(g.length:Int) then (if (d).toNat<g.length then (rec ((wr .i64 (d-1)),a0.2.2,(g.set (d).toNat a0.1))) else none) else none)) else none) else none)) else none) else none)))) else none) else none)) else (if 0<=(wr .i64 (((b:Nat):Int)-1))/\(wr .i64 (((b:Nat):Int)-1))<((b:Nat):Int) then (if (a+((wr .i64 (((b:Nat):Int)-1))).toNat)<c.length then ((z0.F u.1 (c.getD (a+((wr .i64 (((b:Nat):Int)-1))).toNat) 0) 0).bind λa1=>(bif (decide (a1.2=0)) then (if 0<=(wr .i64 (((b:Nat):Int)-2))/\(wr .i64 (((b:Nat):Int)-2))<((b:Nat):Int) then (if (a+((wr .i64 (((b:Nat):Int)-2))).toNat)<c.length then ((z39.F (wr .u64 ((wr .u64 (m.1-1))-1)) (c.getD (a+((wr .i64 (((b:Nat):Int)-2))).toNat) 0)).bind λa2=>(bif (decide (a2.1<a1.1)) then ((z67.l0b3 (d).toNat (((wr .i64 ((wr .i64 (d+((b:Nat):Int)))+1))).toNat-(d).toNat) (wr .u64 ((wr .u64 (m.1-1))-1)) a b ((b:Nat):Int) c ((0:Int),(0:Int),(0:Int),e)).bind λa3=>(if 0<=((b:Nat):Int)/\((b:Nat):Int)<(((((wr .i64 ((wr .i64 (d+((b:Nat):Int)))+1))).toNat-(d).toNat):Nat):Int) then (if ((d).toNat+(((b:Nat):Int)).toNat)<a3.2.2.2.length then ((z1.F (a3.2.2.2.getD ((d).toNat+(((b:Nat):Int)).toNat) 0) a3.1 a3.2.1).bind λa4=>(if 0<=((b:Nat):Int)/\((b:Nat):Int)<(((((wr .i64 ((wr .i64 (d+((b:Nat):Int)))+1))).toNat-(d).toNat):Nat):Int) then (if ((d).toNat+(((b:Nat):Int)).toNat)<a3.2.2.2.length then ((z67.l2 a b (d).toNat (((wr .i64 ((wr .i64 (d+((b:Nat):Int)))+1))).toNat-(d).toNat) c ((wr .u64 ((wr .u64 (m.1-1))-1)),a4.2,(a3.2.2.2.set ((d).toNat+(((b:Nat):Int)).toNat) a4.1))).bind λa5=>(if 0<=d/\d<(g.length:Int) then (if (d).toNat<g.length then (rec ((wr .i64 (d-1)),a5.2.2,(g.set (d).toNat a5.1))) else none) else none)) else none) else none)) else none) else none)) else (bif (decide (a2.1=a1.1)) then (bif (decide (a2.2<=(e.getD ((d).toNat+((wr .i64 (((b:Nat):Int)-2))).toNat) 0))) then ((z67.l0b3 (d).toNat (((wr .i64 ((wr .i64 (d+((b:Nat):Int)))+1))).toNat-(d).toNat) (wr .u64 ((wr .u64 (m.1-1))-1)) a b ((b:Nat):Int) c ((0:Int),(0:Int),(0:Int),e)).bind λa6=>(if 0<=((b:Nat):Int)/\((b:Nat):Int)<(((((wr .i64 ((wr .i64 (d+((b:Nat):Int)))+1))).toNat-(d).toNat):Nat):Int) then (if ((d).toNat+(((b:Nat):Int)).toNat)<a6.2.2.2.length then ((z1.F (a6.2.2.2.getD ((d).toNat+(((b:Nat):Int)).toNat) 0) a6.1 a6.2.1).bind λa7=>(if 0<=((b:Nat):Int)/\((b:Nat):Int)<(((((wr .i64 ((wr .i64 (d+((b:Nat):Int)))+1))).toNat-(d).toNat):Nat):Int) then (if ((d).toNat+(((b:Nat):Int)).toNat)<a6.2.2.2.length then ((z67.l2 a b (d).toNat (((wr .i64 ((wr .i64 (d+((b:Nat):Int)))+1))).toNat-(d).toNat) c ((wr .u64 ((wr .u64 (m.1-1))-1)),a7.2,(a6.2.2.2.set ((d).toNat+(((b:Nat):Int)).toNat) a7.1))).bind λa8=>(if 0<=d/\d<(g.length:Int) then (if (d).toNat<g.length then (rec ((wr .i64 (d-1)),a8.2.2,(g.set (d).toNat a8.1))) else none) else none)) else none) else none)) else none) else none)) else (if 0<=(wr .i64 (((b:Nat):Int)-1))/\(wr .i64 (((b:Nat):Int)-1))<((b:Nat):Int) then (if (a+((wr .i64 (((b:Nat):Int)-1))).toNat)<c.length then ((z0.F a1.1 (c.getD (a+((wr .i64 (((b:Nat):Int)-1))).toNat) 0) 0).bind λa9=>(bif (decide (a9.2=0)) then none else ((z67.l0b3 (d).toNat (((wr .i64 ((wr .i64 (d+((b:Nat):Int)))+1))).toNat-(d).toNat) (wr .u64 ((wr .u64 ((wr .u64 (m.1-1))-1))-1)) a b ((b:Nat):Int) c ((0:Int),(0:Int),(0:Int),e)).bind λb0=>(if 0<=((b:Nat):Int)/\((b:Nat):Int)<(((((wr .i64 ((wr .i64 (d+((b:Nat):Int)))+1))).toNat-(d).toNat):Nat):Int) then (if ((d).toNat+(((b:Nat):Int)).toNat)<b0.2.2.2.length then ((z1.F (b0.2.2.2.getD ((d).toNat+(((b:Nat):Int)).toNat) 0) b0.1 b0.2.1).bind λb1=>(if 0<=((b:Nat):Int)/\((b:Nat):Int)<(((((wr .i64 ((wr .i64 (d+((b:Nat):Int)))+1))).toNat-(d).toNat):Nat):Int) then (if ((d).toNat+(((b:Nat):Int)).toNat)<b0.2.2.2.length then ((z67.l2 a b (d).toNat (((wr .i64 ((wr .i64 (d+((b:Nat):Int)))+1))).toNat-(d).toNat) c ((wr .u64 ((wr .u64 ((wr .u64 (m.1-1))-1))-1)),b1.2,(b0.2.2.2.set ((d).toNat+(((b:Nat):Int)).toNat) b1.1))).bind λb2=>(if 0<=d/\d<(g.length:Int) then (if (d).toNat<g.length then (rec ((wr .i64 (d-1)),b2.2.2,(g.set (d).toNat b2.1))) else none) else none)) else none) else none)) else none) else none)))) else none) else none)) else (if 0<=(wr .i64 (((b:Nat):Int)-1))/\(wr .i64 (((b:Nat):Int)-1))<((b:Nat):Int) then (if (a+((wr .i64 (((b:Nat):Int)-1))).toNat)<c.length then ((z0.F a1.1 (c.getD (a+((wr .i64 (((b:Nat):Int)-1))).toNat) 0) 0).bind λb3=>(bif (decide (b3.2=0)) then none else ((z67.l0b3 (d).toNat (((wr .i64 ((wr .i64 (d+((b:Nat):Int)))+1))).toNat-(d).toNat) (wr .u64 ((wr .u64 ((wr .u64 (m.1-1))-1))-1)) a b ((b:Nat):Int) c ((0:Int),(0:Int),(0:Int),e)).bind λb4=>(if 0<=((b:Nat):Int)/\((b:Nat):Int)<(((((wr .i64 ((wr .i64 (d+((b:Nat):Int)))+1))).toNat-(d).toNat):Nat):Int) then (if ((d).toNat+(((b:Nat):Int)).toNat)<b4.2.2.2.length then ((z1.F (b4.2.2.2.getD ((d).toNat+(((b:Nat):Int)).toNat) 0) b4.1 b4.2.1).bind λb5=>(if 0<=((b:Nat):Int)/\((b:Nat):Int)<(((((wr .i64 ((wr .i64 (d+((b:Nat):Int)))+1))).toNat-(d).toNat):Nat):Int) then (if ((d).toNat+(((b:Nat):Int)).toNat)<b4.2.2.2.length then ((z67.l2 a b (d).toNat (((wr .i64 ((wr .i64 (d+((b:Nat):Int)))+1))).toNat-(d).toNat) c ((wr .u64 ((wr .u64 ((wr .u64 (m.1-1))-1))-1)),b5.2,(b4.2.2.2.set ((d).toNat+(((b:Nat):Int)).toNat) b5.1))).bind λb6=>(if 0<=d/\d<(g.length:Int) then (if (d).toNat<g.length then (rec ((wr .i64 (d-1)),b6.2.2,(g.set (d).toNat b6.1))) else none) else none)) else none) else none)) else none) else none)))) else none) else none)))) else none) else none) else ((z67.l0b3 (d).toNat (((wr .i64 ((wr .i64 (d+((b:Nat):Int)))+1))).toNat-(d).toNat) (wr .u64 ((wr .u64 (m.1-1))-1)) a b ((b:Nat):Int) c ((0:Int),(0:Int),(0:Int),e)).bind λb7=>(if 0<=((b:Nat):Int)/\((b:Nat):Int)<(((((wr .i64 ((wr .i64 (d+((b:Nat):Int)))+1))).toNat-(d).toNat):Nat):Int) then (if ((d).toNat+(((b:Nat):Int)).toNat)<b7.2.2.2.length then ((z1.F (b7.2.2.2.getD ((d).toNat+(((b:Nat):Int)).toNat) 0) b7.1 b7.2.1).bind λb8=>(if 0<=((b:Nat):Int)/\((b:Nat):Int)<(((((wr .i64 ((wr .i64 (d+((b:Nat):Int)))+1))).toNat-(d).toNat):Nat):Int) then (if ((d).toNat+(((b:Nat):Int)).toNat)<b7.2.2.2.length then ((z67.l2 a b (d).toNat (((wr .i64 ((wr .i64 (d+((b:Nat):Int)))+1))).toNat-(d).toNat) c ((wr .u64 ((wr .u64 (m.1-1))-1)),b8.2,(b7.2.2.2.set ((d).toNat+(((b:Nat):Int)).toNat) b8.1))).bind λb9=>(if 0<=d/\d<(g.length:Int) then (if (d).toNat<g.length then (rec ((wr .i64 (d-1)),b9.2.2,(g.set (d).toNat b9.1))) else none) else none)) else none) else none)) else none) else none)))) else none) else none)))) else none) else none) else ((z67.l0b3 (d).toNat (((wr .i64 ((wr .i64 (d+((b:Nat):Int)))+1))).toNat-(d).toNat) (wr .u64 (m.1-1)) a b ((b:Nat):Int) c ((0:Int),(0:Int),(0:Int),e)).bind λc0=>(if 0<=((b:Nat):Int)/\((b:Nat):Int)<(((((wr .i64 ((wr .i64 (d+((b:Nat):Int)))+1))).toNat-(d).toNat):Nat):Int) then (if ((d).toNat+(((b:Nat):Int)).toNat)<c0.2.2.2.length then ((z1.F (c0.2.2.2.getD ((d).toNat+(((b:Nat):Int)).toNat) 0) c0.1 c0.2.1).bind λc1=>(if 0<=((b:Nat):Int)/\((b:Nat):Int)<(((((wr .i64 ((wr .i64 (d+((b:Nat):Int)))+1))).toNat-(d).toNat):Nat):Int) then (if ((d).toNat+(((b:Nat):Int)).toNat)<c0.2.2.2.length then ((z67.l2 a b (d).toNat (((wr .i64 ((wr .i64 (d+((b:Nat):Int)))+1))).toNat-(d).toNat) c ((wr .u64 (m.1-1)),c1.2,(c0.2.2.2.set ((d).toNat+(((b:Nat):Int)).toNat) c1.1))).bind λc2=>(if 0<=d/\d<(g.length:Int) then (if (d).toNat<g.length then (rec ((wr .i64 (d-1)),c2.2.2,(g.set (d).toNat c2.1))) else none) else none)) else none) else none)) else none) else none)))) else none) else none)) else (if 0<=(wr .i64 (((b:Nat):Int)-1))/\(wr .i64 (((b:Nat):Int)-1))<((b:Nat):Int) then (if (a+((wr .i64 (((b:Nat):Int)-1))).toNat)<c.length then ((z0.F m.2 (c.getD (a+((wr .i64 (((b:Nat):Int)-1))).toNat) 0) 0).bind λc3=>(bif (decide (c3.2=0)) then (if 0<=(wr .i64 (((b:Nat):Int)-2))/\(wr .i64 (((b:Nat):Int)-2))<((b:Nat):Int) then (if (a+((wr .i64 (((b:Nat):Int)-2))).toNat)<c.length then ((z39.F (wr .u64 (m.1-1)) (c.getD (a+((wr .i64 (((b:Nat):Int)-2))).toNat) 0)).bind λc4=>(bif (decide (c4.1<c3.1)) then ((z67.l0b3 (d).toNat (((wr .i64 ((wr .i64 (d+((b:Nat):Int)))+1))).toNat-(d).toNat) (wr .u64 (m.1-1)) a b ((b:Nat):Int) c ((0:Int),(0:Int),(0:Int),e)).bind λc5=>(if 0<=((b:Nat):Int)/\((b:Nat):Int)<(((((wr .i64 ((wr .i64 (d+((b:Nat):Int)))+1))).toNat-(d).toNat):Nat):Int) then (if ((d).toNat+(((b:Nat):Int)).toNat)<c5.2.2.2.length then ((z1.F (c5.2.2.2.getD ((d).toNat+(((b:Nat):Int)).toNat) 0) c5.1 c5.2.1).bind λc6=>(if 0<=((b:Nat):Int)/\((b:Nat):Int)<(((((wr .i64 ((wr .i64 (d+((b:Nat):Int)))+1))).toNat-(d).toNat):Nat):Int) then (if ((d).toNat+(((b:Nat):Int)).toNat)<c5.2.2.2.length then ((z67.l2 a b (d).toNat (((wr .i64 ((wr .i64 (d+((b:Nat):Int)))+1))).toNat-(d).toNat) c ((wr .u64 (m.1-1)),c6.2,(c5.2.2.2.set ((d).toNat+(((b:Nat):Int)).toNat) c6.1))).bind λc7=>(if 0<=d/\d<(g.length:Int) then (if (d).toNat<g.length then (rec ((wr .i64 (d-1)),c7.2.2,(g.set (d).toNat c7.1))) else none) else none)) else none) else none)) else none) else none)) else (bif (decide (c4.1=c3.1)) then (bif (decide (c4.2<=(e.getD ((d).toNat+((wr .i64 (((b:Nat):Int)-2))).toNat) 0))) then ((z67.l0b3 (d).toNat (((wr .i64 ((wr .i64 (d+((b:Nat):Int)))+1))).toNat-(d).toNat) (wr .u64 (m.1-1)) a b ((b:Nat):Int) c ((0:Int),(0:Int),(0:Int),e)).bind λc8=>(if 0<=((b:Nat):Int)/\((b:Nat):Int)<(((((wr .i64 ((wr .i64 (d+((b:Nat):Int)))+1))).toNat-(d).toNat):Nat):Int) then (if ((d).toNat+(((b:Nat):Int)).toNat)<c8.2.2.2.length then ((z1.F (c8.2.2.2.getD ((d).toNat+(((b:Nat):Int)).toNat) 0) c8.1 c8.2.1).bind λc9=>(if 0<=((b:Nat):Int)/\((b:Nat):Int)<(((((wr .i64 ((wr .i64 (d+((b:Nat):Int)))+1))).toNat-(d).toNat):Nat):Int) then (if ((d).toNat+(((b:Nat):Int)).toNat)<c8.2.2.2.length then ((z67.l2 a b (d).toNat (((wr .i64 ((wr .i64 (d+((b:Nat):Int)))+1))).toNat-(d).toNat) c ((wr .u64 (m.1-1)),c9.2,(c8.2.2.2.set ((d).toNat+(((b:Nat):Int)).toNat) c9.1))).bind λd0=>(if 0<=d/\d<(g.length:Int) then (if (d).toNat<g.length then (rec ((wr .i64 (d-1)),d0.2.2,(g.set (d).toNat d0.1))) else none) else none)) else none) else none)) else none) else none)) else (if 0<=(wr .i64 (((b:Nat):Int)-1))/\(wr .i64 (((b:Nat):Int)-1))<((b:Nat):Int) then (if (a+((wr .i64 (((b:Nat):Int)-1))).toNat)<c.length then ((z0.F c3.1 (c.getD (a+((wr .i64 (((b:Nat):Int)-1))).toNat) 0) 0).bind λd1=>(bif (decide (d1.2=0)) then (if 0<=(wr .i64 (((b:Nat):Int)-2))/\(wr .i64 (((b:Nat):Int)-2))<((b:Nat):Int) then (if (a+((wr .i64 (((b:Nat):Int)-2))).toNat)<c.length then ((z39.F (wr .u64 ((wr .u64 (m.1-1))-1)) (c.getD (a+((wr .i64 (((b:Nat):Int)-2))).toNat) 0)).bind λd2=>(bif (decide (d2.1<d1.1)) then ((z67.l0b3 (d).toNat (((wr .i64 ((wr .i64 (d+((b:Nat):Int)))+1))).toNat-(d).toNat) (wr .u64 ((wr .u64 (m.1-1))-1)) a b ((b:Nat):Int) c ((0:Int),(0:Int),(0:Int),e)).bind λd3=>(if 0<=((b:Nat):Int)/\((b:Nat):Int)<(((((wr .i64 ((wr .i64 (d+((b:Nat):Int)))+1))).toNat-(d).toNat):Nat):Int) then (if ((d).toNat+(((b:Nat):Int)).toNat)<d3.2.2.2.length then ((z1.F (d3.2.2.2.getD ((d).toNat+(((b:Nat):Int)).toNat) 0) d3.1 d3.2.1).bind λd4=>(if 0<=((b:Nat):Int)/\((b:Nat):Int)<(((((wr .i64 ((wr .i64 (d+((b:Nat):Int)))+1))).toNat-(d).toNat):Nat):Int) then (if ((d).toNat+(((b:Nat):Int)).toNat)<d3.2.2.2.length then ((z67.l2 a b (d).toNat (((wr .i64 ((wr .i64 (d+((b:Nat):Int)))+1))).toNat-(d).toNat) c ((wr .u64 ((wr .u64 (m.1-1))-1)),d4.2,(d3.2.2.2.set ((d).toNat+(((b:Nat):Int)).toNat) d4.1))).bind λd5=>(if 0<=d/\d<(g.length:Int) then (if (d).toNat<g.length then (rec ((wr .i64 (d-1)),d5.2.2,(g.set (d).toNat d5.1))) else none) else none)) else none) else none)) else none) else none)) else (bif (decide (d2.1=d1.1)) then (bif (decide (d2.2<=(e.getD ((d).toNat+((wr .i64 (((b:Nat):Int)-2))).toNat) 0))) then ((z67.l0b3 (d).toNat (((wr .i64 ((wr .i64 (d+((b:Nat):Int)))+1))).toNat-(d).toNat) (wr .u64 ((wr .u64 (m.1-1))-1)) a b ((b:Nat):Int) c ((0:Int),(0:Int),(0:Int),e)).bind λd6=>(if 0<=((b:Nat):Int)/\((b:Nat):Int)<(((((wr .i64 ((wr .i64 (d+((b:Nat):Int)))+1))).toNat-(d).toNat):Nat):Int) then (if ((d).toNat+(((b:Nat):Int)).toNat)<d6.2.2.2.length then ((z1.F (d6.2.2.2.getD ((d).toNat+(((b:Nat):Int)).toNat) 0) d6.1 d6.2.1).bind λd7=>(if 0<=((b:Nat):Int)/\((b:Nat):Int)<(((((wr .i64 ((wr .i64 (d+((b:Nat):Int)))+1))).toNat-(d).toNat):Nat):Int) then (if ((d).toNat+(((b:Nat):Int)).toNat)<d6.2.2.2.length then ((z67.l2 a b (d).toNat (((wr .i64 ((wr .i64 (d+((b:Nat):Int)))+1))).toNat-(d).toNat) c ((wr .u64 ((wr .u64 (m.1-1))-1)),d7.2,(d6.2.2.2.set ((d).toNat+(((b:Nat):Int)).toNat) d7.1))).bind λd8=>(if 0<=d/\d<(g.length:Int) then (if (d).toNat<g.length then (rec ((wr .i64 (d-1)),d8.2.2,(g.set (d).toNat d8.1))) else none) else none)) else none) else none)) else none) else none)) else (if 0<=(wr .i64 (((b:Nat):Int)-1))/\(wr .i64 (((b:Nat):Int)-1))<((b:Nat):Int) then (if (a+((wr .i64 (((b:Nat):Int)-1))).toNat)<c.length then ((z0.F d1.1 (c.getD (a+((wr .i64 (((b:Nat):Int)-1))).toNat) 0) 0).bind λd9=>(bif (decide (d9.2=0)) then none else ((z67.l0b3 (d).toNat (((wr .i64 ((wr .i64 (d+((b:Nat):Int)))+1))).toNat-(d).toNat) (wr .u64 ((wr .u64 ((wr .u64 (m.1-1))-1))-1)) a b ((b:Nat):Int) c ((0:Int),(0:Int),(0:Int),e)).bind λe0=>(if 0<=((b:Nat):Int)/\((b:Nat):Int)<(((((wr .i64 ((wr .i64 (d+((b:Nat):Int)))+1))).toNat-(d).toNat):Nat):Int) then (if ((d).toNat+(((b:Nat):Int)).toNat)<e0.2.2.2.length then ((z1.F (e0.2.2.2.getD ((d).toNat+(((b:Nat):Int)).toNat) 0) e0.1 e0.2.1).bind λe1=>(if 0<=((b:Nat):Int)/\((b:Nat):Int)<(((((wr .i64 ((wr .i64 (d+((b:Nat):Int)))+1))).toNat-(d).toNat):Nat):Int) then (if ((d).toNat+(((b:Nat):Int)).toNat)<e0.2.2.2.length then ((z67.l2 a b (d).toNat (((wr .i64 ((wr .i64 (d+((b:Nat):Int)))+1))).toNat-(d).toNat) c ((wr .u64 ((wr .u64 ((wr .u64 (m.1-1))-1))-1)),e1.2,(e0.2.2.2.set ((d).toNat+(((b:Nat):Int)).toNat) e1.1))).bind λe2=>(if 0<=d/\d<(g.length:Int) then (if (d).toNat<g.length then (rec ((wr .i64 (d-1)),e2.2.2,(g.set (d).toNat e2.1))) else none) else none)) else none) else none)) else none) else none)))) else none) else none)) else (if 0<=(wr .i64 (((b:Nat):Int)-1))/\(wr .i64 (((b:Nat):Int)-1))<((b:Nat):Int) then (if (a+((wr .i64 (((b:Nat):Int)-1))).toNat)<c.length then ((z0.F d1.1 (c.getD (a+((wr .i64 (((b:Nat):Int)-1))).toNat) 0) 0).bind λe3=>(bif (decide (e3.2=0)) then none else ((z67.l0b3 (d).toNat (((wr .i64 ((wr .i64 (d+((b:Nat):Int)))+1))).toNat-(d).toNat) (wr .u64 ((wr .u64 ((wr .u64 (m.1-1))-1))-1)) a b ((b:Nat):Int) c ((0:Int),(0:Int),(0:Int),e)).bind λe4=>(if 0<=((b:Nat):Int)/\((b:Nat):Int)<(((((wr .i64 ((wr .i64 (d+((b:Nat):Int)))+1))).toNat-(d).toNat):Nat):Int) then (if ((d).toNat+(((b:Nat):Int)).toNat)<e4.2.2.2.length then ((z1.F (e4.2.2.2.getD ((d).toNat+(((b:Nat):Int)).toNat) 0) e4.1 e4.2.1).bind λe5=>(if 0<=((b:Nat):Int)/\((b:Nat):Int)<(((((wr .i64 ((wr .i64 (d+((b:Nat):Int)))+1))).toNat-(d).toNat):Nat):Int) then (if ((d).toNat+(((b:Nat):Int)).toNat)<e4.2.2.2.length then ((z67.l2 a b (d).toNat (((wr .i64 ((wr .i64 (d+((b:Nat):Int)))+1))).toNat-(d).toNat) c ((wr .u64 ((wr .u64 ((wr .u64 (m.1-1))-1))-1)),e5.2,(e4.2.2.2.set ((d).toNat+(((b:Nat):Int)).toNat) e5.1))).bind λe6=>(if 0<=d/\d<(g.length:Int) then (if (d).toNat<g.length then (rec ((wr .i64 (d-1)),e6.2.2,(g.set (d).toNat e6.1))) else none) else none)) else none) else none)) else none) else none)))) else none) else none)))) else none) else none) else ((z67.l0b3 (d).toNat (((wr .i64 ((wr .i64 (d+((b:Nat):Int)))+1))).toNat-(d).toNat) (wr .u64 ((wr .u64 (m.1-1))-1)) a b ((b:Nat):Int) c ((0:Int),(0:Int),(0:Int),e)).bind λe7=>(if 0<=((b:Nat):Int)/\((b:Nat):Int)<(((((wr .i64 ((wr .i64 (d+((b:Nat):Int)))+1))).toNat-(d).toNat):Nat):Int) then (if ((d).toNat+(((b:Nat):Int)).toNat)<e7.2.2.2.length then ((z1.F (e7.2.2.2.getD ((d).toNat+(((b:Nat):Int)).toNat) 0) e7.1 e7.2.1).bind λe8=>(if 0<=((b:Nat):Int)/\((b:Nat):Int)<(((((wr .i64 ((wr .i64 (d+((b:Nat):Int)))+1))).toNat-(d).toNat):Nat):Int) then (if ((d).toNat+(((b:Nat):Int)).toNat)<e7.2.2.2.length then ((z67.l2 a b (d).toNat (((wr .i64 ((wr .i64 (d+((b:Nat):Int)))+1))).toNat-(d).toNat) c ((wr .u64 ((wr .u64 (m.1-1))-1)),e8.2,(e7.2.2.2.set ((d).toNat+(((b:Nat):Int)).toNat) e8.1))).bind λe9=>(if 0<=d/\d<(g.length:Int) then (if (d).toNat<g.length then (rec ((wr .i64 (d-1)),e9.2.2,(g.set (d).toNat e9.1))) else none) else none)) else none) else none)) else none) else none)))) else none) else none)) else (if 0<=(wr .i64 (((b:Nat):Int)-1))/\(wr .i64 (((b:Nat):Int)-1))<((b:Nat):Int) then (if (a+((wr .i64 (((b:Nat):Int)-1))).toNat)<c.length then ((z0.F c3.1 (c.getD (a+((wr .i64 (((b:Nat):Int)-1))).toNat) 0) 0).bind λg0=>(bif (decide (g0.2=0)) then (if 0<=(wr .i64 (((b:Nat):Int)-2))/\(wr .i64 (((b:Nat):Int)-2))<((b:Nat):Int) then (if (a+((wr .i64 (((b:Nat):Int)-2))).toNat)<c.length then ((z39.F (wr .u64 ((wr .u64 (m.1-1))-1)) (c.getD (a+((wr .i64 (((b:Nat):Int)-2))).toNat) 0)).bind λg1=>(bif (decide (g1.1<g0.1)) then ((z67.l0b3 (d).toNat (((wr .i64 ((wr .i64 (d+((b:Nat):Int)))+1))).toNat-(d).toNat) (wr .u64 ((wr .u64 (m.1-1))-1)) a b ((b:Nat):Int) c ((0:Int),(0:Int),(0:Int),e)).bind λg2=>(if 0<=((b:Nat):Int)/\((b:Nat):Int)<(((((wr .i64 ((wr .i64 (d+((b:Nat):Int)))+1))).toNat-(d).toNat):Nat):Int) then (if ((d).toNat+(((b:Nat):Int)).toNat)<g2.2.2.2.length then ((z1.F (g2.2.2.2.getD ((d).toNat+(((b:Nat):Int)).toNat) 0) g2.1 g2.2.1).bind λg3=>(if 0<=((b:Nat):Int)/\((b:Nat):Int)<(((((wr .i64 ((wr .i64 (d+((b:Nat):Int)))+1))).toNat-(d).toNat):Nat):Int) then (if ((d).toNat+(((b:Nat):Int)).toNat)<g2.2.2.2.length then ((z67.l2 a b (d).toNat (((wr .i64 ((wr .i64 (d+((b:Nat):Int)))+1))).toNat-(d).toNat) c ((wr .u64 ((wr .u64 (m.1-1))-1)),g3.2,(g2.2.2.2.set ((d).toNat+(((b:Nat):Int)).toNat) g3.1))).bind λg4=>(if 0<=d/\d<(g.length:Int) then (if (d).toNat<g.length then (rec ((wr .i64 (d-1)),g4.2.2,(g.set (d).toNat g4.1))) else none) else none)) else none) else none)) else none) else none)) else (bif (decide (g1.1=g0.1)) then (bif (decide (g1.2<=(e.getD ((d).toNat+((wr .i64 (((b:Nat):Int)-2))).toNat) 0))) then ((z67.l0b3 (d).toNat (((wr .i64 ((wr .i64 (d+((b:Nat):Int)))+1))).toNat-(d).toNat) (wr .u64 ((wr .u64 (m.1-1))-1)) a b ((b:Nat):Int) c ((0:Int),(0:Int),(0:Int),e)).bind λg5=>(if 0<=((b:Nat):Int)/\((b:Nat):Int)<(((((wr .i64 ((wr .i64 (d+((b:Nat):Int)))+1))).toNat-(d).toNat):Nat):Int) then (if ((d).toNat+(((b:Nat):Int)).toNat)<g5.2.2.2.length then ((z1.F (g5.2.2.2.getD ((d).toNat+(((b:Nat):Int)).toNat) 0) g5.1 g5.2.1).bind λg6=>(if 0<=((b:Nat):Int)/\((b:Nat):Int)<(((((wr .i64 ((wr .i64 (d+((b:Nat):Int)))+1))).toNat-(d).toNat):Nat):Int) then (if ((d).toNat+(((b:Nat):Int)).toNat)<g5.2.2.2.length then ((z67.l2 a b (d).toNat (((wr .i64 ((wr .i64 (d+((b:Nat):Int)))+1))).toNat-(d).toNat) c ((wr .u64 ((wr .u64 (m.1-1))-1)),g6.2,(g5.2.2.2.set ((d).toNat+(((b:Nat):Int)).toNat) g6.1))).bind λg7=>(if 0<=d/\d<(g.length:Int) then (if (d).toNat<g.length then (rec ((wr .i64 (d-1)),g7.2.2,(g.set (d).toNat g7.1))) else none) else none)) else none) else none)) else none) else none)) else (if 0<=(wr .i64 (((b:Nat):Int)-1))/\(wr .i64 (((b:Nat):Int)-1))<((b:Nat):Int) then (if (a+((wr .i64 (((b:Nat):Int)-1))).toNat)<c.length then ((z0.F g0.1 (c.getD (a+((wr .i64 (((b:Nat):Int)-1))).toNat) 0) 0).bind λg8=>(bif (decide (g8.2=0)) then none else ((z67.l0b3 (d).toNat (((wr .i64 ((wr .i64 (d+((b:Nat):Int)))+1))).toNat-(d).toNat) (wr .u64 ((wr .u64 ((wr .u64 (m.1-1))-1))-1)) a b ((b:Nat):Int) c ((0:Int),(0:Int),(0:Int),e)).bind λg9=>(if 0<=((b:Nat):Int)/\((b:Nat):Int)<(((((wr .i64 ((wr .i64 (d+((b:Nat):Int)))+1))).toNat-(d).toNat):Nat):Int) then (if ((d).toNat+(((b:Nat):Int)).toNat)<g9.2.2.2.length then ((z1.F (g9.2.2.2.getD ((d).toNat+(((b:Nat):Int)).toNat) 0) g9.1 g9.2.1).bind λh0=>(if 0<=((b:Nat):Int)/\((b:Nat):Int)<(((((wr .i64 ((wr .i64 (d+((b:Nat):Int)))+1))).toNat-(d).toNat):Nat):Int) then (if ((d).toNat+(((b:Nat):Int)).toNat)<g9.2.2.2.length then ((z67.l2 a b (d).toNat (((wr .i64 ((wr .i64 (d+((b:Nat):Int)))+1))).toNat-(d).toNat) c ((wr .u64 ((wr .u64 ((wr .u64 (m.1-1))-1))-1)),h0.2,(g9.2.2.2.set ((d).toNat+(((b:Nat):Int)).toNat) h0.1))).bind λh1=>(if 0<=d/\d<(g.length:Int) then (if (d).toNat<g.length then (rec ((wr .i64 (d-1)),h1.2.2,(g.set (d).toNat h1.1))) else none) else none)) else none) else none)) else none) else none)))) else none) else none)) else (if 0<=(wr .i64 (((b:Nat):Int)-1))/\(wr .i64 (((b:Nat):Int)-1))<((b:Nat):Int) then (if (a+((wr .i64 (((b:Nat):Int)-1))).toNat)<c.length then ((z0.F g0.1 (c.getD (a+((wr .i64 (((b:Nat):Int)-1))).toNat) 0) 0).bind λh2=>(bif (decide (h2.2=0)) then none else ((z67.l0b3 (d).toNat (((wr .i64 ((wr .i64 (d+((b:Nat):Int)))+1))).toNat-(d).toNat) (wr .u64 ((wr .u64 ((wr .u64 (m.1-1))-1))-1)) a b ((b:Nat):Int) c ((0:Int),(0:Int),(0:Int),e)).bind λh3=>(if 0<=((b:Nat):Int)/\((b:Nat):Int)<(((((wr .i64 ((wr .i64 (d+((b:Nat):Int)))+1))).toNat-(d).toNat):Nat):Int) then (if ((d).toNat+(((b:Nat):Int)).toNat)<h3.2.2.2.length then ((z1.F (h3.2.2.2.getD ((d).toNat+(((b:Nat):Int)).toNat) 0) h3.1 h3.2.1).bind λh4=>(if 0<=((b:Nat):Int)/\((b:Nat):Int)<(((((wr .i64 ((wr .i64 (d+((b:Nat):Int)))+1))).toNat-(d).toNat):Nat):Int) then (if ((d).toNat+(((b:Nat):Int)).toNat)<h3.2.2.2.length then ((z67.l2 a b (d).toNat (((wr .i64 ((wr .i64 (d+((b:Nat):Int)))+1))).toNat-(d).toNat) c ((wr .u64 ((wr .u64 ((wr .u64 (m.1-1))-1))-1)),h4.2,(h3.2.2.2.set ((d).toNat+(((b:Nat):Int)).toNat) h4.1))).bind λh5=>(if 0<=d/\d<(g.length:Int) then (if (d).toNat<g.length then (rec ((wr .i64 (d-1)),h5.2.2,(g.set (d).toNat h5.1))) else none) else none)) else none) else none)) else none) else none)))) else none) else none)))) else none) else none) else ((z67.l0b3 (d).toNat (((wr .i64 ((wr .i64 (d+((b:Nat):Int)))+1))).toNat-(d).toNat) (wr .u64 ((wr .u64 (m.1-1))-1)) a b ((b:Nat):Int) c ((0:Int),(0:Int),(0:Int),e)).bind λh6=>(if 0<=((b:Nat):Int)/\((b:Nat):Int)<(((((wr .i64 ((wr .i64 (d+((b:Nat):Int)))+1))).toNat-(d).toNat):Nat):Int) then (if ((d).toNat+(((b:Nat):Int)).toNat)<h6.2.2.2.length then ((z1.F (h6.2.2.2.getD ((d).toNat+(((b:Nat):Int)).toNat) 0) h6.1 h6.2.1).bind λh7=>(if 0<=((b:Nat):Int)/\((b:Nat):Int)<(((((wr .i64 ((wr .i64 (d+((b:Nat):Int)))+1))).toNat-(d).toNat):Nat):Int) then (if ((d).toNat+(((b:Nat):Int)).toNat)<h6.2.2.2.length then ((z67.l2 a b (d).toNat (((wr .i64 ((wr .i64 (d+((b:Nat):Int)))+1))).toNat-(d).toNat) c ((wr .u64 ((wr .u64 (m.1-1))-1)),h7.2,(h6.2.2.2.set ((d).toNat+(((b:Nat):Int)).toNat) h7.1))).bind λh8=>(if 0<=d/\d<(g.length:Int) then (if (d).toNat<g.length then (rec ((wr .i64 (d-1)),h8.2.2,(g.set (d).toNat h8.1))) else none) else none)) else none) else none)) else none) else none)))) else none) else none)))) else none) else none) else ((z67.l0b3 (d).toNat (((wr .i64 ((wr .i64 (d+((b:Nat):Int)))+1))).toNat-(d).toNat) (wr .u64 (m.1-1)) a b ((b:Nat):Int) c ((0:Int),(0:Int),(0:Int),e)).bind λh9=>(if 0<=((b:Nat):Int)/\((b:Nat):Int)<(((((wr .i64 ((wr .i64 (d+((b:Nat):Int)))+1))).toNat-(d).toNat):Nat):Int) then (if ((d).toNat+(((b:Nat):Int)).toNat)<h9.2.2.2.length then ((z1.F (h9.2.2.2.getD ((d).toNat+(((b:Nat):Int)).toNat) 0) h9.1 h9.2.1).bind λj0=>(if 0<=((b:Nat):Int)/\((b:Nat):Int)<(((((wr .i64 ((wr .i64 (d+((b:Nat):Int)))+1))).toNat-(d).toNat):Nat):Int) then (if ((d).toNat+(((b:Nat):Int)).toNat)<h9.2.2.2.length then ((z67.l2 a b (d).toNat (((wr .i64 ((wr .i64 (d+((b:Nat):Int)))+1))).toNat-(d).toNat) c ((wr .u64 (m.1-1)),j0.2,(h9.2.2.2.set ((d).toNat+(((b:Nat):Int)).toNat) j0.1))).bind λj1=>(if 0<=d/\d<(g.length:Int) then (if (d).toNat<g.length then (rec ((wr .i64 (d-1)),j1.2.2,(g.set (d).toNat j1.1))) else none) else none)) else none) else none)) else none) else none)))) else none) else none)))) else none) else none)) else none) else none)) else none) else none) else none) else none) else none) else none) else none) else none) else none) else (done (d,e,g)))
def z67.l0aa (a b:Nat) (c:List Int) (x:(Int×(List Int)×(List Int))):Option ((Int×(List Int)×(List Int))):=lfp (λrec x=>z67.l0aaP a b c rec some x) x
def z67.F (a0 a1:List Int):Option ((List Int)×(List Int)):=
 (if 0<=(wr .i64 ((((a1).length:Nat):Int)-1))/\(wr .i64 ((((a1).length:Nat):Int)-1))<(a1.length:Int) then ((z62.F (a1.getD ((wr .i64 ((((a1).length:Nat):Int)-1))).toNat 0)).bind λr1=>(if 0<=(wr .i64 ((((a0).length:Nat):Int)+1))/\(wr .i64 ((((a0).length:Nat):Int)+1))*8<=140737488355328 then ((z67.l0 (wr .u64 r1) a0 (((a0).length:Nat):Int) ((0:Int),(List.replicate ((wr .i64 ((((a0).length:Nat):Int)+1))).toNat (0:Int)))).bind λo2=>(if 0<=(wr .i64 ((((a1).length:Nat):Int)+1))/\(wr .i64 ((((a1).length:Nat):Int)+1))*8<=140737488355328 then ((z67.l0a (wr .u64 r1) a1 (((a1).length:Nat):Int) ((0:Int),(List.replicate ((wr .i64 ((((a1).length:Nat):Int)+1))).toNat (0:Int)))).bind λo3=>(if 0<=(((a1).length:Nat):Int)/\(((a1).length:Nat):Int)<=((o3.2).length:Int) then (if 0<=(wr .i64 ((((o2.2).length:Nat):Int)-((((((a1).length:Nat):Int)).toNat:Nat):Int)))/\(wr .i64 ((((o2.2).length:Nat):Int)-((((((a1).length:Nat):Int)).toNat:Nat):Int)))*8<=140737488355328 then ((z67.l0aa 0 ((((a1).length:Nat):Int)).toNat o3.2 ((wr .i64 (((((List.replicate ((wr .i64 ((((o2.2).length:Nat):Int)-((((((a1).length:Nat):Int)).toNat:Nat):Int)))).toNat (0:Int))).length:Nat):Int)-1)),o2.2,(List.replicate ((wr .i64 ((((o2.2).length:Nat):Int)-((((((a1).length:Nat):Int)).toNat:Nat):Int)))).toNat (0:Int)))).bind λo4=>((z38.F o4.2.1).bind λr5=>((z66.F r5 (wr .i64 (wr .u64 r1))).bind λr6=>((z60.F r6.1).bind λr7=>(some (o4.2.2,r7)))))) else none) else none)) else none)) else none)) else none)
def z67.enc (r:(List Int)×(List Int)):V:=(.tup [(.ints false .u64 r.1),(.ints false .u64 r.2)])
def z67.pack:List V->Option Pack
 |[(.ints _ .u64 a0),(.ints _ .u64 a1)]=>some ⟨(List Int)×(List Int),z67.F a0 a1,z67.enc⟩
 |_=>none
def z68.F (a0 a1:List Int):Option ((List Int)×(List Int)×Int):=
 ((z19.F a1).bind λr1=>(bif r1 then (some ([],[],(8:Int))) else ((z29.F a0 a1).bind λr2=>(bif (decide (r2<0)) then (some ([],a0,(0:Int))) else ((z60.F a0).bind λr3=>((z60.F a1).bind λr4=>(bif (decide ((((r4).length:Nat):Int)=1)) then (if (0:Int)<=(0:Int)/\(0:Int)<(r4.length:Int) then ((z64.F r3 (r4.getD 0 0)).bind λr5=>((z38.F r5.1).bind λr6=>((z38.F [r5.2]).bind λr7=>(some (r6,r7,(0:Int)))))) else none) else ((z67.F r3 r4).bind λr8=>((z38.F r8.1).bind λr9=>((z38.F r8.2).bind λr10=>(some (r9,r10,(0:Int)))))))))))))
def z68.enc (r:(List Int)×(List Int)×Int):V:=(.tup [(.agg [(.ints false .u64 r.1)]),(.agg [(.ints false .u64 r.2.1)]),(.int .i64 r.2.2)])
def z68.pack:List V->Option Pack
 |[(.agg [(.ints _ .u64 a0)]),(.agg [(.ints _ .u64 a1)])]=>some ⟨(List Int)×(List Int)×Int,z68.F a0 a1,z68.enc⟩
 |_=>none
def z69.l0P {R:Type} (rec done:((List Int)×(List Int))->Option R):((List Int)×(List Int))->Option R:=λx=>match x with
 |(a,b)=>((z19.F b).bind λc=>(bif (!c) then ((z68.F a b).bind λd=>(rec (b,d.2.1))) else (done (a,b))))
def z69.l0 (x:((List Int)×(List Int))):Option (((List Int)×(List Int))):=lfp (λrec x=>z69.l0P rec some x) x
def z69.F (a0 a1:List Int):Option ((List Int)):=
 ((z69.l0 (a0,a1)).bind λo1=>(some o1.1))
def z69.enc (r:(List Int)):V:=(.agg [(.ints false .u64 r)])
def z69.pack:List V->Option Pack
 |[(.agg [(.ints _ .u64 a0)]),(.agg [(.ints _ .u64 a1)])]=>some ⟨(List Int),z69.F a0 a1,z69.enc⟩
 |_=>none
def z70.F (a0:List Int) (a1:Bool) (a2:List Int):Option ((List Int)×Bool×(List Int)):=
 ((z59.F a0 a1).bind λr1=>((z69.F r1 a2).bind λr2=>((z59.F a0 a1).bind λr3=>((z68.F r3 r2).bind λr4=>((z68.F a2 r2).bind λr5=>((z38.F [(1:Int)]).bind λr6=>((z30.F r5.1 r6).bind λr7=>((z20.F a0 a1).bind λr8=>((z21.F r4.1 (decide (r8<0))).bind λr9=>(some (r9.1,r9.2,r7.1)))))))))))
def z70.enc (r:(List Int)×Bool×(List Int)):V:=(.agg [(.ints false .u64 r.1),(.bool r.2.1),(.ints false .u64 r.2.2)])
def z70.pack:List V->Option Pack
 |[(.agg [(.ints _ .u64 a0),(.bool a1)]),(.agg [(.ints _ .u64 a2)])]=>some ⟨(List Int)×Bool×(List Int),z70.F a0 a1 a2,z70.enc⟩
 |_=>none
def z71.j4 (a2:List Int) (a3:Bool) (j3:List Int) (j4:Bool):Option ((List Int)×Bool×(List Int)×Int):=
 ((z59.F a2 a3).bind λr5=>((z70.F j3 j4 r5).bind λr6=>(some (r6.1,r6.2.1,r6.2.2,(0:Int)))))
def z71.F (a0:List Int) (a1:Bool) (a2:List Int) (a3:Bool):Option ((List Int)×Bool×(List Int)×Int):=
 ((z20.F a2 a3).bind λr1=>(bif (decide (r1=0)) then (some ([],false,[],(8:Int))) else (bif (decide (r1=(-1:Int))) then ((z32.F a0 a1).bind λr2=>(z71.j4 a2 a3 r2.1 r2.2)) else (z71.j4 a2 a3 a0 a1))))
def z71.enc (r:(List Int)×Bool×(List Int)×Int):V:=(.tup [(.agg [(.ints false .u64 r.1),(.bool r.2.1),(.ints false .u64 r.2.2.1)]),(.int .i64 r.2.2.2)])
def z71.pack:List V->Option Pack
 |[(.agg [(.ints _ .u64 a0),(.bool a1)]),(.agg [(.ints _ .u64 a2),(.bool a3)])]=>some ⟨(List Int)×Bool×(List Int)×Int,z71.F a0 a1 a2 a3,z71.enc⟩
 |_=>none
def z72.F (a0:List Int) (a1:Bool) (a2:Int):Option ((List Int)×Bool×(List Int)):=
 ((z55.F a2).bind λr1=>((z71.F a0 a1 r1.1 r1.2).bind λr2=>(some (r2.1,r2.2.1,r2.2.2.1))))
def z72.enc (r:(List Int)×Bool×(List Int)):V:=(.agg [(.ints false .u64 r.1),(.bool r.2.1),(.ints false .u64 r.2.2)])
def z72.pack:List V->Option Pack
 |[(.agg [(.ints _ .u64 a0),(.bool a1),(.int .i64 a2)])]=>some ⟨(List Int)×Bool×(List Int),z72.F a0 a1 a2,z72.enc⟩
 |_=>none
def z73.F (a0:List Int) (a1:Bool) (a2:List Int):Option ((List Int)):=
 ((z38.F [(1:Int)]).bind λr1=>((z24.F a2 r1).bind λr2=>(some r2)))
def z73.enc (r:(List Int)):V:=(.agg [(.ints false .u64 r)])
def z73.pack:List V->Option Pack
 |[(.agg [(.ints _ .u64 a0),(.bool a1),(.ints _ .u64 a2)])]=>some ⟨(List Int),z73.F a0 a1 a2,z73.enc⟩
 |_=>none
def z74.F (a0:List Int) (a1:Bool) (a2:List Int):Option ((List Int)×Bool):=
 ((z73.F a0 a1 a2).bind λr1=>((z21.F r1 false).bind λr2=>(some (r2.1,r2.2))))
def z74.enc (r:(List Int)×Bool):V:=(.agg [(.ints false .u64 r.1),(.bool r.2)])
def z74.pack:List V->Option Pack
 |[(.agg [(.ints _ .u64 a0),(.bool a1),(.ints _ .u64 a2)])]=>some ⟨(List Int)×Bool,z74.F a0 a1 a2,z74.enc⟩
 |_=>none
def z75.F (a0:List Int) (a1:Bool) (a2 a3:List Int) (a4:Bool) (a5:List Int):Option ((List Int)×Bool×(List Int)×Int):=
 ((z74.F a3 a4 a5).bind λr1=>((z54.F a0 a1 r1.1 r1.2).bind λr2=>((z74.F a0 a1 a2).bind λr3=>((z54.F r3.1 r3.2 a3 a4).bind λr4=>((z71.F r2.1 r2.2 r4.1 r4.2).bind λr5=>(some (r5.1,r5.2.1,r5.2.2.1,r5.2.2.2)))))))
def z75.enc (r:(List Int)×Bool×(List Int)×Int):V:=(.tup [(.agg [(.ints false .u64 r.1),(.bool r.2.1),(.ints false .u64 r.2.2.1)]),(.int .i64 r.2.2.2)])
def z75.pack:List V->Option Pack
 |[(.agg [(.ints _ .u64 a0),(.bool a1),(.ints _ .u64 a2)]),(.agg [(.ints _ .u64 a3),(.bool a4),(.ints _ .u64 a5)])]=>some ⟨(List Int)×Bool×(List Int)×Int,z75.F a0 a1 a2 a3 a4 a5,z75.enc⟩
 |_=>none
def z76.j8 (r1:(List Int)×Bool×Int×Int):Option ((List Int)×Bool×(List Int)×Int):=
 ((z72.F r1.1 r1.2.1 r1.2.2.1).bind λr9=>((z48.F 100).bind λr10=>((z47.F r10.1 r10.2).bind λr11=>((z75.F r9.1 r9.2.1 r9.2.2 r11.1 r11.2.1 r11.2.2).bind λr12=>(some (r12.1,r12.2.1,r12.2.2.1,r12.2.2.2))))))
def z76.F (a0:List UInt8):Option ((List Int)×Bool×(List Int)×Int):=
 ((z50.F a0).bind λr1=>(bif (!decide (r1.2.2.2=0)) then (some ([],false,[],r1.2.2.2)) else ((z48.F 1000).bind λr2=>((z52.F r2.1 r2.2 0).bind λr3=>((z53.F r1.1 r1.2.1 r1.2.2.1).bind λr4=>((z20.F r4.1 r4.2).bind λr5=>(bif (decide (r5<0)) then (some ([],false,[],(18:Int))) else ((z57.F r1.1 r1.2.1 r1.2.2.1 r3.1 r3.2.1 r3.2.2.1).bind λr6=>(bif (decide (r6>0)) then (some ([],false,[],(18:Int))) else ((z58.F r1.1 r1.2.1 r1.2.2.1).bind λr7=>(bif (decide (r7>12)) then (some ([],false,[],(18:Int))) else (z76.j8 r1))))))))))))
def z76.enc (r:(List Int)×Bool×(List Int)×Int):V:=(.tup [(.agg [(.ints false .u64 r.1),(.bool r.2.1),(.ints false .u64 r.2.2.1)]),(.int .i64 r.2.2.2)])
def z76.pack:List V->Option Pack
 |[(.str a0)]=>some ⟨(List Int)×Bool×(List Int)×Int,z76.F a0,z76.enc⟩
 |_=>none
def z79.F (a0:Int):Option (Bool):=
 (bif (decide (a0>=0)) then (some (decide (a0<5))) else (some false))
def z79.enc (r:Bool):V:=(.bool r)
def z79.pack:List V->Option Pack
 |[(.int .i64 a0)]=>some ⟨Bool,z79.F a0,z79.enc⟩
 |_=>none
def z80.F:Option ((List (List UInt8))):=
 (some [([100,111,119,110]:List UInt8),([117,112]:List UInt8),([104,97,108,102,45,117,112]:List UInt8),([104,97,108,102,45,100,111,119,110]:List UInt8),([104,97,108,102,45,101,118,101,110]:List UInt8)])
def z80.enc (r:(List (List UInt8))):V:=(.strs false r)
def z80.pack:List V->Option Pack
 |[]=>some ⟨(List (List UInt8)),z80.F,z80.enc⟩
 |_=>none
def z81.F (a0:Int):Option ((List UInt8)):=
 ((z79.F a0).bind λr1=>(bif (!r1) then (some ([]:List UInt8)) else (z80.F.bind λr2=>(if 0<=a0/\a0<(r2.length:Int) then (some (r2.getD (a0).toNat [])) else none))))
def z81.enc (r:(List UInt8)):V:=(.str r)
def z81.pack:List V->Option Pack
 |[(.int .i64 a0)]=>some ⟨(List UInt8),z81.F a0,z81.enc⟩
 |_=>none
def z82.F (a0:Int):Option (Bool):=
 (bif (decide (a0>=0)) then (some (decide (a0<3))) else (some false))
def z82.enc (r:Bool):V:=(.bool r)
def z82.pack:List V->Option Pack
 |[(.int .i64 a0)]=>some ⟨Bool,z82.F a0,z82.enc⟩
 |_=>none
def z83.F:Option ((List (List UInt8))):=
 (some [([116,104,105,114,116,121]:List UInt8),([102,105,120,101,100]:List UInt8),([97,99,116,117,97,108]:List UInt8)])
def z83.enc (r:(List (List UInt8))):V:=(.strs false r)
def z83.pack:List V->Option Pack
 |[]=>some ⟨(List (List UInt8)),z83.F,z83.enc⟩
 |_=>none
def z84.F (a0:Int):Option ((List UInt8)):=
 ((z82.F a0).bind λr1=>(bif (!r1) then (some ([]:List UInt8)) else (z83.F.bind λr2=>(if 0<=a0/\a0<(r2.length:Int) then (some (r2.getD (a0).toNat [])) else none))))
def z84.enc (r:(List UInt8)):V:=(.str r)
def z84.pack:List V->Option Pack
 |[(.int .i64 a0)]=>some ⟨(List UInt8),z84.F a0,z84.enc⟩
 |_=>none
def z86.F (a0:Int):Option (Bool):=
 (bif (decide (a0>=1)) then (some (decide (a0<=9999))) else (some false))
def z86.enc (r:Bool):V:=(.bool r)
def z86.pack:List V->Option Pack
 |[(.int .i64 a0)]=>some ⟨Bool,z86.F a0,z86.enc⟩
 |_=>none
def z87.F (a0:Int):Option (Bool):=
 ((z86.F a0).bind λr1=>(bif r1 then (bif (decide ((Int.tmod a0 4)=0)) then (bif (!decide ((Int.tmod a0 100)=0)) then (some true) else (some (decide ((Int.tmod a0 400)=0)))) else (some (decide ((Int.tmod a0 400)=0)))) else (some false)))
def z87.enc (r:Bool):V:=(.bool r)
def z87.pack:List V->Option Pack
 |[(.int .i64 a0)]=>some ⟨Bool,z87.F a0,z87.enc⟩
 |_=>none
def z88.j10 (a1:Int):Option (Int):=
 (if 0<=(wr .i64 (a1-1))/\(wr .i64 (a1-1))<12 then (V.asInt .i64 (([(.int .i64 31),(.int .i64 28),(.int .i64 31),(.int .i64 30),(.int .i64 31),(.int .i64 30),(.int .i64 31),(.int .i64 31),(.int .i64 30),(.int .i64 31),(.int .i64 30),(.int .i64 31)]:List V).getD ((wr .i64 (a1-1))).toNat .undef) λc11=>(some c11)) else none)
def z88.F (a0 a1:Int):Option (Int):=
 ((z86.F a0).bind λr1=>(bif (!r1) then (some 0) else (bif (decide (a1<1)) then (some 0) else (bif (decide (a1>12)) then (some 0) else (bif (decide (a1=2)) then ((z87.F a0).bind λr9=>(bif r9 then (some 29) else (z88.j10 a1))) else (z88.j10 a1))))))
def z88.enc (r:Int):V:=(.int .i64 r)
def z88.pack:List V->Option Pack
 |[(.int .i64 a0),(.int .i64 a1)]=>some ⟨Int,z88.F a0 a1,z88.enc⟩
 |_=>none
def z89.F (a0 a1 a2:Int):Option (Int):=
 (bif (decide (a2<1)) then (some 11) else ((z88.F a0 a1).bind λr1=>(bif (decide (a2>r1)) then (some 11) else (some 0))))
def z89.enc (r:Int):V:=(.int .i64 r)
def z89.pack:List V->Option Pack
 |[(.agg [(.int .i64 a0),(.int .i64 a1),(.int .i64 a2)])]=>some ⟨Int,z89.F a0 a1 a2,z89.enc⟩
 |_=>none
def z95.l0P (a:Int) (b:List Int) (c:Int) {R:Type} (rec:Int->Option R) (done:((Int)⊕(Int))->Option R):Int->Option R:=λd=>(bif (decide (d<c)) then (if 0<=d/\d<(b.length:Int) then (bif (!decide ((b.getD (d).toNat 0)=a)) then (done (.inr (b.getD (d).toNat 0))) else (rec (wr .i64 (d+1)))) else none) else (done (.inl d)))
def z95.l0 (a:Int) (b:List Int) (c x:Int):Option (((Int)⊕(Int))):=lfp (λrec x=>z95.l0P a b c rec some x) x
def z95.F (a0:List Int):Option (Int):=
 ((z95.l0 0 a0 (((a0).length:Nat):Int) 0).bind λo1=>match o1 with | .inl p2=>(some 0) | .inr q3=>(some q3))
def z96.F (a0 a1 a2 a3 a4 a5:Int):Option (Int):=
 ((z26.F a0 a3).bind λr1=>((z26.F a1 a4).bind λr2=>((z26.F a2 a5).bind λr3=>((z95.F [r1,r2,r3]).bind λr4=>(some r4)))))
def z97.F (a0:Int):Option (Int):=
 (some (wr .i64 ((wr .i64 ((wr .i64 ((wr .i64 ((365:Int)*(wr .i64 (a0-1))))+(wr .i64 (Int.tdiv (wr .i64 (a0-1)) 4))))-(wr .i64 (Int.tdiv (wr .i64 (a0-1)) 100))))+(wr .i64 (Int.tdiv (wr .i64 (a0-1)) 400)))))
def z98.l0P (a b:Int) {R:Type} (rec done:(Int×Int)->Option R):(Int×Int)->Option R:=λx=>match x with
 |(c,d)=>(bif (decide (d<b)) then ((z88.F a d).bind λe=>(rec ((wr .i64 (c+e)),(wr .i64 (d+1))))) else (done (c,d)))
def z98.l0 (a b:Int) (x:(Int×Int)):Option ((Int×Int)):=lfp (λrec x=>z98.l0P a b rec some x) x
def z98.F (a0 a1 a2:Int):Option (Int×Int):=
 ((z89.F a0 a1 a2).bind λr1=>(bif (!decide (r1=0)) then (some ((0:Int),r1)) else ((z97.F a0).bind λr2=>((z98.l0 a0 a1 (r2,(1:Int))).bind λo3=>(some ((wr .i64 (o3.1+a2)),(0:Int)))))))
def z133.l0b4P (a:Int) {R:Type} (rec done:(Int×Int×(List Int))->Option R):(Int×Int×(List Int))->Option R:=λx=>match x with
 |(b,c,d)=>(bif (decide (b>0)) then (if 0<=(wr .i64 (c-1))/\(wr .i64 (c-1))<20 then (if ((wr .i64 (c-1))).toNat<d.length then (rec ((wr .u64 (Int.tdiv b 10)),(wr .i64 (c-1)),(d.set ((wr .i64 (c-1))).toNat (wr .u8 (wr .u64 ((48:Int)+(Int.tmod b 10))))))) else none) else none) else (bif (decide ((wr .i64 ((20:Int)-c))<a)) then (if 0<=(wr .i64 (c-1))/\(wr .i64 (c-1))<20 then (if ((wr .i64 (c-1))).toNat<d.length then (rec ((wr .u64 (Int.tdiv b 10)),(wr .i64 (c-1)),(d.set ((wr .i64 (c-1))).toNat (wr .u8 (wr .u64 ((48:Int)+(Int.tmod b 10))))))) else none) else none) else (done (b,c,d))))
def z133.l0b4 (a:Int) (x:(Int×Int×(List Int))):Option ((Int×Int×(List Int))):=lfp (λrec x=>z133.l0b4P a rec some x) x
def z133.F (a0 a1:Int):Option ((List UInt8)):=
 ((z133.l0b4 a1 (a0,(20:Int),(List.replicate 20 0))).bind λo1=>(if (o1.2.2).length=20 then (if 0<=o1.2.1/\o1.2.1<=20 then (some (((o1.2.2.drop (o1.2.1).toNat).take (20-(o1.2.1).toNat)).map λn=>UInt8.ofNat n.toNat)) else none) else none))
def z133.enc (r:(List UInt8)):V:=(.str r)
def z133.pack:List V->Option Pack
 |[(.int .u64 a0),(.int .i64 a1)]=>some ⟨(List UInt8),z133.F a0 a1,z133.enc⟩
 |_=>none
def z134.l2P (a:List Int) (b:Int) {R:Type} (rec done:(Int×Int)->Option R):(Int×Int)->Option R:=λx=>match x with
 |(c,d)=>(bif (decide (d<b)) then (if 0<=d/\d<(a.length:Int) then (rec ((a.getD (d).toNat 0),(wr .i64 (d+1)))) else none) else (done (c,d)))
def z134.l2 (a:List Int) (b:Int) (x:(Int×Int)):Option ((Int×Int)):=lfp (λrec x=>z134.l2P a b rec some x) x
def z134.j1010a {R:Type} (rec done:((List Int)×(List (List UInt8)))->Option R) (a:Int×Int) (b:Int) (c:List (List UInt8)) (d:(List Int)×(List Int)×Int):Option R:=
 ((z133.F a.1 b).bind λe=>(if ((c).length+([e]).length)*16<=140737488355328 then (rec (d.1,(c++[e]))) else none))
def z134.l0P {R:Type} (rec done:((List Int)×(List (List UInt8)))->Option R):((List Int)×(List (List UInt8)))->Option R:=λx=>match x with
 |(a,b)=>((z19.F a).bind λc=>(bif (!c) then ((z38.F [(1000000000000000000:Int)]).bind λd=>((z68.F a d).bind λe=>((z60.F e.2.1).bind λg=>((z134.l2 g (((g).length:Nat):Int) ((0:Int),(0:Int))).bind λh=>((z19.F e.1).bind λj=>(bif j then (z134.j1010a rec done h 1 b e) else (z134.j1010a rec done h 18 b e))))))) else (done (a,b))))
def z134.l0 (x:((List Int)×(List (List UInt8)))):Option (((List Int)×(List (List UInt8)))):=lfp (λrec x=>z134.l0P rec some x) x
def z134.l4P (a:List (List UInt8)) {R:Type} (rec done:(Int×(List Int))->Option R):(Int×(List Int))->Option R:=λx=>match x with
 |(b,d)=>(bif (decide (b>=0)) then (if 0<=b/\b<(a.length:Int) then (if (b).toNat<a.length then (if ((d).length+(((a.getD (b).toNat []).map λc=>(c.toNat:Int))).length)*1<=140737488355328 then (rec ((wr .i64 (b-1)),(d++((a.getD (b).toNat []).map λc=>(c.toNat:Int))))) else none) else none) else none) else (done (b,d)))
def z134.l4 (a:List (List UInt8)) (x:(Int×(List Int))):Option ((Int×(List Int))):=lfp (λrec x=>z134.l4P a rec some x) x
def z134.F (a0:List Int):Option ((List UInt8)):=
 ((z19.F a0).bind λr1=>(bif r1 then (some ([48]:List UInt8)) else ((z134.l0 (a0,[])).bind λo2=>(bif (decide ((wr .i64 ((((o2.2).length:Nat):Int)-1))>=0)) then (if 0<=(wr .i64 ((((o2.2).length:Nat):Int)-1))/\(wr .i64 ((((o2.2).length:Nat):Int)-1))<(o2.2.length:Int) then (if ((wr .i64 ((((o2.2).length:Nat):Int)-1))).toNat<o2.2.length then (if (([]:List Int).length+(((o2.2.getD ((wr .i64 ((((o2.2).length:Nat):Int)-1))).toNat []).map λc=>(c.toNat:Int))).length)*1<=140737488355328 then ((z134.l4 o2.2 ((wr .i64 ((wr .i64 ((((o2.2).length:Nat):Int)-1))-1)),([]++((o2.2.getD ((wr .i64 ((((o2.2).length:Nat):Int)-1))).toNat []).map λc=>(c.toNat:Int))))).bind λo3=>(if 0<(o3.2).length then (if (((o3.2).length:Nat):Int)=(o3.2.length:Int)/\0<o3.2.length/\o3.2.all Qdk=true then (some (o3.2.map λn=>UInt8.ofNat n.toNat)) else none) else none)) else none) else none) else none) else none))))
def z134.enc (r:(List UInt8)):V:=(.str r)
def z134.pack:List V->Option Pack
 |[(.agg [(.ints _ .u64 a0)])]=>some ⟨(List UInt8),z134.F a0,z134.enc⟩
 |_=>none
def z135.F (a0:List Int) (a1:Bool):Option ((List UInt8)):=
 (bif a1 then ((z134.F a0).bind λr1=>(if ([45]:List UInt8).length+r1.length<=9223372036854775807 then (some (([45]:List UInt8)++r1)) else none)) else ((z134.F a0).bind λr2=>(some r2)))
def z135.enc (r:(List UInt8)):V:=(.str r)
def z135.pack:List V->Option Pack
 |[(.agg [(.ints _ .u64 a0),(.bool a1)])]=>some ⟨(List UInt8),z135.F a0 a1,z135.enc⟩
 |_=>none
def z145.j1026a {R:Type} (rec:(Int×Int×Int×Int×Int×Int×(List UInt8)×(List UInt8)×Int)->Option R) (done:((Int×Int×Int×Int×Int×Int×(List UInt8)×(List UInt8)×Int)⊕(Int))->Option R) (a:List UInt8) (b:Int) (c:List (List V)) (d:List UInt8):Option R:=
 ((z46.F a).bind λe=>(bif (!decide (e.2.2=0)) then (bif (!decide (e.2.2=0)) then (done (.inr e.2.2)) else (if 0<=b/\b<(c.length:Int) then (V.asInt .i64 (((c.getD (b).toNat [])).getD 0 .undef) λg=>(V.asInt .i64 (((c.getD (b).toNat [])).getD 1 .undef) λh=>(V.asInt .i64 (((c.getD (b).toNat [])).getD 2 .undef) λj=>(V.asInt .i64 (((c.getD (b).toNat [])).getD 3 .undef) λk=>(V.asInt .i64 (((c.getD (b).toNat [])).getD 4 .undef) λm=>(V.asInt .i64 (((c.getD (b).toNat [])).getD 5 .undef) λn=>(V.asStr (((c.getD (b).toNat [])).getD 6 .undef) λo=>(V.asStr (((c.getD (b).toNat [])).getD 7 .undef) λp=>(rec (g,h,j,k,m,n,o,p,(wr .i64 (b+1)))))))))))) else none)) else ((z76.F d).bind λq=>(bif (!decide (q.2.2.2=0)) then (done (.inr q.2.2.2)) else (if 0<=b/\b<(c.length:Int) then (V.asInt .i64 (((c.getD (b).toNat [])).getD 0 .undef) λr=>(V.asInt .i64 (((c.getD (b).toNat [])).getD 1 .undef) λs=>(V.asInt .i64 (((c.getD (b).toNat [])).getD 2 .undef) λt=>(V.asInt .i64 (((c.getD (b).toNat [])).getD 3 .undef) λu=>(V.asInt .i64 (((c.getD (b).toNat [])).getD 4 .undef) λv=>(V.asInt .i64 (((c.getD (b).toNat [])).getD 5 .undef) λw=>(V.asStr (((c.getD (b).toNat [])).getD 6 .undef) λx=>(V.asStr (((c.getD (b).toNat [])).getD 7 .undef) λy=>(rec (r,s,t,u,v,w,x,y,(wr .i64 (b+1)))))))))))) else none)))))
def z145.j1024a {R:Type} (rec:(Int×Int×Int×Int×Int×Int×(List UInt8)×(List UInt8)×Int)->Option R) (done:((Int×Int×Int×Int×Int×Int×(List UInt8)×(List UInt8)×Int)⊕(Int))->Option R) (a:Bool) (b c d e g h j k m:Int) (n:List UInt8) (o:Int) (p:List (List V)) (q:List UInt8):Option R:=
 (bif a then (done (.inr 11)) else ((z96.F b c d e g h).bind λr=>(bif (decide (r>0)) then (done (.inr 12)) else (bif (!(decide (b=j)&&(decide (c=k)&&decide (d=m)))) then (done (.inr 12)) else (z145.j1026a rec done n o p q)))))
def z145.l0P (a b:List (List V)) (c:Int) {R:Type} (rec:(Int×Int×Int×Int×Int×Int×(List UInt8)×(List UInt8)×Int)->Option R) (done:((Int×Int×Int×Int×Int×Int×(List UInt8)×(List UInt8)×Int)⊕(Int))->Option R):(Int×Int×Int×Int×Int×Int×(List UInt8)×(List UInt8)×Int)->Option R:=λx=>match x with
 |(d,e,g,h,j,k,m,n,o)=>(bif (decide (o<c)) then (if 0<=o/\o<(b.length:Int) then (V.asInt .i64 (((b.getD (o).toNat [])).getD 0 .undef) λp=>(V.asInt .i64 (((b.getD (o).toNat [])).getD 1 .undef) λq=>(V.asInt .i64 (((b.getD (o).toNat [])).getD 2 .undef) λr=>(V.asInt .i64 (((b.getD (o).toNat [])).getD 3 .undef) λs=>(V.asInt .i64 (((b.getD (o).toNat [])).getD 4 .undef) λt=>(V.asInt .i64 (((b.getD (o).toNat [])).getD 5 .undef) λu=>(V.asStr (((b.getD (o).toNat [])).getD 6 .undef) λv=>(V.asStr (((b.getD (o).toNat [])).getD 7 .undef) λw=>((z89.F p q r).bind λy=>(bif (!decide (y=0)) then (z145.j1024a rec done true p q r s t u h j k v o a w) else ((z89.F s t u).bind λz=>(z145.j1024a rec done (!decide (z=0)) p q r s t u h j k v o a w)))))))))))) else none) else (done (.inl (d,e,g,h,j,k,m,n,o))))
def z145.l0 (a b:List (List V)) (c:Int) (x:(Int×Int×Int×Int×Int×Int×(List UInt8)×(List UInt8)×Int)):Option (((Int×Int×Int×Int×Int×Int×(List UInt8)×(List UInt8)×Int)⊕(Int))):=lfp (λrec x=>z145.l0P a b c rec some x) x
def z145.j2026a {R:Type} (rec:(Int×Int×Int×Int×Int×Int×(List UInt8)×(List UInt8)×Int)->Option R) (done:((Int×Int×Int×Int×Int×Int×(List UInt8)×(List UInt8)×Int)⊕(Int))->Option R) (a:List UInt8) (b:Int) (c:List (List V)) (d:List UInt8):Option R:=
 ((z46.F a).bind λe=>(bif (!decide (e.2.2=0)) then (bif (!decide (e.2.2=0)) then (done (.inr e.2.2)) else (if 0<=b/\b<(c.length:Int) then (V.asInt .i64 (((c.getD (b).toNat [])).getD 0 .undef) λg=>(V.asInt .i64 (((c.getD (b).toNat [])).getD 1 .undef) λh=>(V.asInt .i64 (((c.getD (b).toNat [])).getD 2 .undef) λj=>(V.asInt .i64 (((c.getD (b).toNat [])).getD 3 .undef) λk=>(V.asInt .i64 (((c.getD (b).toNat [])).getD 4 .undef) λm=>(V.asInt .i64 (((c.getD (b).toNat [])).getD 5 .undef) λn=>(V.asStr (((c.getD (b).toNat [])).getD 6 .undef) λo=>(V.asStr (((c.getD (b).toNat [])).getD 7 .undef) λp=>(rec (g,h,j,k,m,n,o,p,(wr .i64 (b+1)))))))))))) else none)) else ((z76.F d).bind λq=>(bif (!decide (q.2.2.2=0)) then (done (.inr q.2.2.2)) else (if 0<=b/\b<(c.length:Int) then (V.asInt .i64 (((c.getD (b).toNat [])).getD 0 .undef) λr=>(V.asInt .i64 (((c.getD (b).toNat [])).getD 1 .undef) λs=>(V.asInt .i64 (((c.getD (b).toNat [])).getD 2 .undef) λt=>(V.asInt .i64 (((c.getD (b).toNat [])).getD 3 .undef) λu=>(V.asInt .i64 (((c.getD (b).toNat [])).getD 4 .undef) λv=>(V.asInt .i64 (((c.getD (b).toNat [])).getD 5 .undef) λw=>(V.asStr (((c.getD (b).toNat [])).getD 6 .undef) λx=>(V.asStr (((c.getD (b).toNat [])).getD 7 .undef) λy=>(rec (r,s,t,u,v,w,x,y,(wr .i64 (b+1)))))))))))) else none)))))
def z145.j2024a {R:Type} (rec:(Int×Int×Int×Int×Int×Int×(List UInt8)×(List UInt8)×Int)->Option R) (done:((Int×Int×Int×Int×Int×Int×(List UInt8)×(List UInt8)×Int)⊕(Int))->Option R) (a:Bool) (b c d e g h j k m:Int) (n:List UInt8) (o:Int) (p:List (List V)) (q:List UInt8):Option R:=
 (bif a then (done (.inr 11)) else ((z96.F b c d e g h).bind λr=>(bif (decide (r>0)) then (done (.inr 12)) else (bif (!(decide (b=j)&&(decide (c=k)&&decide (d=m)))) then (done (.inr 12)) else (z145.j2026a rec done n o p q)))))
def z145.l0aP (a b:List (List V)) (c:Int) {R:Type} (rec:(Int×Int×Int×Int×Int×Int×(List UInt8)×(List UInt8)×Int)->Option R) (done:((Int×Int×Int×Int×Int×Int×(List UInt8)×(List UInt8)×Int)⊕(Int))->Option R):(Int×Int×Int×Int×Int×Int×(List UInt8)×(List UInt8)×Int)->Option R:=λx=>match x with
 |(d,e,g,h,j,k,m,n,o)=>(bif (decide (o<c)) then (if 0<=o/\o<(b.length:Int) then (V.asInt .i64 (((b.getD (o).toNat [])).getD 0 .undef) λp=>(V.asInt .i64 (((b.getD (o).toNat [])).getD 1 .undef) λq=>(V.asInt .i64 (((b.getD (o).toNat [])).getD 2 .undef) λr=>(V.asInt .i64 (((b.getD (o).toNat [])).getD 3 .undef) λs=>(V.asInt .i64 (((b.getD (o).toNat [])).getD 4 .undef) λt=>(V.asInt .i64 (((b.getD (o).toNat [])).getD 5 .undef) λu=>(V.asStr (((b.getD (o).toNat [])).getD 6 .undef) λv=>(V.asStr (((b.getD (o).toNat [])).getD 7 .undef) λw=>((z89.F p q r).bind λy=>(bif (!decide (y=0)) then (z145.j2024a rec done true p q r s t u h j k v o a w) else ((z89.F s t u).bind λz=>(z145.j2024a rec done (!decide (z=0)) p q r s t u h j k v o a w)))))))))))) else none) else (done (.inl (d,e,g,h,j,k,m,n,o))))
def z145.l0a (a b:List (List V)) (c:Int) (x:(Int×Int×Int×Int×Int×Int×(List UInt8)×(List UInt8)×Int)):Option (((Int×Int×Int×Int×Int×Int×(List UInt8)×(List UInt8)×Int)⊕(Int))):=lfp (λrec x=>z145.l0aP a b c rec some x) x
def z145.j13 (c7:List UInt8) (a0:List (List V)) (c8:List UInt8):Option (Int):=
 ((z46.F c7).bind λr14=>(bif (!decide (r14.2.2=0)) then (bif (!decide (r14.2.2=0)) then (some r14.2.2) else (if (0:Int)<=(0:Int)/\(0:Int)<(a0.length:Int) then (V.asInt .i64 (((a0.getD 0 [])).getD 0 .undef) λc16=>(V.asInt .i64 (((a0.getD 0 [])).getD 1 .undef) λc17=>(V.asInt .i64 (((a0.getD 0 [])).getD 2 .undef) λc18=>(V.asInt .i64 (((a0.getD 0 [])).getD 3 .undef) λc19=>(V.asInt .i64 (((a0.getD 0 [])).getD 4 .undef) λc20=>(V.asInt .i64 (((a0.getD 0 [])).getD 5 .undef) λc21=>(V.asStr (((a0.getD 0 [])).getD 6 .undef) λc22=>(V.asStr (((a0.getD 0 [])).getD 7 .undef) λc23=>((z145.l0 a0 a0 (((a0).length:Nat):Int) (c16,c17,c18,c19,c20,c21,c22,c23,(1:Int))).bind λo32=>match o32 with | .inl p33=>(some 0) | .inr q34=>(some q34)))))))))) else none)) else ((z76.F c8).bind λr15=>(bif (!decide (r15.2.2.2=0)) then (some r15.2.2.2) else (if (0:Int)<=(0:Int)/\(0:Int)<(a0.length:Int) then (V.asInt .i64 (((a0.getD 0 [])).getD 0 .undef) λc24=>(V.asInt .i64 (((a0.getD 0 [])).getD 1 .undef) λc25=>(V.asInt .i64 (((a0.getD 0 [])).getD 2 .undef) λc26=>(V.asInt .i64 (((a0.getD 0 [])).getD 3 .undef) λc27=>(V.asInt .i64 (((a0.getD 0 [])).getD 4 .undef) λc28=>(V.asInt .i64 (((a0.getD 0 [])).getD 5 .undef) λc29=>(V.asStr (((a0.getD 0 [])).getD 6 .undef) λc30=>(V.asStr (((a0.getD 0 [])).getD 7 .undef) λc31=>((z145.l0a a0 a0 (((a0).length:Nat):Int) (c24,c25,c26,c27,c28,c29,c30,c31,(1:Int))).bind λo35=>match o35 with | .inl p36=>(some 0) | .inr q37=>(some q37)))))))))) else none)))))
def z145.j11 (j11:Bool) (c1 c2 c3 c4 c5 c6:Int) (c7:List UInt8) (a0:List (List V)) (c8:List UInt8):Option (Int):=
 (bif j11 then (some 11) else ((z96.F c1 c2 c3 c4 c5 c6).bind λr12=>(bif (decide (r12>0)) then (some 12) else (z145.j13 c7 a0 c8))))
def z145.F (a0:List (List V)):Option (Int):=
 (bif (decide ((0:Int)<(((a0).length:Nat):Int))) then (if (0:Int)<=(0:Int)/\(0:Int)<(a0.length:Int) then (V.asInt .i64 (((a0.getD 0 [])).getD 0 .undef) λc1=>(V.asInt .i64 (((a0.getD 0 [])).getD 1 .undef) λc2=>(V.asInt .i64 (((a0.getD 0 [])).getD 2 .undef) λc3=>(V.asInt .i64 (((a0.getD 0 [])).getD 3 .undef) λc4=>(V.asInt .i64 (((a0.getD 0 [])).getD 4 .undef) λc5=>(V.asInt .i64 (((a0.getD 0 [])).getD 5 .undef) λc6=>(V.asStr (((a0.getD 0 [])).getD 6 .undef) λc7=>(V.asStr (((a0.getD 0 [])).getD 7 .undef) λc8=>((z89.F c1 c2 c3).bind λr9=>(bif (!decide (r9=0)) then (z145.j11 true c1 c2 c3 c4 c5 c6 c7 a0 c8) else ((z89.F c4 c5 c6).bind λr10=>(z145.j11 (!decide (r10=0)) c1 c2 c3 c4 c5 c6 c7 a0 c8)))))))))))) else none) else (some 0))
def z146.F (a0:Int):Option (Bool):=
 ((z84.F a0).bind λr1=>(some (!decide (r1=([]:List UInt8)))))
def z151.F (a0:List Int) (a1:Bool) (a2 a3:List Int) (a4:Bool) (a5:List Int):Option ((List Int)×Bool×(List Int)):=
 ((z74.F a3 a4 a5).bind λr1=>((z54.F a0 a1 r1.1 r1.2).bind λr2=>((z74.F a0 a1 a2).bind λr3=>((z54.F a3 a4 r3.1 r3.2).bind λr4=>((z31.F r2.1 r2.2 r4.1 r4.2).bind λr5=>((z73.F a0 a1 a2).bind λr6=>((z73.F a3 a4 a5).bind λr7=>((z40.F r6 r7).bind λr8=>((z70.F r5.1 r5.2 r8).bind λr9=>(some (r9.1,r9.2.1,r9.2.2)))))))))))
def z152.F (a0:List Int) (a1:Bool) (a2 a3:List Int) (a4:Bool) (a5:List Int):Option ((List Int)×Bool×(List Int)):=
 ((z54.F a0 a1 a3 a4).bind λr1=>((z73.F a0 a1 a2).bind λr2=>((z73.F a3 a4 a5).bind λr3=>((z40.F r2 r3).bind λr4=>((z70.F r1.1 r1.2 r4).bind λr5=>(some (r5.1,r5.2.1,r5.2.2)))))))
def z153.F (a0 a1:Int):Option ((List Int)×Bool×(List Int)):=
 ((z48.F a0).bind λr1=>((z48.F a1).bind λr2=>((z71.F r1.1 r1.2 r2.1 r2.2).bind λr3=>(some (r3.1,r3.2.1,r3.2.2.1)))))
def z154.j6 (a3 a0 a4 a1 j6:Int):Option ((List Int)×Bool×(List Int)):=
 ((z153.F (wr .i64 ((wr .i64 ((wr .i64 ((wr .i64 ((360:Int)*(wr .i64 (a3-a0))))+(wr .i64 ((30:Int)*(wr .i64 (a4-a1))))))+j6))-30)) 360).bind λr7=>(some (r7.1,r7.2.1,r7.2.2)))
def z154.j9 (a3 a0 a4 a1 j9 a2:Int):Option ((List Int)×Bool×(List Int)):=
 ((z153.F (wr .i64 ((wr .i64 ((wr .i64 ((wr .i64 ((360:Int)*(wr .i64 (a3-a0))))+(wr .i64 ((30:Int)*(wr .i64 (a4-a1))))))+j9))-a2)) 360).bind λr10=>(some (r10.1,r10.2.1,r10.2.2)))
def z154.F (a0 a1 a2 a3 a4 a5:Int):Option ((List Int)×Bool×(List Int)):=
 (bif (decide (a2>30)) then (bif (decide (a5>30)) then (z154.j6 a3 a0 a4 a1 30) else (z154.j6 a3 a0 a4 a1 a5)) else (bif (decide (a5>30)) then (bif (decide (a2=30)) then (z154.j9 a3 a0 a4 a1 30 a2) else (z154.j9 a3 a0 a4 a1 a5 a2)) else (z154.j9 a3 a0 a4 a1 a5 a2)))
def z155.F (a0 a1 a2 a3 a4 a5:Int):Option (Int×Int):=
 ((z98.F a0 a1 a2).bind λr1=>(bif (!decide (r1.2=0)) then (some ((0:Int),r1.2)) else ((z98.F a3 a4 a5).bind λr2=>(bif (!decide (r2.2=0)) then (some ((0:Int),r2.2)) else (some ((wr .i64 (r2.1-r1.1)),(0:Int)))))))
def z156.F (a0 a1 a2 a3 a4 a5:Int):Option (Int):=
 ((z155.F a0 a1 a2 a3 a4 a5).bind λr1=>(some r1.1))
def z157.F (a0:Int):Option (Int):=
 ((z87.F a0).bind λr1=>(bif r1 then (some 366) else (some 365)))
def z158.F (a0 a1 a2 a3 a4 a5:Int):Option ((List Int)×Bool×(List Int)):=
 (bif (decide (a0=a3)) then ((z156.F a0 a1 a2 a3 a4 a5).bind λr1=>((z157.F a0).bind λr2=>((z153.F r1 r2).bind λr3=>(some (r3.1,r3.2.1,r3.2.2))))) else ((z156.F a0 a1 a2 a0 12 31).bind λr4=>((z156.F a3 1 1 a3 a4 a5).bind λr5=>((z157.F a0).bind λr6=>((z153.F (wr .i64 (r4+1)) r6).bind λr7=>((z153.F (wr .i64 ((wr .i64 (a3-a0))-1)) 1).bind λr8=>((z151.F r7.1 r7.2.1 r7.2.2 r8.1 r8.2.1 r8.2.2).bind λr9=>((z157.F a3).bind λr10=>((z153.F r5 r10).bind λr11=>((z151.F r9.1 r9.2.1 r9.2.2 r11.1 r11.2.1 r11.2.2).bind λr12=>(some (r12.1,r12.2.1,r12.2.2))))))))))))
def z159.j4 (j4:Bool) (a1 a2 a3 a4 a5 a6 a0:Int):Option ((List Int)×Bool×(List Int)×Int):=
 (bif j4 then (some ([],false,[],(11:Int))) else ((z96.F a1 a2 a3 a4 a5 a6).bind λr5=>(bif (decide (r5>0)) then (some ([],false,[],(12:Int))) else (bif (decide (a0=0)) then ((z154.F a1 a2 a3 a4 a5 a6).bind λr6=>(some (r6.1,r6.2.1,r6.2.2,(0:Int)))) else (bif (decide (a0=1)) then ((z156.F a1 a2 a3 a4 a5 a6).bind λr7=>((z153.F r7 365).bind λr8=>(some (r8.1,r8.2.1,r8.2.2,(0:Int))))) else ((z158.F a1 a2 a3 a4 a5 a6).bind λr9=>(some (r9.1,r9.2.1,r9.2.2,(0:Int)))))))))
def z159.F (a0 a1 a2 a3 a4 a5 a6:Int):Option ((List Int)×Bool×(List Int)×Int):=
 ((z82.F a0).bind λr1=>(bif (!r1) then (some ([],false,[],(2:Int))) else ((z89.F a1 a2 a3).bind λr2=>(bif (!decide (r2=0)) then (z159.j4 true a1 a2 a3 a4 a5 a6 a0) else ((z89.F a4 a5 a6).bind λr3=>(z159.j4 (!decide (r3=0)) a1 a2 a3 a4 a5 a6 a0))))))
def z160.F (a0 a1 a2 a3 a4 a5:Int):Option (Int×Int×Int):=
 ((z96.F a0 a1 a2 a3 a4 a5).bind λr1=>(bif (decide (r1<0)) then (some (a0,a1,a2)) else (some (a3,a4,a5))))
def z161.l0P (a:Int) (b:List (List V)) (c d e g:Int) {R:Type} (rec done:(Int×(List Int)×Bool×(List Int))->Option R):(Int×(List Int)×Bool×(List Int))->Option R:=λx=>match x with
 |(h,j,k,m)=>(bif (decide (h<c)) then (if 0<=h/\h<(b.length:Int) then (V.asInt .i64 (((b.getD (h).toNat [])).getD 0 .undef) λn=>(V.asInt .i64 (((b.getD (h).toNat [])).getD 1 .undef) λo=>(V.asInt .i64 (((b.getD (h).toNat [])).getD 2 .undef) λp=>(V.asInt .i64 (((b.getD (h).toNat [])).getD 3 .undef) λq=>(V.asInt .i64 (((b.getD (h).toNat [])).getD 4 .undef) λr=>(V.asInt .i64 (((b.getD (h).toNat [])).getD 5 .undef) λs=>(V.asStr (((b.getD (h).toNat [])).getD 6 .undef) λt=>(V.asStr (((b.getD (h).toNat [])).getD 7 .undef) λu=>((z96.F n o p d e g).bind λv=>(bif (decide (v>=0)) then (done (h,j,k,m)) else ((z46.F t).bind λw=>((z76.F u).bind λy=>((z160.F q r s d e g).bind λz=>((z159.F a n o p z.1 z.2.1 z.2.2).bind λA=>((z47.F w.1 w.2.1).bind λB=>((z152.F B.1 B.2.1 B.2.2 y.1 y.2.1 y.2.2.1).bind λC=>((z152.F C.1 C.2.1 C.2.2 A.1 A.2.1 A.2.2.1).bind λD=>((z151.F j k m D.1 D.2.1 D.2.2).bind λE=>(rec ((wr .i64 (h+1)),E.1,E.2.1,E.2.2)))))))))))))))))))) else none) else (done (h,j,k,m)))
def z161.l0 (a:Int) (b:List (List V)) (c d e g:Int) (x:(Int×(List Int)×Bool×(List Int))):Option ((Int×(List Int)×Bool×(List Int))):=lfp (λrec x=>z161.l0P a b c d e g rec some x) x
def z161.F (a0:Int) (a1:List (List V)) (a2 a3 a4:Int):Option ((List Int)×Bool×(List Int)):=
 ((z161.l0 a0 a1 (((a1).length:Nat):Int) a2 a3 a4 ((0:Int),[],false,[])).bind λo1=>(some (o1.2.1,o1.2.2.1,o1.2.2.2)))
def z171.F (a0:Int) (a1:List (List V)) (a2 a3 a4:Int):Option ((List Int)×Bool×(List Int)×Int):=
 ((z145.F a1).bind λr1=>(bif (!decide (r1=0)) then (some ([],false,[],r1)) else ((z89.F a2 a3 a4).bind λr2=>(bif (!decide (r2=0)) then (some ([],false,[],(11:Int))) else ((z146.F a0).bind λr3=>(bif (!r3) then (some ([],false,[],(2:Int))) else ((z161.F a0 a1 a2 a3 a4).bind λr4=>(some (r4.1,r4.2.1,r4.2.2,(0:Int))))))))))
end
end Go.Proofs.YtgjncgiekniniaaGreatDoor.A
end
section
set_option maxRecDepth 100000
namespace Go.Proofs.YtgjncgiekniniaaGreatDoor.A
open Go
noncomputable section
def z23.l0b6sh:Env×Store:=((.ints false .u64 []) :: .undef::(.ptr 0 0)::(.int .i64 0)::un 19 [],[(.cells 37 [(.ints false .u64 [])])])
def z23.l0b6out0 (a:List Int) (b:Int) (c:List Int) (o:Int):X×Env×Store:=((.exit 0),Qb z23.l0b6sh [.li a,.i o,.li c])
def z23.l0b6pack:List Leaf->Option LPack
 |[.li a,.i b,.li c]=>some (.one _ (z23.l0b6 a b) (z23.l0b6out0 a b c))
 |_=>none
def z23.C:Ctx where
 T:=tab
 keep:=λf i=>match f,i with|185,0=>([0,2,3],[0],[])|_,_=>([],[],[])
 keepE:=λf i=>match f,i with|185,0=>([0,2,3],[0],[])|_,_=>([],[],[])
 keepR:=λf i=>match f,i with|185,0=>([2],[0],[2])|_,_=>([],[],[])
 L:=λf i b st=>match f,i,b with|185,0,0=>(matchSt z23.l0b6sh st).bind z23.l0b6pack|_,_,_=>none
def z23.dec:V->Option ((List Int))
 |(.agg [(.ints _ .u64 x0)])=>some x0
 |_=>none
theorem z23.l0b6_link (R:Type) (k:Env×Store->Option R) (d:X×Env×Store->Option R) (a:List Int) (b:Int) (c:List Int) :
  z23.C.loopP 185 0 (Qf 0 (ifun Tryz.f185).body) 1 k d (Qb z23.l0b6sh [.li a,.i b,.li c]) =
  z23.l0b6P a (λx'=>k (Qb z23.l0b6sh [.li a,.i x',.li c])) (λo=>d (z23.l0b6out0 a b c o)) b:=by kernel_rfl
theorem z23.link (a0:List Int):z23.C.evTop 185 (ifun Tryz.f185) [(.ints false .u64 a0)] z23.dec=z23.F a0:=by kernel_rfl
def z28.C:Ctx where
 T:=tab
 call:=λg args=>match g with|273=>z27.pack args|_=>none
def z28.dec:V->Option (Int)
 |(.int .i64 x0)=>some x0
 |_=>none
theorem z28.link (a0 a1:Int):z28.C.evTop 245 (ifun Tryz.f245) [(.int .u64 a0),(.int .u64 a1)] z28.dec=z28.F a0 a1:=by kernel_rfl
def z33.C:Ctx where
 T:=tab
 draws:=λf i=>match f,i with|90,1=>([(6,[(2,0)],0),(7,[(3,0)],0),(8,[(6,2)],2),(9,[(5,1),(7,3)],7),(0,[(4,0),(8,4)],15)],480)|_,_=>([],0)
 call:=λg args=>match g with|110=>z32.pack args|24=>z31.pack args|_=>none
def z33.dec:V->Option ((List Int)×Bool)
 |(.agg [(.ints _ .u64 x0),(.bool x1)])=>some (x0,x1)
 |_=>none
theorem z33.link (a0:List Int) (a1:Bool) (a2:List Int) (a3:Bool):z33.C.evTop 90 (ifun Tryz.f90) [(.agg [(.ints false .u64 a0),(.bool a1)]),(.agg [(.ints false .u64 a2),(.bool a3)])] z33.dec=z33.F a0 a1 a2 a3:=by kernel_rfl
def z38.C:Ctx where
 T:=tab
 call:=λg args=>match g with|185=>z23.pack args|_=>none
 prim:=λg=>match g with|222=>some (cloneP (.ints true .u64 []) 79 8)|_=>none
def z38.dec:V->Option ((List Int))
 |(.agg [(.ints _ .u64 x0)])=>some x0
 |_=>none
theorem z38.link (a0:List Int):z38.C.evTop 158 (ifun Tryz.f158) [(.ints false .u64 a0)] z38.dec=z38.F a0:=by kernel_rfl
def z39.C:Ctx where
 T:=tab
def z39.dec:V->Option (Int×Int)
 |(.tup [(.int .u64 x0),(.int .u64 x1)])=>some (x0,x1)
 |_=>none
theorem z39.link (a0 a1:Int):z39.C.evTop 268 (ifun Tryz.f268) [(.int .u64 a0),(.int .u64 a1)] z39.dec=z39.F a0 a1:=by kernel_rfl
def z40.l0ash:Env×Store:=(.undef::(.int .u64 0)::(.sview 3 0 0 0)::(.ptr 4 0) :: .undef :: .undef::(.int .u64 0)::un 6 ((.ints false .u64 [])::(.int .i64 0)::(.int .i64 0)::un 44 []),[(.cells 37 [(.ints false .u64 [])]),.dead,(.cells 37 [(.ints false .u64 [])]),(.arr 0 false 79 (.ints false .u64 [])),(.cells 37 [(.ints false .u64 [])])])
def z40.l0aout0 (a:Int) (b c:Nat) (d:Int) (e:List Int) (g h:Int) (j k m p:List Int) (o:Int×Int×(List Int)):X×Env×Store:=((.exit 0),Qb z40.l0ash [.i a,.n b,.n c,.i o.1,.li e,.i g,.i o.2.1,.li j,.li k,.li o.2.2,.li p])
def z40.l0apack:List Leaf->Option LPack
 |[.i a,.n b,.n c,.i d,.li e,.i g,.i h,.li j,.li k,.li m,.li o]=>some (.one _ (z40.l0a a b c e g (d,h,m)) (z40.l0aout0 a b c d e g h j k m o))
 |_=>none
def z40.l0sh:Env×Store:=(.undef :: .undef::(.ptr 0 0) :: .undef::(.ptr 2 0)::(.sref 3 0)::un 12 ((.ints false .u64 [])::(.int .i64 0)::(.int .i64 0)::un 13 []),[(.cells 37 [(.ints false .u64 [])]),.dead,(.cells 37 [(.ints false .u64 [])]),(.arr 0 false 79 (.ints false .u64 []))])
def z40.l0out0 (a:List Int) (b c:Int) (d e g:List Int) (o:Int×(List Int)):X×Env×Store:=((.exit 0),Qb z40.l0sh [.li a,.i b,.i o.1,.li d,.li e,.li o.2])
def z40.l0pack:List Leaf->Option LPack
 |[.li a,.i b,.i c,.li d,.li e,.li g]=>some (.one _ (z40.l0 a b d (c,g)) (z40.l0out0 a b c d e g))
 |_=>none
def z40.C:Ctx where
 T:=tab
 draws:=λf i=>match f,i with|164,5=>([(26,[(2,0)],0),(27,[(7,0)],0),(28,[(5,0)],0),(29,[(6,0)],0),(30,[(27,3),(28,4)],12),(31,[(25,1),(26,2),(29,5)],31)],2113929216)|_,_=>([],0)
 call:=λg args=>match g with|268=>z39.pack args|183=>z0.pack args|185=>z23.pack args|_=>none
 inl:=λg=>match g with|227=>some (ifun Tryz.f227)|_=>none
 keep:=λf i=>match f,i with|227,0=>([1,2,3,6,13,14,15],List.range 64,[])|164,0=>([2,4,5,18,19,20],[0,2,3],[])|_,_=>([],[],[])
 keepE:=λf i=>match f,i with|227,0=>([1,2,3,6,13,14,15],List.range 64,[])|164,0=>([2,4,5,18,19,20],[0,2,3],[])|_,_=>([],[],[])
 keepR:=λf i=>match f,i with|227,0=>([],List.range 64,[])|164,0=>([4],[0,2,3],[4])|_,_=>([],[],[])
 L:=λf i b st=>match f,i,b with|227,0,4=>(matchSt z40.l0ash st).bind z40.l0apack|164,0,0=>(matchSt z40.l0sh st).bind z40.l0pack|_,_,_=>none
def z40.dec:V->Option ((List Int))
 |(.agg [(.ints _ .u64 x0)])=>some x0
 |_=>none
theorem z40.l0a_link (R:Type) (k:Env×Store->Option R) (d:X×Env×Store->Option R) (a:Int) (b c:Nat) (e:Int) (g:List Int) (h j:Int) (m p q r:List Int) :
  z40.C.loopPI (z40.C.inlK 0) 227 0 4 (Qf 0 (ifun Tryz.f227).body) 5 k d (Qb z40.l0ash [.i a,.n b,.n c,.i e,.li g,.i h,.i j,.li m,.li p,.li q,.li r]) =
  z40.l0aP a b c g h (λx'=>k (Qb z40.l0ash [.i a,.n b,.n c,.i x'.1,.li g,.i h,.i x'.2.1,.li m,.li p,.li x'.2.2,.li r])) (λo=>d (z40.l0aout0 a b c e g h j m p q r o)) (e,j,q):=by kernel_rfl
theorem z40.l0_link (R:Type) (k:Env×Store->Option R) (d:X×Env×Store->Option R) (a:List Int) (b c:Int) (e g h:List Int) :
  z40.C.loopP 164 0 (Qf 0 (ifun Tryz.f164).body) 4 k d (Qb z40.l0sh [.li a,.i b,.i c,.li e,.li g,.li h]) =
  z40.l0P a b e (λx'=>k (Qb z40.l0sh [.li a,.i b,.i x'.1,.li e,.li g,.li x'.2])) (λo=>d (z40.l0out0 a b c e g h o)) (c,h):=by kernel_rfl
theorem z40.link (a0 a1:List Int):z40.C.evTop 164 (ifun Tryz.f164) [(.agg [(.ints false .u64 a0)]),(.agg [(.ints false .u64 a1)])] z40.dec=z40.F a0 a1:=by kernel_rfl
def z46.C:Ctx where
 T:=tab
 draws:=λf i=>match f,i with|36,4=>([(18,[(4,0)],0),(19,[(17,1)],1),(20,[(18,2)],3),(21,[(19,3)],7),(22,[(4,0),(20,4)],15),(23,[(20,4)],15),(24,[(21,5),(22,6),(20,4)],63),(25,[(23,7),(20,4)],127),(26,[(20,4),(24,8)],255),(17,[(25,9)],511)],67043328)|_,_=>([],0)
 call:=λg args=>match g with|76=>z42.pack args|28=>z20.pack args|114=>z45.pack args|74=>z34.pack args|_=>none
def z46.dec:V->Option ((List Int)×Bool×Int)
 |(.tup [(.agg [(.ints _ .u64 x0),(.bool x1)]),(.int .i64 x2)])=>some (x0,x1,x2)
 |_=>none
theorem z46.link (a0:List UInt8):z46.C.evTop 36 (ifun Tryz.f36) [(.str a0)] z46.dec=z46.F a0:=by kernel_rfl
def z51.C:Ctx where
 T:=tab
def z51.dec:V->Option (Bool)
 |(.bool x0)=>some x0
 |_=>none
theorem z51.link (a0:Int):z51.C.evTop 202 (ifun Tryz.f202) [(.int .i64 a0)] z51.dec=z51.F a0:=by kernel_rfl
def z55.C:Ctx where
 T:=tab
 call:=λg args=>match g with|195=>z44.pack args|91=>z21.pack args|_=>none
def z55.dec:V->Option ((List Int)×Bool)
 |(.agg [(.ints _ .u64 x0),(.bool x1)])=>some (x0,x1)
 |_=>none
theorem z55.link (a0:Int):z55.C.evTop 204 (ifun Tryz.f204) [(.int .i64 a0)] z55.dec=z55.F a0:=by kernel_rfl
def z56.C:Ctx where
 T:=tab
 draws:=λf i=>match f,i with|203,1=>([(6,[(2,0)],0),(7,[(5,1)],1),(8,[(1,0)],0),(9,[(2,0)],0),(10,[(8,4)],8),(11,[(7,3),(9,5)],28),(12,[(10,6)],60),(13,[(6,2),(11,7)],127),(0,[(4,0),(12,8)],255)],8160)|_,_=>([],0)
 call:=λg args=>match g with|204=>z55.pack args|156=>z54.pack args|_=>none
def z56.dec:V->Option ((List Int)×Bool)
 |(.agg [(.ints _ .u64 x0),(.bool x1)])=>some (x0,x1)
 |_=>none
theorem z56.link (a0:List Int) (a1:Bool) (a2 a3:Int):z56.C.evTop 203 (ifun Tryz.f203) [(.agg [(.ints false .u64 a0),(.bool a1),(.int .i64 a2)]),(.int .i64 a3)] z56.dec=z56.F a0 a1 a2 a3:=by kernel_rfl
def z59.C:Ctx where
 T:=tab
def z59.dec:V->Option ((List Int))
 |(.agg [(.ints _ .u64 x0)])=>some x0
 |_=>none
theorem z59.link (a0:List Int) (a1:Bool):z59.C.evTop 92 (ifun Tryz.f92) [(.agg [(.ints false .u64 a0),(.bool a1)])] z59.dec=z59.F a0 a1:=by kernel_rfl
def z60.C:Ctx where
 T:=tab
 prim:=λg=>match g with|222=>some (cloneP (.ints true .u64 []) 79 8)|_=>none
def z60.dec:V->Option ((List Int))
 |(.ints _ .u64 x0)=>some x0
 |_=>none
theorem z60.link (a0:List Int):z60.C.evTop 188 (ifun Tryz.f188) [(.agg [(.ints false .u64 a0)])] z60.dec=z60.F a0:=by kernel_rfl
def z61.C:Ctx where
 T:=tab
def z61.dec:V->Option (Int)
 |(.int .i64 x0)=>some x0
 |_=>none
theorem z61.link (a0:Int):z61.C.evTop 280 (ifun Tryz.f280) [(.int .u64 a0)] z61.dec=z61.F a0:=by kernel_rfl
def z62.C:Ctx where
 T:=tab
 call:=λg args=>match g with|280=>z61.pack args|_=>none
def z62.dec:V->Option (Int)
 |(.int .i64 x0)=>some x0
 |_=>none
theorem z62.link (a0:Int):z62.C.evTop 262 (ifun Tryz.f262) [(.int .u64 a0)] z62.dec=z62.F a0:=by kernel_rfl
def z133.l0b4sh:Env×Store:=((.int .u64 0)::(.int .i64 0) :: .undef :: .undef::(.str ([]:List UInt8))::(.ptr 0 0)::(.int .i64 0)::un 21 [],[(.arr 0 false 321 (.ints false .u8 []))])
def z133.l0b4out0 (a b:Int) (c:List UInt8) (d:Int) (e:List Int) (o:Int×Int×(List Int)):X×Env×Store:=((.exit 0),Qb z133.l0b4sh [.i o.1,.i b,.s c,.i o.2.1,.li o.2.2])
def z133.l0b4pack:List Leaf->Option LPack
 |[.i a,.i b,.s c,.i d,.li e]=>some (.one _ (z133.l0b4 b (a,d,e)) (z133.l0b4out0 a b c d e))
 |_=>none
def z133.C:Ctx where
 T:=tab
 keep:=λf i=>match f,i with|189,0=>([0,1,4,5,6],[0],[])|_,_=>([],[],[])
 keepE:=λf i=>match f,i with|189,0=>([0,1,4,5,6],[0],[])|_,_=>([],[],[])
 keepR:=λf i=>match f,i with|189,0=>([4],[0],[4])|_,_=>([],[],[])
 L:=λf i b st=>match f,i,b with|189,0,0=>(matchSt z133.l0b4sh st).bind z133.l0b4pack|_,_,_=>none
def z133.dec:V->Option ((List UInt8))
 |(.str x0)=>some x0
 |_=>none
theorem z133.l0b4_link (R:Type) (k:Env×Store->Option R) (d:X×Env×Store->Option R) (a b:Int) (c:List UInt8) (e:Int) (g:List Int) :
  z133.C.loopP 189 0 (Qf 0 (ifun Tryz.f189).body) 1 k d (Qb z133.l0b4sh [.i a,.i b,.s c,.i e,.li g]) =
  z133.l0b4P b (λx'=>k (Qb z133.l0b4sh [.i x'.1,.i b,.s c,.i x'.2.1,.li x'.2.2])) (λo=>d (z133.l0b4out0 a b c e g o)) (a,e,g):=by kernel_rfl
theorem z133.link (a0 a1:Int):z133.C.evTop 189 (ifun Tryz.f189) [(.int .u64 a0),(.int .i64 a1)] z133.dec=z133.F a0 a1:=by kernel_rfl
end
noncomputable section
def z24.l0sh:Env×Store:=(.undef :: .undef::(.ptr 0 0)::(.ptr 1 0)::(.ptr 2 0)::(.sref 3 0)::(.int .u64 0)::un 11 ((.int .i64 0)::(.int .i64 0)::un 19 []),[(.cells 37 [(.ints false .u64 [])]),(.cells 37 [(.ints false .u64 [])]),(.cells 37 [(.ints false .u64 [])]),(.arr 0 false 79 (.ints false .u64 []))])
def z24.l0out0 (a b c:Int) (d e g h:List Int) (o:Int×Int×(List Int)):X×Env×Store:=((.exit 0),Qb z24.l0sh [.i o.1,.i b,.i o.2.1,.li d,.li e,.li g,.li o.2.2])
def z24.l0pack:List Leaf->Option LPack
 |[.i a,.i b,.i c,.li d,.li e,.li g,.li h]=>some (.one _ (z24.l0 b d e (a,c,h)) (z24.l0out0 a b c d e g h))
 |_=>none
def z24.C:Ctx where
 T:=tab
 draws:=λf i=>match f,i with|99,6=>([(24,[(5,0)],0),(25,[(7,0)],0),(26,[(2,0)],0),(27,[(7,0)],0),(28,[(25,3),(26,4)],12),(29,[(3,0)],0),(30,[(7,0)],0),(31,[(28,6),(29,7)],124),(32,[(6,16)],0),(33,[(27,5),(30,8),(31,9)],508),(23,[(32,10)],1020),(34,[(22,11)],2044),(35,[(22,11)],2044),(36,[(23,1),(24,2)],4095),(0,[(35,14),(33,12)],12287),(7,[(34,13)],32767)],68715282496)|_,_=>([],0)
 call:=λg args=>match g with|184=>z22.pack args|183=>z0.pack args|185=>z23.pack args|_=>none
 keep:=λf i=>match f,i with|99,0=>([2,3,4,5,6,18,19],[0,1,2,3],[])|_,_=>([],[],[])
 keepE:=λf i=>match f,i with|99,0=>([2,3,4,5,6,18,19],[0,1,2,3],[])|_,_=>([],[],[])
 keepR:=λf i=>match f,i with|99,0=>([4],[0,1,2,3],[4])|_,_=>([],[],[])
 L:=λf i b st=>match f,i,b with|99,0,0=>(matchSt z24.l0sh st).bind z24.l0pack|_,_,_=>none
def z24.dec:V->Option ((List Int))
 |(.agg [(.ints _ .u64 x0)])=>some x0
 |_=>none
theorem z24.l0_link (R:Type) (k:Env×Store->Option R) (d:X×Env×Store->Option R) (a b c:Int) (e g h j:List Int) :
  z24.C.loopP 99 0 (Qf 0 (ifun Tryz.f99).body) 4 k d (Qb z24.l0sh [.i a,.i b,.i c,.li e,.li g,.li h,.li j]) =
  z24.l0P b e g (λx'=>k (Qb z24.l0sh [.i x'.1,.i b,.i x'.2.1,.li e,.li g,.li h,.li x'.2.2])) (λo=>d (z24.l0out0 a b c e g h j o)) (a,c,j):=by kernel_rfl
theorem z24.link (a0 a1:List Int):z24.C.evTop 99 (ifun Tryz.f99) [(.agg [(.ints false .u64 a0)]),(.agg [(.ints false .u64 a1)])] z24.dec=z24.F a0 a1:=by kernel_rfl
def z25.C:Ctx where
 T:=tab
def z25.dec:V->Option (Bool)
 |(.bool x0)=>some x0
 |_=>none
theorem z25.link (a0:Int):z25.C.evTop 212 (ifun Tryz.f212) [(.int .i64 a0)] z25.dec=z25.F a0:=by kernel_rfl
def z31.C:Ctx where
 T:=tab
 draws:=λf i=>match f,i with|24,2=>([(15,[(2,0)],0),(16,[(14,1)],1),(17,[(3,0)],0),(18,[(16,3)],4),(19,[(15,2),(17,4)],15),(20,[(2,0)],0),(21,[(19,6)],32),(22,[(18,5),(20,7)],127),(0,[(4,0),(21,8)],255)],4177920)|_,_=>([],0)
 call:=λg args=>match g with|99=>z24.pack args|91=>z21.pack args|100=>z30.pack args|_=>none
def z31.dec:V->Option ((List Int)×Bool)
 |(.agg [(.ints _ .u64 x0),(.bool x1)])=>some (x0,x1)
 |_=>none
theorem z31.link (a0:List Int) (a1:Bool) (a2:List Int) (a3:Bool):z31.C.evTop 24 (ifun Tryz.f24) [(.agg [(.ints false .u64 a0),(.bool a1)]),(.agg [(.ints false .u64 a2),(.bool a3)])] z31.dec=z31.F a0 a1 a2 a3:=by kernel_rfl
def z32.C:Ctx where
 T:=tab
 call:=λg args=>match g with|91=>z21.pack args|_=>none
def z32.dec:V->Option ((List Int)×Bool)
 |(.agg [(.ints _ .u64 x0),(.bool x1)])=>some (x0,x1)
 |_=>none
theorem z32.link (a0:List Int) (a1:Bool):z32.C.evTop 110 (ifun Tryz.f110) [(.agg [(.ints false .u64 a0),(.bool a1)])] z32.dec=z32.F a0 a1:=by kernel_rfl
def z34.C:Ctx where
 T:=tab
 call:=λg args=>match g with|90=>z33.pack args|28=>z20.pack args|_=>none
def z34.dec:V->Option (Int)
 |(.int .i64 x0)=>some x0
 |_=>none
theorem z34.link (a0:List Int) (a1:Bool) (a2:List Int) (a3:Bool):z34.C.evTop 74 (ifun Tryz.f74) [(.agg [(.ints false .u64 a0),(.bool a1)]),(.agg [(.ints false .u64 a2),(.bool a3)])] z34.dec=z34.F a0 a1 a2 a3:=by kernel_rfl
def z44.C:Ctx where
 T:=tab
 call:=λg args=>match g with|158=>z38.pack args|247=>z43.pack args|_=>none
def z44.dec:V->Option ((List Int)×Int)
 |(.tup [(.agg [(.ints _ .u64 x0)]),(.int .i64 x1)])=>some (x0,x1)
 |_=>none
theorem z44.link (a0:Int):z44.C.evTop 195 (ifun Tryz.f195) [(.int .i64 a0)] z44.dec=z44.F a0:=by kernel_rfl
def z45.C:Ctx where
 T:=tab
 call:=λg args=>match g with|195=>z44.pack args|91=>z21.pack args|_=>none
def z45.dec:V->Option ((List Int)×Bool)
 |(.agg [(.ints _ .u64 x0),(.bool x1)])=>some (x0,x1)
 |_=>none
theorem z45.link:z45.C.evTop 114 (ifun Tryz.f114) [] z45.dec=z45.F:=by kernel_rfl
def z47.C:Ctx where
 T:=tab
def z47.dec:V->Option ((List Int)×Bool×(List Int))
 |(.agg [(.ints _ .u64 x0),(.bool x1),(.ints _ .u64 x2)])=>some (x0,x1,x2)
 |_=>none
theorem z47.link (a0:List Int) (a1:Bool):z47.C.evTop 68 (ifun Tryz.f68) [(.agg [(.ints false .u64 a0),(.bool a1)])] z47.dec=z47.F a0 a1:=by kernel_rfl
def z48.C:Ctx where
 T:=tab
 call:=λg args=>match g with|158=>z38.pack args|91=>z21.pack args|_=>none
def z48.dec:V->Option ((List Int)×Bool)
 |(.agg [(.ints _ .u64 x0),(.bool x1)])=>some (x0,x1)
 |_=>none
theorem z48.link (a0:Int):z48.C.evTop 69 (ifun Tryz.f69) [(.int .i64 a0)] z48.dec=z48.F a0:=by kernel_rfl
def z49.C:Ctx where
 T:=tab
 call:=λg args=>match g with|200=>z3.pack args|_=>none
def z49.dec:V->Option (Bool)
 |(.bool x0)=>some x0
 |_=>none
theorem z49.link (a0:List UInt8):z49.C.evTop 199 (ifun Tryz.f199) [(.str a0)] z49.dec=z49.F a0:=by kernel_rfl
def z53.C:Ctx where
 T:=tab
def z53.dec:V->Option ((List Int)×Bool)
 |(.agg [(.ints _ .u64 x0),(.bool x1)])=>some (x0,x1)
 |_=>none
theorem z53.link (a0:List Int) (a1:Bool) (a2:Int):z53.C.evTop 120 (ifun Tryz.f120) [(.agg [(.ints false .u64 a0),(.bool a1),(.int .i64 a2)])] z53.dec=z53.F a0 a1 a2:=by kernel_rfl
def z54.C:Ctx where
 T:=tab
 draws:=λf i=>match f,i with|156,1=>([(6,[(2,0)],0),(7,[(5,1)],1),(8,[(3,0)],0),(9,[(7,3)],4),(10,[(6,2),(8,4)],15),(11,[(2,0)],0),(12,[(10,6)],32),(13,[(3,0)],0),(14,[(12,8)],128),(15,[(11,7),(13,9)],480),(16,[(9,5),(14,10)],1023),(0,[(4,0),(15,11)],2047)],65504)|_,_=>([],0)
 call:=λg args=>match g with|164=>z40.pack args|91=>z21.pack args|_=>none
def z54.dec:V->Option ((List Int)×Bool)
 |(.agg [(.ints _ .u64 x0),(.bool x1)])=>some (x0,x1)
 |_=>none
theorem z54.link (a0:List Int) (a1:Bool) (a2:List Int) (a3:Bool):z54.C.evTop 156 (ifun Tryz.f156) [(.agg [(.ints false .u64 a0),(.bool a1)]),(.agg [(.ints false .u64 a2),(.bool a3)])] z54.dec=z54.F a0 a1 a2 a3:=by kernel_rfl
def z58.C:Ctx where
 T:=tab
def z58.dec:V->Option (Int)
 |(.int .i64 x0)=>some x0
 |_=>none
theorem z58.link (a0:List Int) (a1:Bool) (a2:Int):z58.C.evTop 122 (ifun Tryz.f122) [(.agg [(.ints false .u64 a0),(.bool a1),(.int .i64 a2)])] z58.dec=z58.F a0 a1 a2:=by kernel_rfl
def z74.C:Ctx where
 T:=tab
 call:=λg args=>match g with|130=>z73.pack args|91=>z21.pack args|_=>none
def z74.dec:V->Option ((List Int)×Bool)
 |(.agg [(.ints _ .u64 x0),(.bool x1)])=>some (x0,x1)
 |_=>none
theorem z74.link (a0:List Int) (a1:Bool) (a2:List Int):z74.C.evTop 157 (ifun Tryz.f157) [(.agg [(.ints false .u64 a0),(.bool a1),(.ints false .u64 a2)])] z74.dec=z74.F a0 a1 a2:=by kernel_rfl
def z75.C:Ctx where
 T:=tab
 draws:=λf i=>match f,i with|124,1=>([(7,[(2,0)],0),(8,[(6,1)],1),(9,[(3,0)],0),(10,[(8,3)],4),(11,[(7,2),(9,4)],15),(12,[(2,0)],0),(13,[(11,6)],63),(14,[(3,0)],0),(15,[(13,8)],128),(16,[(12,7),(14,9)],511),(17,[(10,5),(15,10)],1023),(18,[(16,11)],2047),(19,[(16,11)],2047),(0,[(4,0),(17,12)],8191),(6,[(18,13)],16383)],524256)|_,_=>([],0)
 call:=λg args=>match g with|157=>z74.pack args|156=>z54.pack args|176=>z71.pack args|_=>none
def z75.dec:V->Option ((List Int)×Bool×(List Int)×Int)
 |(.tup [(.agg [(.ints _ .u64 x0),(.bool x1),(.ints _ .u64 x2)]),(.int .i64 x3)])=>some (x0,x1,x2,x3)
 |_=>none
theorem z75.link (a0:List Int) (a1:Bool) (a2 a3:List Int) (a4:Bool) (a5:List Int):z75.C.evTop 124 (ifun Tryz.f124) [(.agg [(.ints false .u64 a0),(.bool a1),(.ints false .u64 a2)]),(.agg [(.ints false .u64 a3),(.bool a4),(.ints false .u64 a5)])] z75.dec=z75.F a0 a1 a2 a3 a4 a5:=by kernel_rfl
def z76.C:Ctx where
 T:=tab
 call:=λg args=>match g with|118=>z50.pack args|69=>z48.pack args|119=>z52.pack args|120=>z53.pack args|28=>z20.pack args|121=>z57.pack args|122=>z58.pack args|123=>z72.pack args|68=>z47.pack args|124=>z75.pack args|_=>none
def z76.dec:V->Option ((List Int)×Bool×(List Int)×Int)
 |(.tup [(.agg [(.ints _ .u64 x0),(.bool x1),(.ints _ .u64 x2)]),(.int .i64 x3)])=>some (x0,x1,x2,x3)
 |_=>none
theorem z76.link (a0:List UInt8):z76.C.evTop 38 (ifun Tryz.f38) [(.str a0)] z76.dec=z76.F a0:=by kernel_rfl
def z79.C:Ctx where
 T:=tab
def z79.dec:V->Option (Bool)
 |(.bool x0)=>some x0
 |_=>none
theorem z79.link (a0:Int):z79.C.evTop 214 (ifun Tryz.f214) [(.int .i64 a0)] z79.dec=z79.F a0:=by kernel_rfl
def z80.C:Ctx where
 T:=tab
def z80.dec:V->Option ((List (List UInt8)))
 |(.strs _ x0)=>some x0
 |_=>none
theorem z80.link:z80.C.evTop 215 (ifun Tryz.f215) [] z80.dec=z80.F:=by kernel_rfl
def z134.l2sh:Env×Store:=(.undef::(.ptr 0 0)::(.str ([]:List UInt8))::(.sref 1 0)::(.ptr 2 0) :: .undef :: .undef::(.int .u64 0)::un 19 ((.ints false .u64 [])::(.int .i64 0)::(.int .i64 0)::un 27 []),[(.cells 37 [(.ints false .u64 [])]),(.arr 0 true 9 (.strs false [])),(.cells 37 [(.ints false .u64 [])]),.dead])
def z134.l2out0 (a:List UInt8) (b:Int) (c:List Int) (d e:Int) (g:List Int) (h:List (List UInt8)) (j:List Int) (o:Int×Int):X×Env×Store:=((.exit 2),Qb z134.l2sh [.s a,.i o.1,.li c,.i d,.i o.2,.li g,.ls h,.li j])
def z134.l2pack:List Leaf->Option LPack
 |[.s a,.i b,.li c,.i d,.i e,.li g,.ls h,.li j]=>some (.one _ (z134.l2 c d (b,e)) (z134.l2out0 a b c d e g h j))
 |_=>none
def z134.l0sh:Env×Store:=(.undef::(.ptr 0 0)::(.str ([]:List UInt8))::(.sref 1 0)::un 53 [],[(.cells 37 [(.ints false .u64 [])]),(.arr 0 true 9 (.strs false []))])
def z134.l0out0 (a:List UInt8) (b:List Int) (c:List (List UInt8)) (o:(List Int)×(List (List UInt8))):X×Env×Store:=((.exit 0),Qb z134.l0sh [.s a,.li o.1,.ls o.2])
def z134.l0pack:List Leaf->Option LPack
 |[.s a,.li b,.ls c]=>some (.one _ (z134.l0 (b,c)) (z134.l0out0 a b c))
 |_=>none
def z134.l4sh:Env×Store:=(.undef :: .undef::(.str ([]:List UInt8))::(.sref 1 0)::un 7 ((.ptr 2 0)::(.int .i64 0)::un 44 []),[.dead,(.arr 0 true 9 (.strs false [])),(.cells 274 [(.ptr 2 0),(.sref 3 0)]),(.arr 0 true 5 (.ints false .u8 []))])
def z134.l4out0 (a:List UInt8) (b:Int) (c:List (List UInt8)) (d:List Int) (o:Int×(List Int)):X×Env×Store:=((.exit 4),Qb z134.l4sh [.s a,.i o.1,.ls c,.li o.2])
def z134.l4pack:List Leaf->Option LPack
 |[.s a,.i b,.ls c,.li d]=>some (.one _ (z134.l4 c (b,d)) (z134.l4out0 a b c d))
 |_=>none
def z134.C:Ctx where
 T:=tab
 draws:=λf i=>match f,i with|101,5=>([(20,[(1,0)],0),(21,[],0),(22,[(20,2)],2),(23,[(19,1),(21,3)],7),(19,[(22,4)],15),(24,[(18,5)],31),(25,[(18,5)],31),(26,[(18,5)],31),(5,[],0),(6,[],0),(0,[(4,9),(23,6)],831),(0,[(5,10),(24,7)],1919),(7,[(25,8)],4095)],66846832)|191,1=>([(4,[(0,0)],0),(5,[(3,1)],1),(6,[(4,2)],3),(7,[(5,3)],7),(8,[(6,4)],15),(9,[(0,0)],0),(10,[(8,6)],32),(11,[(9,7)],96),(12,[(10,8)],224),(13,[(11,9)],480),(14,[(7,5),(12,10)],1023),(3,[(13,11)],2047)],16380)|_,_=>([],0)
 call:=λg args=>match g with|104=>z19.pack args|158=>z38.pack args|162=>z68.pack args|188=>z60.pack args|189=>z133.pack args|_=>none
 inl:=λg=>match g with|191=>some (ifun Tryz.f191)|190=>some (ifun Tryz.f190)|_=>none
 rank:=λg=>match g with|190=>1|_=>0
 prim:=λg=>match g with|246=>some (copyP 274)|_=>none
 keep:=λf i=>match f,i with|101,2=>([1,2,3,4,7,27,28,29],[0,1,2],[])|101,0=>([1,2,3],[0,1],[])|101,4=>([2,3,11,12],[1,2,3],[])|_,_=>([],[],[])
 keepE:=λf i=>match f,i with|101,2=>([1,2,3,4,7,27,28,29],[0,1,2],[])|101,0=>([1,2,3],[0,1],[])|101,4=>([2,3,11,12],[1,2,3],[])|_,_=>([],[],[])
 keepR:=λf i=>match f,i with|101,2=>([2],[0,1,2],[2])|101,0=>([2],[0,1],[2])|101,4=>([2],[1,2,3],[2])|_,_=>([],[],[])
 unroll:=λf i=>match f,i with|101,4=>1|_,_=>0
 L:=λf i b st=>match f,i,b with|101,2,0=>(matchSt z134.l2sh st).bind z134.l2pack|101,0,0=>(matchSt z134.l0sh st).bind z134.l0pack|101,4,0=>(matchSt z134.l4sh st).bind z134.l4pack|_,_,_=>none
def z134.dec:V->Option ((List UInt8))
 |(.str x0)=>some x0
 |_=>none
theorem z134.l2_link (R:Type) (k:Env×Store->Option R) (d:X×Env×Store->Option R) (a:List UInt8) (b:Int) (c:List Int) (e g:Int) (h:List Int) (j:List (List UInt8)) (m:List Int) :
  z134.C.loopP 101 2 (Qf 2 (ifun Tryz.f101).body) 4 k d (Qb z134.l2sh [.s a,.i b,.li c,.i e,.i g,.li h,.ls j,.li m]) =
  z134.l2P c e (λx'=>k (Qb z134.l2sh [.s a,.i x'.1,.li c,.i e,.i x'.2,.li h,.ls j,.li m])) (λo=>d (z134.l2out0 a b c e g h j m o)) (b,g):=by kernel_rfl
theorem z134.l0_link (R:Type) (k:Env×Store->Option R) (d:X×Env×Store->Option R) (a:List UInt8) (b:List Int) (c:List (List UInt8)) :
  z134.C.loopP 101 0 (Qf 0 (ifun Tryz.f101).body) 2 k d (Qb z134.l0sh [.s a,.li b,.ls c]) =
  z134.l0P (λx'=>k (Qb z134.l0sh [.s a,.li x'.1,.ls x'.2])) (λo=>d (z134.l0out0 a b c o)) (b,c):=by kernel_rfl
theorem z134.l4_link (R:Type) (k:Env×Store->Option R) (d:X×Env×Store->Option R) (a:List UInt8) (b:Int) (c:List (List UInt8)) (e:List Int) :
  z134.C.loopP 101 4 (Qf 4 (ifun Tryz.f101).body) 4 k d (Qb z134.l4sh [.s a,.i b,.ls c,.li e]) =
  z134.l4P c (λx'=>k (Qb z134.l4sh [.s a,.i x'.1,.ls c,.li x'.2])) (λo=>d (z134.l4out0 a b c e o)) (b,e):=by kernel_rfl
theorem z134.link (a0:List Int):z134.C.evTop 101 (ifun Tryz.f101) [(.agg [(.ints false .u64 a0)])] z134.dec=z134.F a0:=by kernel_rfl
end
noncomputable section
def z20.C:Ctx where
 T:=tab
 call:=λg args=>match g with|104=>z19.pack args|_=>none
def z20.dec:V->Option (Int)
 |(.int .i64 x0)=>some x0
 |_=>none
theorem z20.link (a0:List Int) (a1:Bool):z20.C.evTop 28 (ifun Tryz.f28) [(.agg [(.ints false .u64 a0),(.bool a1)])] z20.dec=z20.F a0 a1:=by kernel_rfl
def z21.C:Ctx where
 T:=tab
 draws:=λf i=>match f,i with|91,1=>([(6,[(2,0)],0),(7,[(1,0)],0),(8,[(6,2)],2),(9,[(2,0),(7,3)],6),(10,[(8,4),(7,3)],14),(11,[(9,5),(7,3)],30),(12,[(7,3),(10,6)],62),(13,[(5,1),(11,7)],127),(0,[(4,0),(12,8)],255)],8160)|_,_=>([],0)
 call:=λg args=>match g with|104=>z19.pack args|_=>none
def z21.dec:V->Option ((List Int)×Bool)
 |(.agg [(.ints _ .u64 x0),(.bool x1)])=>some (x0,x1)
 |_=>none
theorem z21.link (a0:List Int) (a1:Bool):z21.C.evTop 91 (ifun Tryz.f91) [(.agg [(.ints false .u64 a0)]),(.bool a1)] z21.dec=z21.F a0 a1:=by kernel_rfl
def z26.C:Ctx where
 T:=tab
 call:=λg args=>match g with|212=>z25.pack args|_=>none
def z26.dec:V->Option (Int)
 |(.int .i64 x0)=>some x0
 |_=>none
theorem z26.link (a0 a1:Int):z26.C.evTop 146 (ifun Tryz.f146) [(.int .i64 a0),(.int .i64 a1)] z26.dec=z26.F a0 a1:=by kernel_rfl
def z30.l0sh:Env×Store:=(.undef :: .undef::(.ptr 0 0)::(.ptr 1 0)::(.ptr 2 0)::(.bool false)::(.sref 3 0)::(.int .u64 0)::un 11 ((.int .i64 0)::(.int .i64 0)::un 21 []),[(.cells 37 [(.ints false .u64 [])]),(.cells 37 [(.ints false .u64 [])]),(.cells 37 [(.ints false .u64 [])]),(.arr 0 false 79 (.ints false .u64 []))])
def z30.l0out0 (a:Bool) (c d e:Int) (g h j k:List Int) (o:Int×Int×(List Int)):X×Env×Store:=((.exit 0),Qb z30.l0sh [.b a,.i o.1,.i d,.i o.2.1,.li g,.li h,.li j,.li o.2.2])
def z30.l0pack:List Leaf->Option LPack
 |[.b a,.i c,.i d,.i e,.li g,.li h,.li j,.li k]=>some (.one _ (z30.l0 d g h (c,e,k)) (z30.l0out0 a c d e g h j k))
 |_=>none
def z30.C:Ctx where
 T:=tab
 draws:=λf i=>match f,i with|100,8=>([(25,[(6,0)],0),(26,[(8,0)],0),(27,[(2,0)],0),(28,[(26,3)],4),(29,[(8,0)],0),(30,[(27,4),(28,5)],28),(31,[(29,6)],60),(32,[(3,0)],0),(33,[(8,0)],0),(34,[(31,8),(32,9)],384),(35,[(7,18)],0),(36,[(30,7),(33,10),(34,11)],2044),(24,[(35,12)],4092),(37,[(23,13)],8188),(38,[(23,13)],8188),(39,[(24,1),(25,2)],16383),(0,[(38,16),(36,14)],49151),(8,[(37,15)],131071)],549747425408)|_,_=>([],0)
 call:=λg args=>match g with|186=>z29.pack args|184=>z22.pack args|187=>z1.pack args|185=>z23.pack args|_=>none
 keep:=λf i=>match f,i with|100,0=>([2,3,4,5,6,7,19,20],[0,1,2,3],[])|_,_=>([],[],[])
 keepE:=λf i=>match f,i with|100,0=>([2,3,4,5,6,7,19,20],[0,1,2,3],[])|_,_=>([],[],[])
 keepR:=λf i=>match f,i with|100,0=>([4,5],[0,1,2,3],[4,5])|_,_=>([],[],[])
 L:=λf i b st=>match f,i,b with|100,0,0=>(matchSt z30.l0sh st).bind z30.l0pack|_,_,_=>none
def z30.dec:V->Option ((List Int)×Bool)
 |(.tup [(.agg [(.ints _ .u64 x0)]),(.bool x1)])=>some (x0,x1)
 |_=>none
theorem z30.l0_link (R:Type) (k:Env×Store->Option R) (d:X×Env×Store->Option R) (a:Bool) (c e g:Int) (h j m n:List Int) :
  z30.C.loopP 100 0 (Qf 0 (ifun Tryz.f100).body) 4 k d (Qb z30.l0sh [.b a,.i c,.i e,.i g,.li h,.li j,.li m,.li n]) =
  z30.l0P e h j (λx'=>k (Qb z30.l0sh [.b a,.i x'.1,.i e,.i x'.2.1,.li h,.li j,.li m,.li x'.2.2])) (λo=>d (z30.l0out0 a c e g h j m n o)) (c,g,n):=by kernel_rfl
theorem z30.link (a0 a1:List Int):z30.C.evTop 100 (ifun Tryz.f100) [(.agg [(.ints false .u64 a0)]),(.agg [(.ints false .u64 a1)])] z30.dec=z30.F a0 a1:=by kernel_rfl
def z41.l2sh:Env×Store:=((.str ([]:List UInt8)) :: .undef::(.ptr 0 0)::(.int .i64 0)::(.ptr 1 0) :: .undef::(.int .i64 0)::(.int .u64 0)::un 39 ((.ptr 2 0)::un 21 []),[(.cells 37 [(.ints false .u64 [])]),(.cells 37 [(.ints false .u64 [])]),(.siter ([]:List UInt8) 0)])
def z41.l2out0 (a:List UInt8) (b c d:Int) (e g:List Int) (h:List UInt8) (j:Nat) (o:Int×Nat):X×Env×Store:=((.exit 2),Qb z41.l2sh [.s a,.i b,.i c,.i o.1,.li e,.li g,.s h,.n o.2])
def z41.l2pack:List Leaf->Option LPack
 |[.s a,.i b,.i c,.i d,.li e,.li g,.s h,.n j]=>some (.one _ (z41.l2 h (d,j)) (z41.l2out0 a b c d e g h j))
 |_=>none
def z41.l2ash:Env×Store:=((.str ([]:List UInt8)) :: .undef::(.ptr 0 0)::(.int .i64 0)::(.ptr 1 0) :: .undef::(.int .i64 0)::(.int .u64 0)::un 33 ((.int .i64 0)::(.bool false)::un 4 ((.ptr 2 0)::un 21 [])),[(.cells 37 [(.ints false .u64 [])]),(.cells 37 [(.ints false .u64 [])]),(.siter ([]:List UInt8) 0)])
def z41.l2aout0 (a:List UInt8) (c d e g:Int) (h:Bool) (j k:List Int) (m:List UInt8) (p:Nat) (o:Int×Nat):X×Env×Store:=((.exit 2),Qb z41.l2ash [.s a,.i c,.i d,.i o.1,.i g,.b h,.li j,.li k,.s m,.n o.2])
def z41.l2apack:List Leaf->Option LPack
 |[.s a,.i c,.i d,.i e,.i g,.b h,.li j,.li k,.s m,.n o]=>some (.one _ (z41.l2a m (e,o)) (z41.l2aout0 a c d e g h j k m o))
 |_=>none
def z41.l0aash:Env×Store:=((.str ([]:List UInt8)) :: .undef::(.ptr 0 0)::(.int .i64 0)::(.ptr 1 0)::(.bool false)::un 63 [],[(.cells 37 [(.ints false .u64 [])]),(.cells 37 [(.ints false .u64 [])])])
def z41.l0aaout0 (a:List UInt8) (c:Int) (d:Bool) (e g:List Int) (o:(List UInt8)×Bool×(List Int)):X×Env×Store:=((.exit 0),Qb z41.l0aash [.s o.1,.i c,.b o.2.1,.li e,.li o.2.2])
def z41.l0aapack:List Leaf->Option LPack
 |[.s a,.i c,.b d,.li e,.li g]=>some (.one _ (z41.l0aa (a,d,g)) (z41.l0aaout0 a c d e g))
 |_=>none
def z41.C:Ctx where
 T:=tab
 draws:=λf i=>match f,i with|161,17=>([(58,[(4,0)],0),(59,[],0),(60,[(58,2)],2),(61,[(57,1),(59,3)],7),(62,[(7,0)],0),(63,[(61,5)],16),(64,[(62,6)],63),(65,[(60,4),(63,7)],127),(0,[(4,0),(64,8)],255)],36749372959343247360)|_,_=>([],0)
 call:=λg args=>match g with|200=>z3.pack args|158=>z38.pack args|164=>z40.pack args|99=>z24.pack args|_=>none
 keep:=λf i=>match f,i with|161,2=>([0,2,3,4,6,7,41,42,47],[0,1,2],[])|161,0=>([0,2,3,4,5],[0,1],[])|_,_=>([],[],[])
 keepE:=λf i=>match f,i with|161,2=>([0,2,3,4,6,7,41,42,47],[0,1,2],[])|161,0=>([0,2,3,4,5],[0,1],[])|_,_=>([],[],[])
 keepR:=λf i=>match f,i with|161,2=>([2,3],[0,1,2],[2,3])|161,0=>([2,3],[0,1],[2,3])|_,_=>([],[],[])
 L:=λf i b st=>match f,i,b with|161,2,0=>(orP ((matchSt z41.l2sh st).bind z41.l2pack) ((matchSt z41.l2ash st).bind z41.l2apack))|161,0,0=>(matchSt z41.l0aash st).bind z41.l0aapack|_,_,_=>none
def z41.dec:V->Option ((List Int)×Int)
 |(.tup [(.agg [(.ints _ .u64 x0)]),(.int .i64 x1)])=>some (x0,x1)
 |_=>none
theorem z41.l2_link (R:Type) (k:Env×Store->Option R) (d:X×Env×Store->Option R) (a:List UInt8) (b c e:Int) (g h:List Int) (j:List UInt8) (m:Nat) :
  z41.C.loopP 161 2 (Qf 2 (ifun Tryz.f161).body) 3 k d (Qb z41.l2sh [.s a,.i b,.i c,.i e,.li g,.li h,.s j,.n m]) =
  z41.l2P j (λx'=>k (Qb z41.l2sh [.s a,.i b,.i c,.i x'.1,.li g,.li h,.s j,.n x'.2])) (λo=>d (z41.l2out0 a b c e g h j m o)) (e,m):=by kernel_rfl
theorem z41.l2a_link (R:Type) (k:Env×Store->Option R) (d:X×Env×Store->Option R) (a:List UInt8) (c e g h:Int) (j:Bool) (m p:List Int) (q:List UInt8) (r:Nat) :
  z41.C.loopP 161 2 (Qf 2 (ifun Tryz.f161).body) 3 k d (Qb z41.l2ash [.s a,.i c,.i e,.i g,.i h,.b j,.li m,.li p,.s q,.n r]) =
  z41.l2aP q (λx'=>k (Qb z41.l2ash [.s a,.i c,.i e,.i x'.1,.i h,.b j,.li m,.li p,.s q,.n x'.2])) (λo=>d (z41.l2aout0 a c e g h j m p q r o)) (g,r):=by kernel_rfl
theorem z41.l0aa_link (R:Type) (k:Env×Store->Option R) (d:X×Env×Store->Option R) (a:List UInt8) (c:Int) (e:Bool) (g h:List Int) :
  z41.C.loopP 161 0 (Qf 0 (ifun Tryz.f161).body) 2 k d (Qb z41.l0aash [.s a,.i c,.b e,.li g,.li h]) =
  z41.l0aaP (λx'=>k (Qb z41.l0aash [.s x'.1,.i c,.b x'.2.1,.li g,.li x'.2.2])) (λo=>d (z41.l0aaout0 a c e g h o)) (a,e,h):=by kernel_rfl
theorem z41.link (a0:List UInt8):z41.C.evTop 161 (ifun Tryz.f161) [(.str a0)] z41.dec=z41.F a0:=by kernel_rfl
def z42.C:Ctx where
 T:=tab
 call:=λg args=>match g with|160=>z37.pack args|161=>z41.pack args|104=>z19.pack args|91=>z21.pack args|_=>none
def z42.dec:V->Option ((List Int)×Bool×Int)
 |(.tup [(.agg [(.ints _ .u64 x0),(.bool x1)]),(.int .i64 x2)])=>some (x0,x1,x2)
 |_=>none
theorem z42.link (a0:List UInt8):z42.C.evTop 76 (ifun Tryz.f76) [(.str a0)] z42.dec=z42.F a0:=by kernel_rfl
def z65.C:Ctx where
 T:=tab
def z65.dec:V->Option (Bool)
 |(.bool x0)=>some x0
 |_=>none
theorem z65.link (a0:Int):z65.C.evTop 281 (ifun Tryz.f281) [(.int .i64 a0)] z65.dec=z65.F a0:=by kernel_rfl
def z66.l0sh:Env×Store:=(un 4 ((.ptr 1 0)::(.int .i64 0)::(.sview 4 0 0 0)::(.int .u64 0)::un 17 ((.int .i64 0)::(.int .i64 0)::un 31 [])),[.dead,(.cells 37 [(.ints false .u64 [])]),.dead,.dead,(.arr 0 true 79 (.ints false .u64 []))])
def z66.l0out0 (a:Int) (b c:Nat) (d e g:Int) (h j:List Int) (o:Int×(List Int)):X×Env×Store:=((.exit 0),Qb z66.l0sh [.i a,.n b,.n c,.i d,.i e,.i o.1,.li h,.li o.2])
def z66.l0pack:List Leaf->Option LPack
 |[.i a,.n b,.n c,.i d,.i e,.i g,.li h,.li j]=>some (.one _ (z66.l0 b c d e (g,j)) (z66.l0out0 a b c d e g h j))
 |_=>none
def z66.C:Ctx where
 T:=tab
 draws:=λf i=>match f,i with|267,11=>([(42,[(6,0)],0),(43,[(8,0)],0),(44,[(41,1),(42,2)],3),(45,[(43,3)],7),(46,[(6,0)],0),(47,[(8,0)],0),(48,[(46,6)],32),(49,[(45,5),(47,7)],112),(50,[(48,8)],240),(51,[(7,0)],0),(52,[(50,10)],512),(53,[(49,9),(51,11)],2032),(54,[(44,4),(52,12)],4095),(55,[(41,1),(42,2)],8191),(0,[(54,14),(53,13)],16383)],36026597995708416)|_,_=>([],0)
 call:=λg args=>match g with|281=>z65.pack args|158=>z38.pack args|_=>none
 inl:=λg=>match g with|188=>some (ifun Tryz.f188)|_=>none
 rank:=λg=>match g with|188=>1|_=>0
 prim:=λg=>match g with|222=>some (cloneP (.ints true .u64 []) 79 8)|_=>none
 keep:=λf i=>match f,i with|267,0=>([4,5,6,7,25,26],[1,4],[])|_,_=>([],[],[])
 keepE:=λf i=>match f,i with|267,0=>([4,5,6,7,25,26],[1,4],[])|_,_=>([],[],[])
 keepR:=λf i=>match f,i with|267,0=>([4,5],[1,4],[4,5])|_,_=>([],[],[])
 L:=λf i b st=>match f,i,b with|267,0,0=>(matchSt z66.l0sh st).bind z66.l0pack|_,_,_=>none
def z66.dec:V->Option ((List Int)×Int)
 |(.tup [(.agg [(.ints _ .u64 x0)]),(.int .i64 x1)])=>some (x0,x1)
 |_=>none
theorem z66.l0_link (R:Type) (k:Env×Store->Option R) (d:X×Env×Store->Option R) (a:Int) (b c:Nat) (e g h:Int) (j m:List Int) :
  z66.C.loopP 267 0 (Qf 0 (ifun Tryz.f267).body) 5 k d (Qb z66.l0sh [.i a,.n b,.n c,.i e,.i g,.i h,.li j,.li m]) =
  z66.l0P b c e g (λx'=>k (Qb z66.l0sh [.i a,.n b,.n c,.i e,.i g,.i x'.1,.li j,.li x'.2])) (λo=>d (z66.l0out0 a b c e g h j m o)) (h,m):=by kernel_rfl
theorem z66.link (a0:List Int) (a1:Int):z66.C.evTop 267 (ifun Tryz.f267) [(.agg [(.ints false .u64 a0)]),(.int .i64 a1)] z66.dec=z66.F a0 a1:=by kernel_rfl
def z67.l0sh:Env×Store:=(.undef::(.int .u64 0) :: .undef :: .undef::(.sref 2 0)::(.sref 3 0)::un 6 ((.ints false .u64 [])::(.int .i64 0)::(.int .i64 0)::un 23 []),[(.arr 0 true 79 (.ints false .u64 [])),(.arr 0 true 79 (.ints false .u64 [])),(.arr 0 true 79 (.ints false .u64 [])),(.arr 0 false 79 (.ints false .u64 []))])
def z67.l0out0 (a:Int) (b:List Int) (c d:Int) (e g h j:List Int) (o:Int×(List Int)):X×Env×Store:=((.exit 0),Qb z67.l0sh [.i a,.li b,.i c,.i o.1,.li e,.li g,.li h,.li o.2])
def z67.l0pack:List Leaf->Option LPack
 |[.i a,.li b,.i c,.i d,.li e,.li g,.li h,.li j]=>some (.one _ (z67.l0 a b c (d,j)) (z67.l0out0 a b c d e g h j))
 |_=>none
def z67.l0ash:Env×Store:=(.undef::(.int .u64 0) :: .undef :: .undef::(.sref 4 0)::(.sref 5 0)::un 6 ((.ints false .u64 [])::(.int .i64 0)::(.int .i64 0)::un 23 []),[(.arr 0 true 79 (.ints false .u64 [])),(.arr 0 true 79 (.ints false .u64 [])),(.arr 0 true 79 (.ints false .u64 [])),(.arr 0 false 79 (.ints false .u64 [])),(.arr 0 true 79 (.ints false .u64 [])),(.arr 0 false 79 (.ints false .u64 []))])
def z67.l0aout0 (a:Int) (b:List Int) (c d:Int) (e g h j k m:List Int) (o:Int×(List Int)):X×Env×Store:=((.exit 0),Qb z67.l0ash [.i a,.li b,.i c,.i o.1,.li e,.li g,.li h,.li j,.li k,.li o.2])
def z67.l0apack:List Leaf->Option LPack
 |[.i a,.li b,.i c,.i d,.li e,.li g,.li h,.li j,.li k,.li m]=>some (.one _ (z67.l0a a b c (d,m)) (z67.l0aout0 a b c d e g h j k m))
 |_=>none
def z67.l0b3sh:Env×Store:=((.sview 3 0 0 0)::(.sview 5 0 0 0)::(.int .u64 0)::un 3 ((.int .u64 0)::(.int .u64 0)::(.int .u64 0)::un 5 ((.sview 5 0 0 0)::(.int .i64 0)::(.int .i64 0)::un 49 [])),[(.arr 0 true 79 (.ints false .u64 [])),(.arr 0 true 79 (.ints false .u64 [])),.dead,(.arr 0 false 79 (.ints false .u64 [])),.dead,(.arr 0 false 79 (.ints false .u64 [])),(.arr 0 false 79 (.ints false .u64 []))])
def z67.l0b3out0 (a b c d:Nat) (e g h j:Int) (k m:Nat) (p q:Int) (r s t u v:List Int) (o:Int×Int×Int×(List Int)):X×Env×Store:=((.exit 0),Qb z67.l0b3sh [.n a,.n b,.n c,.n d,.i e,.i g,.i o.1,.i o.2.1,.n k,.n m,.i p,.i o.2.2.1,.li r,.li s,.li o.2.2.2,.li u,.li v])
def z67.l0b3pack:List Leaf->Option LPack
 |[.n a,.n b,.n c,.n d,.i e,.i g,.i h,.i j,.n k,.n m,.i o,.i p,.li q,.li r,.li s,.li t,.li u]=>some (.one _ (z67.l0b3 a b e k m o t (h,j,p,s)) (z67.l0b3out0 a b c d e g h j k m o p q r s t u))
 |_=>none
def z67.l0b4sh:Env×Store:=((.sview 3 0 0 0)::(.sview 5 0 0 0) :: .undef :: .undef::(.int .u64 0) :: .undef :: .undef::(.sview 5 0 0 0)::(.int .i64 0)::(.int .i64 0)::un 26 [],[(.arr 0 true 79 (.ints false .u64 [])),(.arr 0 true 79 (.ints false .u64 [])),.dead,(.arr 0 false 79 (.ints false .u64 [])),.dead,(.arr 0 false 79 (.ints false .u64 [])),(.arr 0 false 79 (.ints false .u64 []))])
def z67.l0b4out0 (a b c d:Nat) (e:Int) (g h:Nat) (j k:Int) (m p q r s:List Int) (o:Int×Int×(List Int)):X×Env×Store:=((.exit 0),Qb z67.l0b4sh [.n a,.n b,.n c,.n d,.i o.1,.n g,.n h,.i j,.i o.2.1,.li m,.li p,.li o.2.2,.li r,.li s])
def z67.l0b4pack:List Leaf->Option LPack
 |[.n a,.n b,.n c,.n d,.i e,.n g,.n h,.i j,.i k,.li m,.li o,.li p,.li q,.li r]=>some (.one _ (z67.l0b4 a b g h j q (e,k,p)) (z67.l0b4out0 a b c d e g h j k m o p q r))
 |_=>none
def z67.l2sh:Env×Store:=((.sref 3 0)::(.sview 5 0 0 0) :: .undef :: .undef::(.sref 0 0)::(.sref 1 0)::(.int .u64 0)::(.sref 6 0)::(.int .i64 0)::(.sview 3 0 0 0)::(.int .u64 0)::(.int .u64 0)::un 75 [],[(.arr 0 true 79 (.ints false .u64 [])),(.arr 0 true 79 (.ints false .u64 [])),.dead,(.arr 0 false 79 (.ints false .u64 [])),.dead,(.arr 0 false 79 (.ints false .u64 [])),(.arr 0 false 79 (.ints false .u64 []))])
def z67.l2out0 (a b:Nat) (c d:Int) (e g:Nat) (h j:Int) (k m p q r:List Int) (o:Int×Int×(List Int)):X×Env×Store:=((.exit 2),Qb z67.l2sh [.n a,.n b,.i c,.i d,.n e,.n g,.i o.1,.i o.2.1,.li k,.li m,.li o.2.2,.li q,.li r])
def z67.l2pack:List Leaf->Option LPack
 |[.n a,.n b,.i c,.i d,.n e,.n g,.i h,.i j,.li k,.li m,.li o,.li p,.li q]=>some (.one _ (z67.l2 a b e g p (h,j,o)) (z67.l2out0 a b c d e g h j k m o p q))
 |_=>none
def z67.l0aash:Env×Store:=((.sref 3 0)::(.sview 5 0 0 0) :: .undef :: .undef::(.sref 0 0)::(.sref 1 0)::(.int .u64 0)::(.sref 6 0)::(.int .i64 0)::un 78 [],[(.arr 0 true 79 (.ints false .u64 [])),(.arr 0 true 79 (.ints false .u64 [])),.dead,(.arr 0 false 79 (.ints false .u64 [])),.dead,(.arr 0 false 79 (.ints false .u64 [])),(.arr 0 false 79 (.ints false .u64 []))])
def z67.l0aaout0 (a b:Nat) (c d:Int) (e g h j k:List Int) (o:Int×(List Int)×(List Int)):X×Env×Store:=((.exit 0),Qb z67.l0aash [.n a,.n b,.i c,.i o.1,.li e,.li g,.li o.2.1,.li j,.li o.2.2])
def z67.l0aapack:List Leaf->Option LPack
 |[.n a,.n b,.i c,.i d,.li e,.li g,.li h,.li j,.li k]=>some (.one _ (z67.l0aa a b j (d,h,k)) (z67.l0aaout0 a b c d e g h j k))
 |_=>none
def z67.C:Ctx where
 T:=tab
 draws:=λf i=>match f,i with|225,2=>([(23,[(0,10)],0),(24,[(6,0)],0),(25,[(22,1),(23,2)],3),(26,[(1,11)],0),(27,[(6,0)],0),(28,[(25,4),(26,5)],31),(29,[(1,11)],0),(30,[(28,7)],64),(31,[(27,6),(29,8)],255),(1,[(24,3)],63),(2,[(30,9)],1023)],2143289347)|264,2=>([(18,[(0,0)],0),(19,[(5,0)],0),(20,[(17,1),(18,2)],3),(21,[(19,3)],7),(22,[(0,0)],0),(23,[(5,0)],0),(24,[(22,6)],32),(25,[(21,5),(23,7)],112),(26,[(24,8)],240),(27,[(0,0)],0),(28,[(5,0)],0),(29,[(27,11)],1024),(30,[(26,10),(28,12)],3584),(31,[(29,13)],7680),(7,[(20,4)],15),(8,[(25,9)],16895),(9,[(30,14)],65535)],2147353024)|_,_=>([],0)
 call:=λg args=>match g with|262=>z62.pack args|268=>z39.pack args|183=>z0.pack args|187=>z1.pack args|261=>z63.pack args|158=>z38.pack args|267=>z66.pack args|188=>z60.pack args|_=>none
 inl:=λg=>match g with|263=>some (ifun Tryz.f263)|264=>some (ifun Tryz.f264)|265=>some (ifun Tryz.f265)|266=>some (ifun Tryz.f266)|_=>none
 keep:=λf i=>match f,i with|263,0=>([1,4,5,12,13,14],List.range 64,[])|265,0=>([0,1,2,6,7,8,14,15,16],List.range 64,[])|266,0=>([0,1,4,7,8,9],List.range 64,[])|225,2=>([0,1,4,5,6,7,8,9,10,11],[0,1,3,5,6],[])|225,0=>([0,1,4,5,6,7,8],[0,1,3,5,6],[])|_,_=>([],[],[])
 keepE:=λf i=>match f,i with|263,0=>([1,4,5,12,13,14],List.range 64,[])|265,0=>([0,1,2,6,7,8,14,15,16],List.range 64,[])|266,0=>([0,1,4,7,8,9],List.range 64,[])|225,2=>([0,1,4,5,6,7,8,9,10,11],[0,1,3,5,6],[])|225,0=>([0,1,4,5,6,7,8],[0,1,3,5,6],[])|_,_=>([],[],[])
 keepR:=λf i=>match f,i with|263,0=>([4],List.range 64,[])|265,0=>([6],List.range 64,[])|266,0=>([],List.range 64,[])|225,2=>([4,5],[0,1,3,5,6],[4,5])|225,0=>([4,5],[0,1,3,5,6],[4,5])|_,_=>([],[],[])
 unroll:=λf i=>match f,i with|264,1000000=>2|_,_=>0
 L:=λf i b st=>match f,i,b with|263,0,2=>(matchSt z67.l0sh st).bind z67.l0pack|263,0,4=>(matchSt z67.l0ash st).bind z67.l0apack|265,0,7=>(matchSt z67.l0b3sh st).bind z67.l0b3pack|266,0,7=>(matchSt z67.l0b4sh st).bind z67.l0b4pack|225,2,0=>(matchSt z67.l2sh st).bind z67.l2pack|225,0,0=>(matchSt z67.l0aash st).bind z67.l0aapack|_,_,_=>none
def z67.dec:V->Option ((List Int)×(List Int))
 |(.tup [(.ints _ .u64 x0),(.ints _ .u64 x1)])=>some (x0,x1)
 |_=>none
theorem z67.l0_link (R:Type) (k:Env×Store->Option R) (d:X×Env×Store->Option R) (a:Int) (b:List Int) (c e:Int) (g h j m:List Int) :
  z67.C.loopPI (z67.C.inlK 0) 263 0 2 (Qf 0 (ifun Tryz.f263).body) 4 k d (Qb z67.l0sh [.i a,.li b,.i c,.i e,.li g,.li h,.li j,.li m]) =
  z67.l0P a b c (λx'=>k (Qb z67.l0sh [.i a,.li b,.i c,.i x'.1,.li g,.li h,.li j,.li x'.2])) (λo=>d (z67.l0out0 a b c e g h j m o)) (e,m):=by kernel_rfl
theorem z67.l0a_link (R:Type) (k:Env×Store->Option R) (d:X×Env×Store->Option R) (a:Int) (b:List Int) (c e:Int) (g h j m n p:List Int) :
  z67.C.loopPI (z67.C.inlK 0) 263 0 4 (Qf 0 (ifun Tryz.f263).body) 6 k d (Qb z67.l0ash [.i a,.li b,.i c,.i e,.li g,.li h,.li j,.li m,.li n,.li p]) =
  z67.l0aP a b c (λx'=>k (Qb z67.l0ash [.i a,.li b,.i c,.i x'.1,.li g,.li h,.li j,.li m,.li n,.li x'.2])) (λo=>d (z67.l0aout0 a b c e g h j m n p o)) (e,p):=by kernel_rfl
theorem z67.l0b3_link (R:Type) (k:Env×Store->Option R) (d:X×Env×Store->Option R) (a b c e:Nat) (g h j m:Int) (p q:Nat) (r s:Int) (t u v w x:List Int) :
  z67.C.loopPI (z67.C.inlK 0) 265 0 7 (Qf 0 (ifun Tryz.f265).body) 7 k d (Qb z67.l0b3sh [.n a,.n b,.n c,.n e,.i g,.i h,.i j,.i m,.n p,.n q,.i r,.i s,.li t,.li u,.li v,.li w,.li x]) =
  z67.l0b3P a b g p q r w (λx'=>k (Qb z67.l0b3sh [.n a,.n b,.n c,.n e,.i g,.i h,.i x'.1,.i x'.2.1,.n p,.n q,.i r,.i x'.2.2.1,.li t,.li u,.li x'.2.2.2,.li w,.li x])) (λo=>d (z67.l0b3out0 a b c e g h j m p q r s t u v w x o)) (j,m,s,v):=by kernel_rfl
theorem z67.l0b4_link (R:Type) (k:Env×Store->Option R) (d:X×Env×Store->Option R) (a b c e:Nat) (g:Int) (h j:Nat) (m p:Int) (q r s t u:List Int) :
  z67.C.loopPI (z67.C.inlK 0) 266 0 7 (Qf 0 (ifun Tryz.f266).body) 7 k d (Qb z67.l0b4sh [.n a,.n b,.n c,.n e,.i g,.n h,.n j,.i m,.i p,.li q,.li r,.li s,.li t,.li u]) =
  z67.l0b4P a b h j m t (λx'=>k (Qb z67.l0b4sh [.n a,.n b,.n c,.n e,.i x'.1,.n h,.n j,.i m,.i x'.2.1,.li q,.li r,.li x'.2.2,.li t,.li u])) (λo=>d (z67.l0b4out0 a b c e g h j m p q r s t u o)) (g,p,s):=by kernel_rfl
theorem z67.l2_link (R:Type) (k:Env×Store->Option R) (d:X×Env×Store->Option R) (a b:Nat) (c e:Int) (g h:Nat) (j m:Int) (p q r s t:List Int) :
  z67.C.loopP 225 2 (Qf 2 (ifun Tryz.f225).body) 7 k d (Qb z67.l2sh [.n a,.n b,.i c,.i e,.n g,.n h,.i j,.i m,.li p,.li q,.li r,.li s,.li t]) =
  z67.l2P a b g h s (λx'=>k (Qb z67.l2sh [.n a,.n b,.i c,.i e,.n g,.n h,.i x'.1,.i x'.2.1,.li p,.li q,.li x'.2.2,.li s,.li t])) (λo=>d (z67.l2out0 a b c e g h j m p q r s t o)) (j,m,r):=by kernel_rfl
theorem z67.l0aa_link (R:Type) (k:Env×Store->Option R) (d:X×Env×Store->Option R) (a b:Nat) (c e:Int) (g h j m p:List Int) :
  z67.C.loopP 225 0 (Qf 0 (ifun Tryz.f225).body) 7 k d (Qb z67.l0aash [.n a,.n b,.i c,.i e,.li g,.li h,.li j,.li m,.li p]) =
  z67.l0aaP a b m (λx'=>k (Qb z67.l0aash [.n a,.n b,.i c,.i x'.1,.li g,.li h,.li x'.2.1,.li m,.li x'.2.2])) (λo=>d (z67.l0aaout0 a b c e g h j m p o)) (e,j,p):=by kernel_rfl
theorem z67.link (a0 a1:List Int):z67.C.evTop 225 (ifun Tryz.f225) [(.ints false .u64 a0),(.ints false .u64 a1)] z67.dec=z67.F a0 a1:=by kernel_rfl
def z68.C:Ctx where
 T:=tab
 draws:=λf i=>match f,i with|162,4=>([(22,[],0),(23,[(2,0)],0),(0,[(4,0),(21,1)],1),(0,[(5,0),(22,2)],7),(7,[],15)],6291520)|162,5=>([(24,[(2,0)],0),(25,[(23,1)],1),(26,[(3,0)],0),(27,[(25,3)],7),(8,[(24,2)],15),(9,[(26,4)],31)],125829504)|_,_=>([],0)
 call:=λg args=>match g with|104=>z19.pack args|186=>z29.pack args|188=>z60.pack args|224=>z64.pack args|158=>z38.pack args|225=>z67.pack args|_=>none
def z68.dec:V->Option ((List Int)×(List Int)×Int)
 |(.tup [(.agg [(.ints _ .u64 x0)]),(.agg [(.ints _ .u64 x1)]),(.int .i64 x2)])=>some (x0,x1,x2)
 |_=>none
theorem z68.link (a0 a1:List Int):z68.C.evTop 162 (ifun Tryz.f162) [(.agg [(.ints false .u64 a0)]),(.agg [(.ints false .u64 a1)])] z68.dec=z68.F a0 a1:=by kernel_rfl
def z69.l0sh:Env×Store:=(.undef :: .undef::(.ptr 0 0)::(.ptr 1 0)::(.ptr 2 0)::un 16 [],[(.cells 37 [(.ints false .u64 [])]),(.cells 37 [(.ints false .u64 [])]),(.cells 37 [(.ints false .u64 [])])])
def z69.l0out0 (a b c:List Int) (o:(List Int)×(List Int)):X×Env×Store:=((.exit 0),Qb z69.l0sh [.li o.1,.li o.2,.li c])
def z69.l0pack:List Leaf->Option LPack
 |[.li a,.li b,.li c]=>some (.one _ (z69.l0 (a,b)) (z69.l0out0 a b c))
 |_=>none
def z69.C:Ctx where
 T:=tab
 draws:=λf i=>match f,i with|226,3=>([(19,[(3,0)],0),(20,[(6,0)],0),(0,[(2,0),(18,1)],1),(0,[(3,0),(19,2)],7)],786432)|_,_=>([],0)
 call:=λg args=>match g with|104=>z19.pack args|162=>z68.pack args|_=>none
 keep:=λf i=>match f,i with|226,0=>([2,3,4],[0,1,2],[])|_,_=>([],[],[])
 keepE:=λf i=>match f,i with|226,0=>([2,3,4],[0,1,2],[])|_,_=>([],[],[])
 keepR:=λf i=>match f,i with|226,0=>([4],[0,1,2],[4])|_,_=>([],[],[])
 L:=λf i b st=>match f,i,b with|226,0,0=>(matchSt z69.l0sh st).bind z69.l0pack|_,_,_=>none
def z69.dec:V->Option ((List Int))
 |(.agg [(.ints _ .u64 x0)])=>some x0
 |_=>none
theorem z69.l0_link (R:Type) (k:Env×Store->Option R) (d:X×Env×Store->Option R) (a b c:List Int) :
  z69.C.loopP 226 0 (Qf 0 (ifun Tryz.f226).body) 3 k d (Qb z69.l0sh [.li a,.li b,.li c]) =
  z69.l0P (λx'=>k (Qb z69.l0sh [.li x'.1,.li x'.2,.li c])) (λo=>d (z69.l0out0 a b c o)) (a,b):=by kernel_rfl
theorem z69.link (a0 a1:List Int):z69.C.evTop 226 (ifun Tryz.f226) [(.agg [(.ints false .u64 a0)]),(.agg [(.ints false .u64 a1)])] z69.dec=z69.F a0 a1:=by kernel_rfl
def z72.C:Ctx where
 T:=tab
 draws:=λf i=>match f,i with|123,1=>([(7,[(1,0)],0),(8,[(6,1)],1),(9,[(1,0)],0),(10,[(8,3)],4),(11,[(9,4)],12),(12,[(7,2),(10,5)],31),(6,[(11,6)],63),(13,[(5,7)],127),(14,[(5,7)],127),(4,[],0),(0,[(3,10),(12,8)],767),(5,[(13,9)],2047)],16376)|_,_=>([],0)
 call:=λg args=>match g with|204=>z55.pack args|176=>z71.pack args|_=>none
def z72.dec:V->Option ((List Int)×Bool×(List Int))
 |(.agg [(.ints _ .u64 x0),(.bool x1),(.ints _ .u64 x2)])=>some (x0,x1,x2)
 |_=>none
theorem z72.link (a0:List Int) (a1:Bool) (a2:Int):z72.C.evTop 123 (ifun Tryz.f123) [(.agg [(.ints false .u64 a0),(.bool a1),(.int .i64 a2)])] z72.dec=z72.F a0 a1 a2:=by kernel_rfl
def z73.C:Ctx where
 T:=tab
 draws:=λf i=>match f,i with|130,1=>([(4,[(1,0)],0),(5,[(3,1)],1),(6,[],0),(7,[(5,3)],4),(8,[(4,2),(6,4)],15),(0,[(2,0),(7,5)],31)],248)|_,_=>([],0)
 call:=λg args=>match g with|158=>z38.pack args|99=>z24.pack args|_=>none
def z73.dec:V->Option ((List Int))
 |(.agg [(.ints _ .u64 x0)])=>some x0
 |_=>none
theorem z73.link (a0:List Int) (a1:Bool) (a2:List Int):z73.C.evTop 130 (ifun Tryz.f130) [(.agg [(.ints false .u64 a0),(.bool a1),(.ints false .u64 a2)])] z73.dec=z73.F a0 a1 a2:=by kernel_rfl
def z82.C:Ctx where
 T:=tab
def z82.dec:V->Option (Bool)
 |(.bool x0)=>some x0
 |_=>none
theorem z82.link (a0:Int):z82.C.evTop 228 (ifun Tryz.f228) [(.int .i64 a0)] z82.dec=z82.F a0:=by kernel_rfl
def z86.C:Ctx where
 T:=tab
def z86.dec:V->Option (Bool)
 |(.bool x0)=>some x0
 |_=>none
theorem z86.link (a0:Int):z86.C.evTop 258 (ifun Tryz.f258) [(.int .i64 a0)] z86.dec=z86.F a0:=by kernel_rfl
def z87.C:Ctx where
 T:=tab
 call:=λg args=>match g with|258=>z86.pack args|_=>none
def z87.dec:V->Option (Bool)
 |(.bool x0)=>some x0
 |_=>none
theorem z87.link (a0:Int):z87.C.evTop 259 (ifun Tryz.f259) [(.int .i64 a0)] z87.dec=z87.F a0:=by kernel_rfl
def z88.C:Ctx where
 T:=tab
 call:=λg args=>match g with|258=>z86.pack args|259=>z87.pack args|_=>none
def z88.dec:V->Option (Int)
 |(.int .i64 x0)=>some x0
 |_=>none
theorem z88.link (a0 a1:Int):z88.C.evTop 210 (ifun Tryz.f210) [(.int .i64 a0),(.int .i64 a1)] z88.dec=z88.F a0 a1:=by kernel_rfl
def z89.C:Ctx where
 T:=tab
 draws:=λf i=>match f,i with|142,1=>([(4,[(1,0)],0),(5,[(3,1)],1),(6,[(4,2)],3),(7,[(5,3)],7),(8,[(1,0),(6,4)],15),(9,[(7,5),(6,4)],31),(10,[(1,0),(6,4)],15),(11,[(9,7),(6,4)],79),(12,[(1,0),(6,4)],15),(13,[(11,9),(6,4)],271),(14,[(10,8),(12,10),(6,4)],975),(15,[(8,6),(13,11),(6,4)],2047),(16,[(6,4),(14,12)],4095)],65528)|_,_=>([],0)
 call:=λg args=>match g with|210=>z88.pack args|_=>none
def z89.dec:V->Option (Int)
 |(.int .i64 x0)=>some x0
 |_=>none
theorem z89.link (a0 a1 a2:Int):z89.C.evTop 142 (ifun Tryz.f142) [(.agg [(.int .i64 a0),(.int .i64 a1),(.int .i64 a2)])] z89.dec=z89.F a0 a1 a2:=by kernel_rfl
def z135.C:Ctx where
 T:=tab
 call:=λg args=>match g with|101=>z134.pack args|_=>none
def z135.dec:V->Option ((List UInt8))
 |(.str x0)=>some x0
 |_=>none
theorem z135.link (a0:List Int) (a1:Bool):z135.C.evTop 25 (ifun Tryz.f25) [(.agg [(.ints false .u64 a0),(.bool a1)])] z135.dec=z135.F a0 a1:=by kernel_rfl
end
noncomputable section
def z19.C:Ctx where
 T:=tab
def z19.dec:V->Option (Bool)
 |(.bool x0)=>some x0
 |_=>none
theorem z19.link (a0:List Int):z19.C.evTop 104 (ifun Tryz.f104) [(.agg [(.ints false .u64 a0)])] z19.dec=z19.F a0:=by kernel_rfl
def z22.C:Ctx where
 T:=tab
def z22.dec:V->Option (Int)
 |(.int .u64 x0)=>some x0
 |_=>none
theorem z22.link (a0:List Int) (a1:Int):z22.C.evTop 184 (ifun Tryz.f184) [(.agg [(.ints false .u64 a0)]),(.int .i64 a1)] z22.dec=z22.F a0 a1:=by kernel_rfl
def z27.C:Ctx where
 T:=tab
def z27.dec:V->Option (Bool)
 |(.bool x0)=>some x0
 |_=>none
theorem z27.link (a0:Int):z27.C.evTop 273 (ifun Tryz.f273) [(.int .u64 a0)] z27.dec=z27.F a0:=by kernel_rfl
def z29.l0sh:Env×Store:=(.undef :: .undef::(.ptr 0 0)::(.ptr 1 0)::(.int .i64 0) :: .undef::(.int .i64 0)::un 33 [],[(.cells 37 [(.ints false .u64 [])]),(.cells 37 [(.ints false .u64 [])])])
def z29.l0so1:Env×Store:=(un 4 ((.int .i64 0)::un 35 []),[(.cells 37 [(.ints false .u64 [])]),(.cells 37 [(.ints false .u64 [])])])
def z29.l0out0 (a b:Int) (c d:List Int) (o:Int):X×Env×Store:=((.exit 0),Qb z29.l0sh [.i a,.i o,.li c,.li d])
def z29.l0out1 (a b:Int) (c d:List Int) (o:Int):X×Env×Store:=(.ret,Qb z29.l0so1 [.i o,.li c,.li d])
def z29.l0pack:List Leaf->Option LPack
 |[.i a,.i b,.li c,.li d]=>some (.two _ _ (z29.l0 c d b) (z29.l0out0 a b c d) (z29.l0out1 a b c d))
 |_=>none
def z29.C:Ctx where
 T:=tab
 draws:=λf i=>match f,i with|186,7=>([(27,[(2,0)],0),(28,[(26,1)],1),(29,[(6,0)],0),(30,[(27,2),(28,3)],7),(31,[(29,4)],15),(32,[(3,0)],0),(33,[(31,6)],32),(34,[(6,0)],0),(35,[(32,7),(33,8)],224),(36,[(34,9)],480),(37,[(30,5),(35,10)],1023),(8,[(36,11)],2047)],137371844736)|_,_=>([],0)
 call:=λg args=>match g with|146=>z26.pack args|245=>z28.pack args|_=>none
 keep:=λf i=>match f,i with|186,0=>([2,3,4,6],[0,1],[])|_,_=>([],[],[])
 keepE:=λf i=>match f,i with|186,0=>([2,3,4,6],[0,1],[])|_,_=>([],[],[])
 keepR:=λf i=>match f,i with|186,0=>([4],[0,1],[4])|_,_=>([],[],[])
 L:=λf i b st=>match f,i,b with|186,0,0=>(matchSt z29.l0sh st).bind z29.l0pack|_,_,_=>none
def z29.dec:V->Option (Int)
 |(.int .i64 x0)=>some x0
 |_=>none
theorem z29.l0_link (R:Type) (k:Env×Store->Option R) (d:X×Env×Store->Option R) (a b:Int) (c e:List Int) :
  z29.C.loopP 186 0 (Qf 0 (ifun Tryz.f186).body) 2 k d (Qb z29.l0sh [.i a,.i b,.li c,.li e]) =
  z29.l0P c e (λx'=>k (Qb z29.l0sh [.i a,.i x',.li c,.li e])) (λo=>match o with | .inl o=>d (z29.l0out0 a b c e o) | .inr o=>d (z29.l0out1 a b c e o)) b:=by kernel_rfl
theorem z29.link (a0 a1:List Int):z29.C.evTop 186 (ifun Tryz.f186) [(.agg [(.ints false .u64 a0)]),(.agg [(.ints false .u64 a1)])] z29.dec=z29.F a0 a1:=by kernel_rfl
def z35.C:Ctx where
 T:=tab
def z35.dec:V->Option (Bool)
 |(.bool x0)=>some x0
 |_=>none
theorem z35.link (a0 a1:List UInt8):z35.C.evTop 260 (ifun Tryz.f260) [(.str a0),(.str a1)] z35.dec=z35.F a0 a1:=by kernel_rfl
def z36.C:Ctx where
 T:=tab
 call:=λg args=>match g with|260=>z35.pack args|_=>none
def z36.dec:V->Option ((List UInt8)×Bool)
 |(.tup [(.str x0),(.bool x1)])=>some (x0,x1)
 |_=>none
theorem z36.link (a0 a1:List UInt8):z36.C.evTop 223 (ifun Tryz.f223) [(.str a0),(.str a1)] z36.dec=z36.F a0 a1:=by kernel_rfl
def z37.C:Ctx where
 T:=tab
 call:=λg args=>match g with|223=>z36.pack args|_=>none
def z37.dec:V->Option ((List UInt8)×Bool)
 |(.tup [(.str x0),(.bool x1)])=>some (x0,x1)
 |_=>none
theorem z37.link (a0 a1:List UInt8):z37.C.evTop 160 (ifun Tryz.f160) [(.str a0),(.str a1)] z37.dec=z37.F a0 a1:=by kernel_rfl
def z43.l0sh:Env×Store:=(.undef::(.int .i64 0)::(.ptr 0 0) :: .undef::(.ptr 1 0)::(.ptr 2 0)::un 18 [],[(.cells 37 [(.ints false .u64 [])]),(.cells 37 [(.ints false .u64 [])]),(.cells 37 [(.ints false .u64 [])])])
def z43.l0out0 (a:Int) (b c d:List Int) (o:Int×(List Int)×(List Int)):X×Env×Store:=((.exit 0),Qb z43.l0sh [.i o.1,.li o.2.1,.li c,.li o.2.2])
def z43.l0pack:List Leaf->Option LPack
 |[.i a,.li b,.li c,.li d]=>some (.one _ (z43.l0 (a,b,d)) (z43.l0out0 a b c d))
 |_=>none
def z43.C:Ctx where
 T:=tab
 call:=λg args=>match g with|158=>z38.pack args|164=>z40.pack args|_=>none
 keep:=λf i=>match f,i with|247,0=>([1,2,4,5],[0,1,2],[])|_,_=>([],[],[])
 keepE:=λf i=>match f,i with|247,0=>([1,2,4,5],[0,1,2],[])|_,_=>([],[],[])
 keepR:=λf i=>match f,i with|247,0=>([4],[0,1,2],[4])|_,_=>([],[],[])
 L:=λf i b st=>match f,i,b with|247,0,0=>(matchSt z43.l0sh st).bind z43.l0pack|_,_,_=>none
def z43.dec:V->Option ((List Int))
 |(.agg [(.ints _ .u64 x0)])=>some x0
 |_=>none
theorem z43.l0_link (R:Type) (k:Env×Store->Option R) (d:X×Env×Store->Option R) (a:Int) (b c e:List Int) :
  z43.C.loopP 247 0 (Qf 0 (ifun Tryz.f247).body) 3 k d (Qb z43.l0sh [.i a,.li b,.li c,.li e]) =
  z43.l0P (λx'=>k (Qb z43.l0sh [.i x'.1,.li x'.2.1,.li c,.li x'.2.2])) (λo=>d (z43.l0out0 a b c e o)) (a,b,e):=by kernel_rfl
theorem z43.link (a0:List Int) (a1:Int):z43.C.evTop 247 (ifun Tryz.f247) [(.agg [(.ints false .u64 a0)]),(.int .i64 a1)] z43.dec=z43.F a0 a1:=by kernel_rfl
def z50.C:Ctx where
 T:=tab
 draws:=λf i=>match f,i with|248,3=>([(14,[(0,0)],0),(15,[(7,0)],0),(16,[(13,1),(14,2)],3),(17,[(0,0)],0),(18,[(7,0)],0),(19,[(1,0)],0),(20,[(18,6)],32),(21,[(17,5),(19,7)],112),(22,[(16,4),(20,8)],248),(5,[(15,3)],7),(6,[(21,9)],1023),(7,[],2047)],4186224)|_,_=>([],0)
 call:=λg args=>match g with|160=>z37.pack args|199=>z49.pack args|200=>z3.pack args|201=>z4.pack args|161=>z41.pack args|91=>z21.pack args|290=>z2.pack args|_=>none
 inl:=λg=>match g with|198=>some (ifun Tryz.f198)|248=>some (ifun Tryz.f248)|275=>some (ifun Tryz.f275)|283=>some (ifun Tryz.f283)|_=>none
 rank:=λg=>match g with|198=>3|248=>2|275=>1|_=>0
def z50.dec:V->Option ((List Int)×Bool×Int×Int)
 |(.tup [(.agg [(.ints _ .u64 x0),(.bool x1),(.int .i64 x2)]),(.int .i64 x3)])=>some (x0,x1,x2,x3)
 |_=>none
theorem z50.link (a0:List UInt8):z50.C.evTop 118 (ifun Tryz.f118) [(.str a0)] z50.dec=z50.F a0:=by kernel_rfl
def z52.C:Ctx where
 T:=tab
 call:=λg args=>match g with|202=>z51.pack args|_=>none
def z52.dec:V->Option ((List Int)×Bool×Int×Int)
 |(.tup [(.agg [(.ints _ .u64 x0),(.bool x1),(.int .i64 x2)]),(.int .i64 x3)])=>some (x0,x1,x2,x3)
 |_=>none
theorem z52.link (a0:List Int) (a1:Bool) (a2:Int):z52.C.evTop 119 (ifun Tryz.f119) [(.agg [(.ints false .u64 a0),(.bool a1)]),(.int .i64 a2)] z52.dec=z52.F a0 a1 a2:=by kernel_rfl
def z57.C:Ctx where
 T:=tab
 draws:=λf i=>match f,i with|121,2=>([(12,[(2,0)],0),(13,[(5,0)],0),(14,[(11,1),(12,2)],3),(15,[(3,0)],0),(16,[(5,0)],0),(17,[(14,4),(15,5)],31),(18,[(13,3),(16,6)],63),(5,[(17,7)],127)],260112)|_,_=>([],0)
 call:=λg args=>match g with|203=>z56.pack args|74=>z34.pack args|_=>none
def z57.dec:V->Option (Int)
 |(.int .i64 x0)=>some x0
 |_=>none
theorem z57.link (a0:List Int) (a1:Bool) (a2:Int) (a3:List Int) (a4:Bool) (a5:Int):z57.C.evTop 121 (ifun Tryz.f121) [(.agg [(.ints false .u64 a0),(.bool a1),(.int .i64 a2)]),(.agg [(.ints false .u64 a3),(.bool a4),(.int .i64 a5)])] z57.dec=z57.F a0 a1 a2 a3 a4 a5:=by kernel_rfl
def z63.l0b8sh:Env×Store:=(.undef :: .undef::(.int .u64 0)::un 3 ((.int .u64 0)::(.int .u64 0)::(.int .u64 0)::(.int .u64 0)::(.int .u64 0)::(.int .u64 0) :: .undef::(.int .u64 0)::(.int .u64 0)::(.int .u64 0)::(.int .u64 0)::un 118 []),[])
def z63.l0b8out0 (a b c d e g h j k m n:Int) (o:Int×Int):X×Env×Store:=((.exit 0),Qb z63.l0b8sh [.i a,.i b,.i c,.i d,.i e,.i g,.i h,.i j,.i k,.i o.1,.i o.2])
def z63.l0b8pack:List Leaf->Option LPack
 |[.i a,.i b,.i c,.i d,.i e,.i g,.i h,.i j,.i k,.i m,.i n]=>some (.one _ (z63.l0b8 e g j (m,n)) (z63.l0b8out0 a b c d e g h j k m n))
 |_=>none
def z63.l2b8sh:Env×Store:=(.undef :: .undef::(.int .u64 0)::un 3 ((.int .u64 0)::(.int .u64 0)::(.int .u64 0)::(.int .u64 0)::(.int .u64 0)::un 3 ((.int .u64 0)::(.int .u64 0)::(.int .u64 0)::(.int .u64 0)::(.int .u64 0)::un 116 [])),[])
def z63.l2b8out0 (a b c d e g h j k m n:Int) (o:Int×Int):X×Env×Store:=((.exit 2),Qb z63.l2b8sh [.i a,.i b,.i c,.i d,.i e,.i g,.i h,.i j,.i o.1,.i m,.i o.2])
def z63.l2b8pack:List Leaf->Option LPack
 |[.i a,.i b,.i c,.i d,.i e,.i g,.i h,.i j,.i k,.i m,.i n]=>some (.one _ (z63.l2b8 e g h (k,n)) (z63.l2b8out0 a b c d e g h j k m n))
 |_=>none
def z63.C:Ctx where
 T:=tab
 draws:=λf i=>match f,i with|261,6=>([(29,[(1,0)],0),(30,[(2,0)],0),(31,[(28,1),(29,2)],3),(32,[(1,0)],0),(33,[(2,0)],0),(34,[(31,4),(32,5)],24),(7,[(30,3)],7),(8,[(33,6)],127)],16911433920)|_,_=>([],0)
 call:=λg args=>match g with|262=>z62.pack args|_=>none
 keep:=λf i=>match f,i with|261,0=>([2,6,7,8,9,10,11,13,14,15,16,105,106,107,108,109,110,111,112],[],[])|261,2=>([2,6,7,8,9,10,14,15,16,17,18],[],[])|_,_=>([],[],[])
 keepE:=λf i=>match f,i with|261,0=>([2,6,7,8,9,10,11,13,14,15,16,105,106,107,108,109,110,111,112],[],[])|261,2=>([2,6,7,8,9,10,14,15,16,17,18],[],[])|_,_=>([],[],[])
 keepR:=λf i=>match f,i with|261,0=>([6,7],[],[6,7])|261,2=>([6,7],[],[6,7])|_,_=>([],[],[])
 L:=λf i b st=>match f,i,b with|261,0,0=>(matchSt z63.l0b8sh st).bind z63.l0b8pack|261,2,0=>(matchSt z63.l2b8sh st).bind z63.l2b8pack|_,_,_=>none
def z63.dec:V->Option (Int×Int)
 |(.tup [(.int .u64 x0),(.int .u64 x1)])=>some (x0,x1)
 |_=>none
theorem z63.l0b8_link (R:Type) (k:Env×Store->Option R) (d:X×Env×Store->Option R) (a b c e g h j m n p q:Int) :
  z63.C.loopP 261 0 (Qf 0 (ifun Tryz.f261).body) 0 k d (Qb z63.l0b8sh [.i a,.i b,.i c,.i e,.i g,.i h,.i j,.i m,.i n,.i p,.i q]) =
  z63.l0b8P g h m (λx'=>k (Qb z63.l0b8sh [.i a,.i b,.i c,.i e,.i g,.i h,.i j,.i m,.i n,.i x'.1,.i x'.2])) (λo=>d (z63.l0b8out0 a b c e g h j m n p q o)) (p,q):=by kernel_rfl
theorem z63.l2b8_link (R:Type) (k:Env×Store->Option R) (d:X×Env×Store->Option R) (a b c e g h j m n p q:Int) :
  z63.C.loopP 261 2 (Qf 2 (ifun Tryz.f261).body) 0 k d (Qb z63.l2b8sh [.i a,.i b,.i c,.i e,.i g,.i h,.i j,.i m,.i n,.i p,.i q]) =
  z63.l2b8P g h j (λx'=>k (Qb z63.l2b8sh [.i a,.i b,.i c,.i e,.i g,.i h,.i j,.i m,.i x'.1,.i p,.i x'.2])) (λo=>d (z63.l2b8out0 a b c e g h j m n p q o)) (n,q):=by kernel_rfl
theorem z63.link (a0 a1 a2:Int):z63.C.evTop 261 (ifun Tryz.f261) [(.int .u64 a0),(.int .u64 a1),(.int .u64 a2)] z63.dec=z63.F a0 a1 a2:=by kernel_rfl
def z64.l0sh:Env×Store:=((.ints false .u64 [])::(.int .u64 0) :: .undef :: .undef::(.sref 0 0)::(.int .u64 0)::(.sref 1 0)::(.int .u64 0)::(.int .i64 0)::un 25 [],[(.arr 0 true 79 (.ints false .u64 [])),(.arr 0 false 79 (.ints false .u64 []))])
def z64.l0out0 (a:List Int) (b c d e:Int) (g h:List Int) (o:Int×Int×(List Int)):X×Env×Store:=((.exit 0),Qb z64.l0sh [.li a,.i b,.i c,.i o.1,.i o.2.1,.li g,.li o.2.2])
def z64.l0pack:List Leaf->Option LPack
 |[.li a,.i b,.i c,.i d,.i e,.li g,.li h]=>some (.one _ (z64.l0 a b (d,e,h)) (z64.l0out0 a b c d e g h))
 |_=>none
def z64.C:Ctx where
 T:=tab
 call:=λg args=>match g with|261=>z63.pack args|_=>none
 keep:=λf i=>match f,i with|224,0=>([0,1,4,5,6,7,8],[0,1],[])|_,_=>([],[],[])
 keepE:=λf i=>match f,i with|224,0=>([0,1,4,5,6,7,8],[0,1],[])|_,_=>([],[],[])
 keepR:=λf i=>match f,i with|224,0=>([4,5],[0,1],[4,5])|_,_=>([],[],[])
 L:=λf i b st=>match f,i,b with|224,0,0=>(matchSt z64.l0sh st).bind z64.l0pack|_,_,_=>none
def z64.dec:V->Option ((List Int)×Int)
 |(.tup [(.ints _ .u64 x0),(.int .u64 x1)])=>some (x0,x1)
 |_=>none
theorem z64.l0_link (R:Type) (k:Env×Store->Option R) (d:X×Env×Store->Option R) (a:List Int) (b c e g:Int) (h j:List Int) :
  z64.C.loopP 224 0 (Qf 0 (ifun Tryz.f224).body) 2 k d (Qb z64.l0sh [.li a,.i b,.i c,.i e,.i g,.li h,.li j]) =
  z64.l0P a b (λx'=>k (Qb z64.l0sh [.li a,.i b,.i c,.i x'.1,.i x'.2.1,.li h,.li x'.2.2])) (λo=>d (z64.l0out0 a b c e g h j o)) (e,g,j):=by kernel_rfl
theorem z64.link (a0:List Int) (a1:Int):z64.C.evTop 224 (ifun Tryz.f224) [(.ints false .u64 a0),(.int .u64 a1)] z64.dec=z64.F a0 a1:=by kernel_rfl
def z70.C:Ctx where
 T:=tab
 draws:=λf i=>match f,i with|163,1=>([(15,[(2,0)],0),(16,[(14,1)],1),(17,[(3,0)],0),(18,[(15,2),(16,3)],7),(6,[],0),(0,[(5,5),(17,4)],31)],245792)|163,2=>([(20,[(2,0)],0),(21,[(19,1)],1),(22,[(5,0)],0),(23,[(20,2),(21,3)],7),(19,[(22,4)],15),(24,[(18,5)],31),(25,[(18,5)],31),(26,[(18,5)],31),(7,[],0),(8,[],0),(0,[(6,9),(23,6)],831),(0,[(7,10),(24,7)],1919),(9,[(25,8)],4095)],66847168)|163,4=>([(35,[(9,0)],0),(36,[],0),(37,[(35,2)],2),(38,[(34,1),(36,3)],7),(34,[(37,4)],15),(39,[(33,5)],31),(40,[(33,5)],31),(13,[],0),(0,[(12,8),(38,6)],191),(14,[(39,7)],511)],1090921705472)|163,5=>([(41,[(6,0)],0),(42,[(2,0)],0),(43,[(41,2)],2),(44,[(42,3)],6),(45,[(40,1),(43,4)],15),(46,[(12,0)],0),(47,[(44,5),(45,6)],63),(0,[(4,0),(46,7)],127)],139637976727552)|_,_=>([],0)
 call:=λg args=>match g with|92=>z59.pack args|226=>z69.pack args|162=>z68.pack args|158=>z38.pack args|100=>z30.pack args|28=>z20.pack args|91=>z21.pack args|_=>none
def z70.dec:V->Option ((List Int)×Bool×(List Int))
 |(.agg [(.ints _ .u64 x0),(.bool x1),(.ints _ .u64 x2)])=>some (x0,x1,x2)
 |_=>none
theorem z70.link (a0:List Int) (a1:Bool) (a2:List Int):z70.C.evTop 163 (ifun Tryz.f163) [(.agg [(.ints false .u64 a0),(.bool a1)]),(.agg [(.ints false .u64 a2)])] z70.dec=z70.F a0 a1 a2:=by kernel_rfl
def z71.C:Ctx where
 T:=tab
 draws:=λf i=>match f,i with|176,6=>([(16,[(2,0)],0),(17,[(3,0)],0),(18,[(16,2)],2),(19,[(15,1),(17,3)],7),(0,[(4,0),(18,4)],15),(6,[],31)],491552)|_,_=>([],0)
 call:=λg args=>match g with|28=>z20.pack args|110=>z32.pack args|92=>z59.pack args|163=>z70.pack args|_=>none
def z71.dec:V->Option ((List Int)×Bool×(List Int)×Int)
 |(.tup [(.agg [(.ints _ .u64 x0),(.bool x1),(.ints _ .u64 x2)]),(.int .i64 x3)])=>some (x0,x1,x2,x3)
 |_=>none
theorem z71.link (a0:List Int) (a1:Bool) (a2:List Int) (a3:Bool):z71.C.evTop 176 (ifun Tryz.f176) [(.agg [(.ints false .u64 a0),(.bool a1)]),(.agg [(.ints false .u64 a2),(.bool a3)])] z71.dec=z71.F a0 a1 a2 a3:=by kernel_rfl
def z81.C:Ctx where
 T:=tab
 call:=λg args=>match g with|214=>z79.pack args|215=>z80.pack args|_=>none
def z81.dec:V->Option ((List UInt8))
 |(.str x0)=>some x0
 |_=>none
theorem z81.link (a0:Int):z81.C.evTop 149 (ifun Tryz.f149) [(.int .i64 a0)] z81.dec=z81.F a0:=by kernel_rfl
def z83.C:Ctx where
 T:=tab
def z83.dec:V->Option ((List (List UInt8)))
 |(.strs _ x0)=>some x0
 |_=>none
theorem z83.link:z83.C.evTop 257 (ifun Tryz.f257) [] z83.dec=z83.F:=by kernel_rfl
def z84.C:Ctx where
 T:=tab
 call:=λg args=>match g with|228=>z82.pack args|257=>z83.pack args|_=>none
def z84.dec:V->Option ((List UInt8))
 |(.str x0)=>some x0
 |_=>none
theorem z84.link (a0:Int):z84.C.evTop 209 (ifun Tryz.f209) [(.int .i64 a0)] z84.dec=z84.F a0:=by kernel_rfl
end
noncomputable section
abbrev Sn (k:List V->Option Pack) (n:FuncId):Prop:=∀vs p,k vs=some p->SoundC Tryz.prog n vs p
theorem Qd:tab.check Tryz.prog=true:=by kernel_rfl
def tabC:Ctx where
 T:=tab
theorem Qe:Tryz.prog.follows .mixedOrders=true:=by kernel_rfl
theorem z19.sound:Sn z19.pack 104:=by
 intro vs p h;unfold z19.pack at h;split at h<;>cases h
 exact Qg Qd Qe rfl rfl rfl rfl (λg vs p h=>by simp [z19.C] at h) ⟨Tryz.func104,rfl,by kernel_rfl⟩ rfl (z19.link _) (by intro v r h;unfold z19.dec at h;split at h<;>cases h;exact ⟨rfl,rfl⟩)
theorem z20.sound:Sn z20.pack 28:=by
 intro vs p h;unfold z20.pack at h;split at h<;>cases h
 exact Qg Qd Qe rfl rfl rfl rfl (λg vs p h=>by unfold z20.C at h;simp only at h;split at h;exact z19.sound vs p h;simp at h) ⟨Tryz.func28,rfl,by kernel_rfl⟩ rfl (z20.link _ _) (by intro v r h;unfold z20.dec at h;split at h<;>cases h;exact ⟨rfl,rfl⟩)
theorem z21.sound:Sn z21.pack 91:=by
 intro vs p h;unfold z21.pack at h;split at h<;>cases h
 exact Qg Qd Qe rfl rfl rfl rfl (λg vs p h=>by unfold z21.C at h;simp only at h;split at h;exact z19.sound vs p h;simp at h) ⟨Tryz.func91,rfl,by kernel_rfl⟩ rfl (z21.link _ _) (by intro v r h;unfold z21.dec at h;split at h<;>cases h;exact ⟨rfl,rfl⟩)
theorem z22.sound:Sn z22.pack 184:=by
 intro vs p h;unfold z22.pack at h;split at h<;>cases h
 exact Qg Qd Qe rfl rfl rfl rfl (λg vs p h=>by simp [z22.C] at h) ⟨Tryz.func184,rfl,by kernel_rfl⟩ rfl (z22.link _ _) (by intro v r h;unfold z22.dec at h;split at h<;>cases h;exact ⟨rfl,rfl⟩)
theorem z23.l0b6_sound (hI:InlOK Tryz.prog z23.C λR=>z23.C.inlK 6):Qh z23.C 6 185 0 0 (Qf 0 (ifun Tryz.f185).body) z23.l0b6sh z23.l0b6pack:=by
 refine Qi λls p h=>?_
 unfold z23.l0b6pack at h;split at h<;>cases h
 rename_i a b c
 exact Qm hI (sh:=z23.l0b6sh) (so:=z23.l0b6sh) (F:=λR rec done x=>z23.l0b6P a rec done x) (enc:=λ(x':Int)=>Qb z23.l0b6sh [.li a,.i x',.li c]) [1] [1] b (by kernel_rfl) (by kernel_rfl) (λx=>by kernel_rfl) (λo=>by kernel_rfl) λR k d x'=>z23.l0b6_link R k d a (x') c
theorem Q07:Qk (ifun Tryz.f185).body=true:=by kernel_rfl
theorem z23.loopsT (hI:InlOK Tryz.prog z23.C λR=>z23.C.inlK 6):LoopsOK z23.C (λR=>z23.C.inlK 6) 185 0 (ifun Tryz.f185).body:=by
 intro id b hm st p hp
 obtain rfl:=Ql Q07 hm
 unfold z23.C at hp
 simp only at hp
 try split at hp
 all_goals first
  |(simp at hp;done)
  |(exfalso;omega)
  |exact z23.l0b6_sound hI st p hp
theorem z23.sound:Sn z23.pack 185:=by
 intro vs p h;unfold z23.pack at h;split at h<;>cases h
 exact Qo Qd Qe rfl rfl rfl (λg vs p h=>by simp [z23.C] at h) ⟨Tryz.func185,rfl,by kernel_rfl⟩ z23.loopsT rfl (z23.link _) (by intro v r h;unfold z23.dec at h;split at h<;>cases h;exact ⟨rfl,rfl⟩)
theorem z24.l0_sound (hI:InlOK Tryz.prog z24.C λR=>z24.C.inlK 6):Qh z24.C 6 99 0 0 (Qf 0 (ifun Tryz.f99).body) z24.l0sh z24.l0pack:=by
 refine Qi λls p h=>?_
 unfold z24.l0pack at h;split at h<;>cases h
 rename_i a b c e g j m
 exact Qm hI (sh:=z24.l0sh) (so:=z24.l0sh) (F:=λR rec done x=>z24.l0P b e g rec done x) (enc:=λ(x':(Int×Int×(List Int)))=>Qb z24.l0sh [.i x'.1,.i b,.i x'.2.1,.li e,.li g,.li j,.li x'.2.2]) [0,2,6] [0,2,6] (a,c,m) (by kernel_rfl) (by kernel_rfl) (λx=>by kernel_rfl) (λo=>by kernel_rfl) λR k d x'=>z24.l0_link R k d (x'.1) b (x'.2.1) e g j (x'.2.2)
theorem Qv1:Qk (ifun Tryz.f99).body=true:=by kernel_rfl
theorem z24.loopsT (hI:InlOK Tryz.prog z24.C λR=>z24.C.inlK 6):LoopsOK z24.C (λR=>z24.C.inlK 6) 99 0 (ifun Tryz.f99).body:=by
 intro id b hm st p hp
 obtain rfl:=Ql Qv1 hm
 unfold z24.C at hp
 simp only at hp
 try split at hp
 all_goals first
  |(simp at hp;done)
  |(exfalso;omega)
  |exact z24.l0_sound hI st p hp
theorem z24.sound:Sn z24.pack 99:=by
 intro vs p h;unfold z24.pack at h;split at h<;>cases h
 exact Qo Qd Qe rfl rfl rfl (λg vs p h=>by unfold z24.C at h;simp only at h;split at h;exact z22.sound vs p h;exact z0.sound vs p h;exact z23.sound vs p h;simp at h) ⟨Tryz.func99,rfl,by kernel_rfl⟩ z24.loopsT rfl (z24.link _ _) (by intro v r h;unfold z24.dec at h;split at h<;>cases h;exact ⟨rfl,rfl⟩)
theorem z25.sound:Sn z25.pack 212:=by
 intro vs p h;unfold z25.pack at h;split at h<;>cases h
 exact Qg Qd Qe rfl rfl rfl rfl (λg vs p h=>by simp [z25.C] at h) ⟨Tryz.func212,rfl,by kernel_rfl⟩ rfl (z25.link _) (by intro v r h;unfold z25.dec at h;split at h<;>cases h;exact ⟨rfl,rfl⟩)
theorem z26.sound:Sn z26.pack 146:=by
 intro vs p h;unfold z26.pack at h;split at h<;>cases h
 exact Qg Qd Qe rfl rfl rfl rfl (λg vs p h=>by unfold z26.C at h;simp only at h;split at h;exact z25.sound vs p h;simp at h) ⟨Tryz.func146,rfl,by kernel_rfl⟩ rfl (z26.link _ _) (by intro v r h;unfold z26.dec at h;split at h<;>cases h;exact ⟨rfl,rfl⟩)
theorem z27.sound:Sn z27.pack 273:=by
 intro vs p h;unfold z27.pack at h;split at h<;>cases h
 exact Qg Qd Qe rfl rfl rfl rfl (λg vs p h=>by simp [z27.C] at h) ⟨Tryz.func273,rfl,by kernel_rfl⟩ rfl (z27.link _) (by intro v r h;unfold z27.dec at h;split at h<;>cases h;exact ⟨rfl,rfl⟩)
theorem z28.sound:Sn z28.pack 245:=by
 intro vs p h;unfold z28.pack at h;split at h<;>cases h
 exact Qg Qd Qe rfl rfl rfl rfl (λg vs p h=>by unfold z28.C at h;simp only at h;split at h;exact z27.sound vs p h;simp at h) ⟨Tryz.func245,rfl,by kernel_rfl⟩ rfl (z28.link _ _) (by intro v r h;unfold z28.dec at h;split at h<;>cases h;exact ⟨rfl,rfl⟩)
theorem z29.l0_sound (hI:InlOK Tryz.prog z29.C λR=>z29.C.inlK 6):Qh z29.C 6 186 0 0 (Qf 0 (ifun Tryz.f186).body) z29.l0sh z29.l0pack:=by
 refine Qi λls p h=>?_
 unfold z29.l0pack at h;split at h<;>cases h
 rename_i a b c e
 exact Q4 hI (sh:=z29.l0sh) (so:=z29.l0sh) (so':=z29.l0so1) (F:=λR rec done x=>z29.l0P c e rec done x) (enc:=λ(x':Int)=>Qb z29.l0sh [.i a,.i x',.li c,.li e]) (.exit 0) [1] [1] [0] b (by kernel_rfl) (by kernel_rfl) (λx=>by kernel_rfl) (λo=>by kernel_rfl) (λo=>by kernel_rfl) λR k d x'=>z29.l0_link R k d a (x') c e
theorem Qx9:Qk (ifun Tryz.f186).body=true:=by kernel_rfl
theorem z29.loopsT (hI:InlOK Tryz.prog z29.C λR=>z29.C.inlK 6):LoopsOK z29.C (λR=>z29.C.inlK 6) 186 0 (ifun Tryz.f186).body:=by
 intro id b hm st p hp
 obtain rfl:=Ql Qx9 hm
 unfold z29.C at hp
 simp only at hp
 try split at hp
 all_goals first
  |(simp at hp;done)
  |(exfalso;omega)
  |exact z29.l0_sound hI st p hp
theorem z29.sound:Sn z29.pack 186:=by
 intro vs p h;unfold z29.pack at h;split at h<;>cases h
 exact Qo Qd Qe rfl rfl rfl (λg vs p h=>by unfold z29.C at h;simp only at h;split at h;exact z26.sound vs p h;exact z28.sound vs p h;simp at h) ⟨Tryz.func186,rfl,by kernel_rfl⟩ z29.loopsT rfl (z29.link _ _) (by intro v r h;unfold z29.dec at h;split at h<;>cases h;exact ⟨rfl,rfl⟩)
theorem z30.l0_sound (hI:InlOK Tryz.prog z30.C λR=>z30.C.inlK 6):Qh z30.C 6 100 0 0 (Qf 0 (ifun Tryz.f100).body) z30.l0sh z30.l0pack:=by
 refine Qi λls p h=>?_
 unfold z30.l0pack at h;split at h<;>cases h
 rename_i a c e g j m n q
 exact Qm hI (sh:=z30.l0sh) (so:=z30.l0sh) (F:=λR rec done x=>z30.l0P e j m rec done x) (enc:=λ(x':(Int×Int×(List Int)))=>Qb z30.l0sh [.b a,.i x'.1,.i e,.i x'.2.1,.li j,.li m,.li n,.li x'.2.2]) [1,3,7] [1,3,7] (c,g,q) (by kernel_rfl) (by kernel_rfl) (λx=>by kernel_rfl) (λo=>by kernel_rfl) λR k d x'=>z30.l0_link R k d a (x'.1) e (x'.2.1) j m n (x'.2.2)
theorem Q1i:Qk (ifun Tryz.f100).body=true:=by kernel_rfl
theorem z30.loopsT (hI:InlOK Tryz.prog z30.C λR=>z30.C.inlK 6):LoopsOK z30.C (λR=>z30.C.inlK 6) 100 0 (ifun Tryz.f100).body:=by
 intro id b hm st p hp
 obtain rfl:=Ql Q1i hm
 unfold z30.C at hp
 simp only at hp
 try split at hp
 all_goals first
  |(simp at hp;done)
  |(exfalso;omega)
  |exact z30.l0_sound hI st p hp
theorem z30.sound:Sn z30.pack 100:=by
 intro vs p h;unfold z30.pack at h;split at h<;>cases h
 exact Qo Qd Qe rfl rfl rfl (λg vs p h=>by unfold z30.C at h;simp only at h;split at h;exact z29.sound vs p h;exact z22.sound vs p h;exact z1.sound vs p h;exact z23.sound vs p h;simp at h) ⟨Tryz.func100,rfl,by kernel_rfl⟩ z30.loopsT rfl (z30.link _ _) (by intro v r h;unfold z30.dec at h;split at h<;>cases h;exact ⟨rfl,rfl⟩)
theorem z31.sound:Sn z31.pack 24:=by
 intro vs p h;unfold z31.pack at h;split at h<;>cases h
 exact Qg Qd Qe rfl rfl rfl rfl (λg vs p h=>by unfold z31.C at h;simp only at h;split at h;exact z24.sound vs p h;exact z21.sound vs p h;exact z30.sound vs p h;simp at h) ⟨Tryz.func24,rfl,by kernel_rfl⟩ rfl (z31.link _ _ _ _) (by intro v r h;unfold z31.dec at h;split at h<;>cases h;exact ⟨rfl,rfl⟩)
theorem z32.sound:Sn z32.pack 110:=by
 intro vs p h;unfold z32.pack at h;split at h<;>cases h
 exact Qg Qd Qe rfl rfl rfl rfl (λg vs p h=>by unfold z32.C at h;simp only at h;split at h;exact z21.sound vs p h;simp at h) ⟨Tryz.func110,rfl,by kernel_rfl⟩ rfl (z32.link _ _) (by intro v r h;unfold z32.dec at h;split at h<;>cases h;exact ⟨rfl,rfl⟩)
theorem z33.sound:Sn z33.pack 90:=by
 intro vs p h;unfold z33.pack at h;split at h<;>cases h
 exact Qg Qd Qe rfl rfl rfl rfl (λg vs p h=>by unfold z33.C at h;simp only at h;split at h;exact z32.sound vs p h;exact z31.sound vs p h;simp at h) ⟨Tryz.func90,rfl,by kernel_rfl⟩ rfl (z33.link _ _ _ _) (by intro v r h;unfold z33.dec at h;split at h<;>cases h;exact ⟨rfl,rfl⟩)
theorem z34.sound:Sn z34.pack 74:=by
 intro vs p h;unfold z34.pack at h;split at h<;>cases h
 exact Qg Qd Qe rfl rfl rfl rfl (λg vs p h=>by unfold z34.C at h;simp only at h;split at h;exact z33.sound vs p h;exact z20.sound vs p h;simp at h) ⟨Tryz.func74,rfl,by kernel_rfl⟩ rfl (z34.link _ _ _ _) (by intro v r h;unfold z34.dec at h;split at h<;>cases h;exact ⟨rfl,rfl⟩)
theorem z35.sound:Sn z35.pack 260:=by
 intro vs p h;unfold z35.pack at h;split at h<;>cases h
 exact Qg Qd Qe rfl rfl rfl rfl (λg vs p h=>by simp [z35.C] at h) ⟨Tryz.func260,rfl,by kernel_rfl⟩ rfl (z35.link _ _) (by intro v r h;unfold z35.dec at h;split at h<;>cases h;exact ⟨rfl,rfl⟩)
theorem z36.sound:Sn z36.pack 223:=by
 intro vs p h;unfold z36.pack at h;split at h<;>cases h
 exact Qg Qd Qe rfl rfl rfl rfl (λg vs p h=>by unfold z36.C at h;simp only at h;split at h;exact z35.sound vs p h;simp at h) ⟨Tryz.func223,rfl,by kernel_rfl⟩ rfl (z36.link _ _) (by intro v r h;unfold z36.dec at h;split at h<;>cases h;exact ⟨rfl,rfl⟩)
theorem z37.sound:Sn z37.pack 160:=by
 intro vs p h;unfold z37.pack at h;split at h<;>cases h
 exact Qg Qd Qe rfl rfl rfl rfl (λg vs p h=>by unfold z37.C at h;simp only at h;split at h;exact z36.sound vs p h;simp at h) ⟨Tryz.func160,rfl,by kernel_rfl⟩ rfl (z37.link _ _) (by intro v r h;unfold z37.dec at h;split at h<;>cases h;exact ⟨rfl,rfl⟩)
theorem prim222:SoundP Tryz.prog 222 (cloneP (.ints true .u64 []) 79 8):=Q0z (C:=tabC) Qd (f:=Tryz.f222) (t:=35) ⟨Tryz.func222,rfl,by kernel_rfl⟩ rfl (by decide) (by kernel_rfl) (by kernel_rfl) (by kernel_rfl) (by decide) (by kernel_rfl) rfl rfl (by kernel_rfl)
theorem z38.inlF:InlF Tryz.prog z38.C where
 prim g h hp:=by
  unfold z38.C at hp;simp only at hp;split at hp
  ·simp only [Option.some.injEq] at hp;subst hp;exact prim222
  ·simp at hp
 fn g fn h:=by simp [z38.C] at h
 loops g fn h:=by simp [z38.C] at h
theorem z38.sound:Sn z38.pack 158:=by
 intro vs p h;unfold z38.pack at h;split at h<;>cases h
 exact J0 Qd Qe rfl (λg vs p h=>by unfold z38.C at h;simp only at h;split at h;exact z23.sound vs p h;simp at h) z38.inlF ⟨Tryz.func158,rfl,by kernel_rfl⟩ (λ_=>noLoops rfl _ _ _ _) rfl (z38.link _) (by intro v r h;unfold z38.dec at h;split at h<;>cases h;exact ⟨rfl,rfl⟩)
theorem z39.sound:Sn z39.pack 268:=by
 intro vs p h;unfold z39.pack at h;split at h<;>cases h
 exact Qg Qd Qe rfl rfl rfl rfl (λg vs p h=>by simp [z39.C] at h) ⟨Tryz.func268,rfl,by kernel_rfl⟩ rfl (z39.link _ _) (by intro v r h;unfold z39.dec at h;split at h<;>cases h;exact ⟨rfl,rfl⟩)
theorem z40.l0a_sound (hI:InlOK Tryz.prog z40.C λR=>z40.C.inlK 0):Qh z40.C 0 227 0 4 (Qf 0 (ifun Tryz.f227).body) z40.l0ash z40.l0apack:=by
 refine Qi λls p h=>?_
 unfold z40.l0apack at h;split at h<;>cases h
 rename_i a b c e g j m q r s t
 exact Qm hI (sh:=z40.l0ash) (so:=z40.l0ash) (F:=λR rec done x=>z40.l0aP a b c g j rec done x) (enc:=λ(x':(Int×Int×(List Int)))=>Qb z40.l0ash [.i a,.n b,.n c,.i x'.1,.li g,.i j,.i x'.2.1,.li q,.li r,.li x'.2.2,.li t]) [3,6,9] [3,6,9] (e,m,s) (by kernel_rfl) (by kernel_rfl) (λx=>by kernel_rfl) (λo=>by kernel_rfl) λR k d x'=>z40.l0a_link R k d a b c (x'.1) g j (x'.2.1) q r (x'.2.2) t
theorem z40.l0_sound (hI:InlOK Tryz.prog z40.C λR=>z40.C.inlK 6):Qh z40.C 6 164 0 0 (Qf 0 (ifun Tryz.f164).body) z40.l0sh z40.l0pack:=by
 refine Qi λls p h=>?_
 unfold z40.l0pack at h;split at h<;>cases h
 rename_i a b c e g j
 exact Qm hI (sh:=z40.l0sh) (so:=z40.l0sh) (F:=λR rec done x=>z40.l0P a b e rec done x) (enc:=λ(x':(Int×(List Int)))=>Qb z40.l0sh [.li a,.i b,.i x'.1,.li e,.li g,.li x'.2]) [2,5] [2,5] (c,j) (by kernel_rfl) (by kernel_rfl) (λx=>by kernel_rfl) (λo=>by kernel_rfl) λR k d x'=>z40.l0_link R k d a b (x'.1) e g (x'.2)
theorem Qz8:Qk (ifun Tryz.f164).body=true:=by kernel_rfl
theorem Qxa:Qk (ifun Tryz.f227).body=true:=by kernel_rfl
theorem z40.loopsT (hI:InlOK Tryz.prog z40.C λR=>z40.C.inlK 6):LoopsOK z40.C (λR=>z40.C.inlK 6) 164 0 (ifun Tryz.f164).body:=by
 intro id b hm st p hp
 obtain rfl:=Ql Qz8 hm
 unfold z40.C at hp
 simp only at hp
 try split at hp
 all_goals first
  |(simp at hp;done)
  |(exfalso;omega)
  |exact z40.l0_sound hI st p hp
theorem z40.loops227 (hI:InlOK Tryz.prog z40.C λR=>z40.C.inlK 0) (base:Nat):LoopsOK z40.C (λR=>z40.C.inlK 0) 227 base (ifun Tryz.f227).body:=by
 intro id b hm st p hp
 obtain rfl:=Ql Qxa hm
 unfold z40.C at hp
 simp only at hp
 try split at hp
 all_goals first
  |(simp at hp;done)
  |(exfalso;omega)
  |exact z40.l0a_sound hI st p hp
theorem z40.inlF:InlF Tryz.prog z40.C where
 prim g h hp:=by simp [z40.C] at hp
 fn g fn h:=by
  unfold z40.C at h;simp only at h;split at h
  ·simp only [Option.some.injEq] at h;subst h;exact ⟨_,_,⟨Tryz.func227,rfl,by kernel_rfl⟩,rfl⟩
  ·simp at h
 loops g fn h:=by
  unfold z40.C at h;simp only at h;split at h
  ·simp only [Option.some.injEq] at h;subst h;exact λhI base=>z40.loops227 hI base
  ·simp at h
theorem z40.sound:Sn z40.pack 164:=by
 intro vs p h;unfold z40.pack at h;split at h<;>cases h
 exact J0 Qd Qe rfl (λg vs p h=>by unfold z40.C at h;simp only at h;split at h;exact z39.sound vs p h;exact z0.sound vs p h;exact z23.sound vs p h;simp at h) z40.inlF ⟨Tryz.func164,rfl,by kernel_rfl⟩ z40.loopsT rfl (z40.link _ _) (by intro v r h;unfold z40.dec at h;split at h<;>cases h;exact ⟨rfl,rfl⟩)
theorem z41.l2_sound (hI:InlOK Tryz.prog z41.C λR=>z41.C.inlK 6):Qh z41.C 6 161 2 0 (Qf 2 (ifun Tryz.f161).body) z41.l2sh z41.l2pack:=by
 refine Qi λls p h=>?_
 unfold z41.l2pack at h;split at h<;>cases h
 rename_i a b c e g j m q
 exact Qm hI (sh:=z41.l2sh) (so:=z41.l2sh) (F:=λR rec done x=>z41.l2P m rec done x) (enc:=λ(x':(Int×Nat))=>Qb z41.l2sh [.s a,.i b,.i c,.i x'.1,.li g,.li j,.s m,.n x'.2]) [3,7] [3,7] (e,q) (by kernel_rfl) (by kernel_rfl) (λx=>by kernel_rfl) (λo=>by kernel_rfl) λR k d x'=>z41.l2_link R k d a b c (x'.1) g j m (x'.2)
theorem z41.l2a_sound (hI:InlOK Tryz.prog z41.C λR=>z41.C.inlK 6):Qh z41.C 6 161 2 0 (Qf 2 (ifun Tryz.f161).body) z41.l2ash z41.l2apack:=by
 refine Qi λls p h=>?_
 unfold z41.l2apack at h;split at h<;>cases h
 rename_i a c e g j m q r t u
 exact Qm hI (sh:=z41.l2ash) (so:=z41.l2ash) (F:=λR rec done x=>z41.l2aP t rec done x) (enc:=λ(x':(Int×Nat))=>Qb z41.l2ash [.s a,.i c,.i e,.i x'.1,.i j,.b m,.li q,.li r,.s t,.n x'.2]) [3,9] [3,9] (g,u) (by kernel_rfl) (by kernel_rfl) (λx=>by kernel_rfl) (λo=>by kernel_rfl) λR k d x'=>z41.l2a_link R k d a c e (x'.1) j m q r t (x'.2)
theorem z41.l0aa_sound (hI:InlOK Tryz.prog z41.C λR=>z41.C.inlK 6):Qh z41.C 6 161 0 0 (Qf 0 (ifun Tryz.f161).body) z41.l0aash z41.l0aapack:=by
 refine Qi λls p h=>?_
 unfold z41.l0aapack at h;split at h<;>cases h
 rename_i a c e g j
 exact Qm hI (sh:=z41.l0aash) (so:=z41.l0aash) (F:=λR rec done x=>z41.l0aaP rec done x) (enc:=λ(x':((List UInt8)×Bool×(List Int)))=>Qb z41.l0aash [.s x'.1,.i c,.b x'.2.1,.li g,.li x'.2.2]) [0,2,4] [0,2,4] (a,e,j) (by kernel_rfl) (by kernel_rfl) (λx=>by kernel_rfl) (λo=>by kernel_rfl) λR k d x'=>z41.l0aa_link R k d (x'.1) c (x'.2.1) g (x'.2.2)
theorem Qzq:Qk (ifun Tryz.f161).body=true:=by kernel_rfl
theorem z41.loopsT (hI:InlOK Tryz.prog z41.C λR=>z41.C.inlK 6):LoopsOK z41.C (λR=>z41.C.inlK 6) 161 0 (ifun Tryz.f161).body:=by
 intro id b hm st p hp
 obtain rfl:=Ql Qzq hm
 unfold z41.C at hp
 simp only at hp
 try split at hp
 all_goals first
  |(simp at hp;done)
  |(exfalso;omega)
  |exact (orP_some hp).elim (λh=>z41.l2_sound hI st p h) (λh=>z41.l2a_sound hI st p h)
  |exact z41.l0aa_sound hI st p hp
theorem z41.sound:Sn z41.pack 161:=by
 intro vs p h;unfold z41.pack at h;split at h<;>cases h
 exact Qo Qd Qe rfl rfl rfl (λg vs p h=>by unfold z41.C at h;simp only at h;split at h;exact z3.sound vs p h;exact z38.sound vs p h;exact z40.sound vs p h;exact z24.sound vs p h;simp at h) ⟨Tryz.func161,rfl,by kernel_rfl⟩ z41.loopsT rfl (z41.link _) (by intro v r h;unfold z41.dec at h;split at h<;>cases h;exact ⟨rfl,rfl⟩)
theorem z42.sound:Sn z42.pack 76:=by
 intro vs p h;unfold z42.pack at h;split at h<;>cases h
 exact Qg Qd Qe rfl rfl rfl rfl (λg vs p h=>by unfold z42.C at h;simp only at h;split at h;exact z37.sound vs p h;exact z41.sound vs p h;exact z19.sound vs p h;exact z21.sound vs p h;simp at h) ⟨Tryz.func76,rfl,by kernel_rfl⟩ rfl (z42.link _) (by intro v r h;unfold z42.dec at h;split at h<;>cases h;exact ⟨rfl,rfl⟩)
theorem z43.l0_sound (hI:InlOK Tryz.prog z43.C λR=>z43.C.inlK 6):Qh z43.C 6 247 0 0 (Qf 0 (ifun Tryz.f247).body) z43.l0sh z43.l0pack:=by
 refine Qi λls p h=>?_
 unfold z43.l0pack at h;split at h<;>cases h
 rename_i a b c e
 exact Qm hI (sh:=z43.l0sh) (so:=z43.l0sh) (F:=λR rec done x=>z43.l0P rec done x) (enc:=λ(x':(Int×(List Int)×(List Int)))=>Qb z43.l0sh [.i x'.1,.li x'.2.1,.li c,.li x'.2.2]) [0,1,3] [0,1,3] (a,b,e) (by kernel_rfl) (by kernel_rfl) (λx=>by kernel_rfl) (λo=>by kernel_rfl) λR k d x'=>z43.l0_link R k d (x'.1) (x'.2.1) c (x'.2.2)
theorem Q3e:Qk (ifun Tryz.f247).body=true:=by kernel_rfl
theorem z43.loopsT (hI:InlOK Tryz.prog z43.C λR=>z43.C.inlK 6):LoopsOK z43.C (λR=>z43.C.inlK 6) 247 0 (ifun Tryz.f247).body:=by
 intro id b hm st p hp
 obtain rfl:=Ql Q3e hm
 unfold z43.C at hp
 simp only at hp
 try split at hp
 all_goals first
  |(simp at hp;done)
  |(exfalso;omega)
  |exact z43.l0_sound hI st p hp
theorem z43.sound:Sn z43.pack 247:=by
 intro vs p h;unfold z43.pack at h;split at h<;>cases h
 exact Qo Qd Qe rfl rfl rfl (λg vs p h=>by unfold z43.C at h;simp only at h;split at h;exact z38.sound vs p h;exact z40.sound vs p h;simp at h) ⟨Tryz.func247,rfl,by kernel_rfl⟩ z43.loopsT rfl (z43.link _ _) (by intro v r h;unfold z43.dec at h;split at h<;>cases h;exact ⟨rfl,rfl⟩)
theorem z44.sound:Sn z44.pack 195:=by
 intro vs p h;unfold z44.pack at h;split at h<;>cases h
 exact Qg Qd Qe rfl rfl rfl rfl (λg vs p h=>by unfold z44.C at h;simp only at h;split at h;exact z38.sound vs p h;exact z43.sound vs p h;simp at h) ⟨Tryz.func195,rfl,by kernel_rfl⟩ rfl (z44.link _) (by intro v r h;unfold z44.dec at h;split at h<;>cases h;exact ⟨rfl,rfl⟩)
theorem z45.sound:Sn z45.pack 114:=by
 intro vs p h;unfold z45.pack at h;split at h<;>cases h
 exact Qg Qd Qe rfl rfl rfl rfl (λg vs p h=>by unfold z45.C at h;simp only at h;split at h;exact z44.sound vs p h;exact z21.sound vs p h;simp at h) ⟨Tryz.func114,rfl,by kernel_rfl⟩ rfl z45.link (by intro v r h;unfold z45.dec at h;split at h<;>cases h;exact ⟨rfl,rfl⟩)
theorem z46.sound:Sn z46.pack 36:=by
 intro vs p h;unfold z46.pack at h;split at h<;>cases h
 exact Qg Qd Qe rfl rfl rfl rfl (λg vs p h=>by unfold z46.C at h;simp only at h;split at h;exact z42.sound vs p h;exact z20.sound vs p h;exact z45.sound vs p h;exact z34.sound vs p h;simp at h) ⟨Tryz.func36,rfl,by kernel_rfl⟩ rfl (z46.link _) (by intro v r h;unfold z46.dec at h;split at h<;>cases h;exact ⟨rfl,rfl⟩)
theorem z47.sound:Sn z47.pack 68:=by
 intro vs p h;unfold z47.pack at h;split at h<;>cases h
 exact Qg Qd Qe rfl rfl rfl rfl (λg vs p h=>by simp [z47.C] at h) ⟨Tryz.func68,rfl,by kernel_rfl⟩ rfl (z47.link _ _) (by intro v r h;unfold z47.dec at h;split at h<;>cases h;exact ⟨rfl,rfl⟩)
theorem z48.sound:Sn z48.pack 69:=by
 intro vs p h;unfold z48.pack at h;split at h<;>cases h
 exact Qg Qd Qe rfl rfl rfl rfl (λg vs p h=>by unfold z48.C at h;simp only at h;split at h;exact z38.sound vs p h;exact z21.sound vs p h;simp at h) ⟨Tryz.func69,rfl,by kernel_rfl⟩ rfl (z48.link _) (by intro v r h;unfold z48.dec at h;split at h<;>cases h;exact ⟨rfl,rfl⟩)
theorem z49.sound:Sn z49.pack 199:=by
 intro vs p h;unfold z49.pack at h;split at h<;>cases h
 exact Qg Qd Qe rfl rfl rfl rfl (λg vs p h=>by unfold z49.C at h;simp only at h;split at h;exact z3.sound vs p h;simp at h) ⟨Tryz.func199,rfl,by kernel_rfl⟩ rfl (z49.link _) (by intro v r h;unfold z49.dec at h;split at h<;>cases h;exact ⟨rfl,rfl⟩)
theorem z50.inlF:InlF Tryz.prog z50.C where
 prim g h hp:=by simp [z50.C] at hp
 fn g fn h:=by
  unfold z50.C at h;simp only at h;split at h
  ·simp only [Option.some.injEq] at h;subst h;exact ⟨_,_,⟨Tryz.func198,rfl,by kernel_rfl⟩,rfl⟩
  ·simp only [Option.some.injEq] at h;subst h;exact ⟨_,_,⟨Tryz.func248,rfl,by kernel_rfl⟩,rfl⟩
  ·simp only [Option.some.injEq] at h;subst h;exact ⟨_,_,⟨Tryz.func275,rfl,by kernel_rfl⟩,rfl⟩
  ·simp only [Option.some.injEq] at h;subst h;exact ⟨_,_,⟨Tryz.func283,rfl,by kernel_rfl⟩,rfl⟩
  ·simp at h
 loops g fn h:=by
  unfold z50.C at h;simp only at h;split at h
  ·simp only [Option.some.injEq] at h;subst h;exact λhI base=>noLoops rfl _ _ _ _
  ·simp only [Option.some.injEq] at h;subst h;exact λhI base=>noLoops rfl _ _ _ _
  ·simp only [Option.some.injEq] at h;subst h;exact λhI base=>noLoops rfl _ _ _ _
  ·simp only [Option.some.injEq] at h;subst h;exact λhI base=>noLoops rfl _ _ _ _
  ·simp at h
theorem z50.sound:Sn z50.pack 118:=by
 intro vs p h;unfold z50.pack at h;split at h<;>cases h
 exact J0 Qd Qe rfl (λg vs p h=>by unfold z50.C at h;simp only at h;split at h;exact z37.sound vs p h;exact z49.sound vs p h;exact z3.sound vs p h;exact z4.sound vs p h;exact z41.sound vs p h;exact z21.sound vs p h;exact z2.sound vs p h;simp at h) z50.inlF ⟨Tryz.func118,rfl,by kernel_rfl⟩ (λ_=>noLoops rfl _ _ _ _) rfl (z50.link _) (by intro v r h;unfold z50.dec at h;split at h<;>cases h;exact ⟨rfl,rfl⟩)
theorem z51.sound:Sn z51.pack 202:=by
 intro vs p h;unfold z51.pack at h;split at h<;>cases h
 exact Qg Qd Qe rfl rfl rfl rfl (λg vs p h=>by simp [z51.C] at h) ⟨Tryz.func202,rfl,by kernel_rfl⟩ rfl (z51.link _) (by intro v r h;unfold z51.dec at h;split at h<;>cases h;exact ⟨rfl,rfl⟩)
theorem z52.sound:Sn z52.pack 119:=by
 intro vs p h;unfold z52.pack at h;split at h<;>cases h
 exact Qg Qd Qe rfl rfl rfl rfl (λg vs p h=>by unfold z52.C at h;simp only at h;split at h;exact z51.sound vs p h;simp at h) ⟨Tryz.func119,rfl,by kernel_rfl⟩ rfl (z52.link _ _ _) (by intro v r h;unfold z52.dec at h;split at h<;>cases h;exact ⟨rfl,rfl⟩)
theorem z53.sound:Sn z53.pack 120:=by
 intro vs p h;unfold z53.pack at h;split at h<;>cases h
 exact Qg Qd Qe rfl rfl rfl rfl (λg vs p h=>by simp [z53.C] at h) ⟨Tryz.func120,rfl,by kernel_rfl⟩ rfl (z53.link _ _ _) (by intro v r h;unfold z53.dec at h;split at h<;>cases h;exact ⟨rfl,rfl⟩)
theorem z54.sound:Sn z54.pack 156:=by
 intro vs p h;unfold z54.pack at h;split at h<;>cases h
 exact Qg Qd Qe rfl rfl rfl rfl (λg vs p h=>by unfold z54.C at h;simp only at h;split at h;exact z40.sound vs p h;exact z21.sound vs p h;simp at h) ⟨Tryz.func156,rfl,by kernel_rfl⟩ rfl (z54.link _ _ _ _) (by intro v r h;unfold z54.dec at h;split at h<;>cases h;exact ⟨rfl,rfl⟩)
theorem z55.sound:Sn z55.pack 204:=by
 intro vs p h;unfold z55.pack at h;split at h<;>cases h
 exact Qg Qd Qe rfl rfl rfl rfl (λg vs p h=>by unfold z55.C at h;simp only at h;split at h;exact z44.sound vs p h;exact z21.sound vs p h;simp at h) ⟨Tryz.func204,rfl,by kernel_rfl⟩ rfl (z55.link _) (by intro v r h;unfold z55.dec at h;split at h<;>cases h;exact ⟨rfl,rfl⟩)
theorem z56.sound:Sn z56.pack 203:=by
 intro vs p h;unfold z56.pack at h;split at h<;>cases h
 exact Qg Qd Qe rfl rfl rfl rfl (λg vs p h=>by unfold z56.C at h;simp only at h;split at h;exact z55.sound vs p h;exact z54.sound vs p h;simp at h) ⟨Tryz.func203,rfl,by kernel_rfl⟩ rfl (z56.link _ _ _ _) (by intro v r h;unfold z56.dec at h;split at h<;>cases h;exact ⟨rfl,rfl⟩)
theorem z57.sound:Sn z57.pack 121:=by
 intro vs p h;unfold z57.pack at h;split at h<;>cases h
 exact Qg Qd Qe rfl rfl rfl rfl (λg vs p h=>by unfold z57.C at h;simp only at h;split at h;exact z56.sound vs p h;exact z34.sound vs p h;simp at h) ⟨Tryz.func121,rfl,by kernel_rfl⟩ rfl (z57.link _ _ _ _ _ _) (by intro v r h;unfold z57.dec at h;split at h<;>cases h;exact ⟨rfl,rfl⟩)
theorem z58.sound:Sn z58.pack 122:=by
 intro vs p h;unfold z58.pack at h;split at h<;>cases h
 exact Qg Qd Qe rfl rfl rfl rfl (λg vs p h=>by simp [z58.C] at h) ⟨Tryz.func122,rfl,by kernel_rfl⟩ rfl (z58.link _ _ _) (by intro v r h;unfold z58.dec at h;split at h<;>cases h;exact ⟨rfl,rfl⟩)
theorem z59.sound:Sn z59.pack 92:=by
 intro vs p h;unfold z59.pack at h;split at h<;>cases h
 exact Qg Qd Qe rfl rfl rfl rfl (λg vs p h=>by simp [z59.C] at h) ⟨Tryz.func92,rfl,by kernel_rfl⟩ rfl (z59.link _ _) (by intro v r h;unfold z59.dec at h;split at h<;>cases h;exact ⟨rfl,rfl⟩)
theorem fun188:FunOK Tryz.prog 188 Tryz.f188 (ifun Tryz.f188).body:=⟨Tryz.func188,rfl,by kernel_rfl⟩
theorem z60.inlF:InlF Tryz.prog z60.C where
 prim g h hp:=by
  unfold z60.C at hp;simp only at hp;split at hp
  ·simp only [Option.some.injEq] at hp;subst hp;exact prim222
  ·simp at hp
 fn g fn h:=by simp [z60.C] at h
 loops g fn h:=by simp [z60.C] at h
theorem z60.sound:Sn z60.pack 188:=by
 intro vs p h;unfold z60.pack at h;split at h<;>cases h
 exact J0 Qd Qe rfl (λg vs p h=>by simp [z60.C] at h) z60.inlF fun188 (λ_=>noLoops rfl _ _ _ _) rfl (z60.link _) (by intro v r h;unfold z60.dec at h;split at h<;>cases h;exact ⟨rfl,rfl⟩)
theorem z61.sound:Sn z61.pack 280:=by
 intro vs p h;unfold z61.pack at h;split at h<;>cases h
 exact Qg Qd Qe rfl rfl rfl rfl (λg vs p h=>by simp [z61.C] at h) ⟨Tryz.func280,rfl,by kernel_rfl⟩ rfl (z61.link _) (by intro v r h;unfold z61.dec at h;split at h<;>cases h;exact ⟨rfl,rfl⟩)
theorem z62.sound:Sn z62.pack 262:=by
 intro vs p h;unfold z62.pack at h;split at h<;>cases h
 exact Qg Qd Qe rfl rfl rfl rfl (λg vs p h=>by unfold z62.C at h;simp only at h;split at h;exact z61.sound vs p h;simp at h) ⟨Tryz.func262,rfl,by kernel_rfl⟩ rfl (z62.link _) (by intro v r h;unfold z62.dec at h;split at h<;>cases h;exact ⟨rfl,rfl⟩)
theorem z63.l0b8_sound (hI:InlOK Tryz.prog z63.C λR=>z63.C.inlK 6):Qh z63.C 6 261 0 0 (Qf 0 (ifun Tryz.f261).body) z63.l0b8sh z63.l0b8pack:=by
 refine Qi λls p h=>?_
 unfold z63.l0b8pack at h;split at h<;>cases h
 rename_i a b c e g j m n q r s
 exact Qm hI (sh:=z63.l0b8sh) (so:=z63.l0b8sh) (F:=λR rec done x=>z63.l0b8P g j n rec done x) (enc:=λ(x':(Int×Int))=>Qb z63.l0b8sh [.i a,.i b,.i c,.i e,.i g,.i j,.i m,.i n,.i q,.i x'.1,.i x'.2]) [9,10] [9,10] (r,s) (by kernel_rfl) (by kernel_rfl) (λx=>by kernel_rfl) (λo=>by kernel_rfl) λR k d x'=>z63.l0b8_link R k d a b c e g j m n q (x'.1) (x'.2)
theorem z63.l2b8_sound (hI:InlOK Tryz.prog z63.C λR=>z63.C.inlK 6):Qh z63.C 6 261 2 0 (Qf 2 (ifun Tryz.f261).body) z63.l2b8sh z63.l2b8pack:=by
 refine Qi λls p h=>?_
 unfold z63.l2b8pack at h;split at h<;>cases h
 rename_i a b c e g j m n q r s
 exact Qm hI (sh:=z63.l2b8sh) (so:=z63.l2b8sh) (F:=λR rec done x=>z63.l2b8P g j m rec done x) (enc:=λ(x':(Int×Int))=>Qb z63.l2b8sh [.i a,.i b,.i c,.i e,.i g,.i j,.i m,.i n,.i x'.1,.i r,.i x'.2]) [8,10] [8,10] (q,s) (by kernel_rfl) (by kernel_rfl) (λx=>by kernel_rfl) (λo=>by kernel_rfl) λR k d x'=>z63.l2b8_link R k d a b c e g j m n (x'.1) r (x'.2)
theorem Q2y:Qk (ifun Tryz.f261).body=true:=by kernel_rfl
theorem z63.loopsT (hI:InlOK Tryz.prog z63.C λR=>z63.C.inlK 6):LoopsOK z63.C (λR=>z63.C.inlK 6) 261 0 (ifun Tryz.f261).body:=by
 intro id b hm st p hp
 obtain rfl:=Ql Q2y hm
 unfold z63.C at hp
 simp only at hp
 try split at hp
 all_goals first
  |(simp at hp;done)
  |(exfalso;omega)
  |exact z63.l0b8_sound hI st p hp
  |exact z63.l2b8_sound hI st p hp
theorem z63.sound:Sn z63.pack 261:=by
 intro vs p h;unfold z63.pack at h;split at h<;>cases h
 exact Qo Qd Qe rfl rfl rfl (λg vs p h=>by unfold z63.C at h;simp only at h;split at h;exact z62.sound vs p h;simp at h) ⟨Tryz.func261,rfl,by kernel_rfl⟩ z63.loopsT rfl (z63.link _ _ _) (by intro v r h;unfold z63.dec at h;split at h<;>cases h;exact ⟨rfl,rfl⟩)
theorem z64.l0_sound (hI:InlOK Tryz.prog z64.C λR=>z64.C.inlK 6):Qh z64.C 6 224 0 0 (Qf 0 (ifun Tryz.f224).body) z64.l0sh z64.l0pack:=by
 refine Qi λls p h=>?_
 unfold z64.l0pack at h;split at h<;>cases h
 rename_i a b c e g j m
 exact Qm hI (sh:=z64.l0sh) (so:=z64.l0sh) (F:=λR rec done x=>z64.l0P a b rec done x) (enc:=λ(x':(Int×Int×(List Int)))=>Qb z64.l0sh [.li a,.i b,.i c,.i x'.1,.i x'.2.1,.li j,.li x'.2.2]) [3,4,6] [3,4,6] (e,g,m) (by kernel_rfl) (by kernel_rfl) (λx=>by kernel_rfl) (λo=>by kernel_rfl) λR k d x'=>z64.l0_link R k d a b c (x'.1) (x'.2.1) j (x'.2.2)
theorem Q0t:Qk (ifun Tryz.f224).body=true:=by kernel_rfl
theorem z64.loopsT (hI:InlOK Tryz.prog z64.C λR=>z64.C.inlK 6):LoopsOK z64.C (λR=>z64.C.inlK 6) 224 0 (ifun Tryz.f224).body:=by
 intro id b hm st p hp
 obtain rfl:=Ql Q0t hm
 unfold z64.C at hp
 simp only at hp
 try split at hp
 all_goals first
  |(simp at hp;done)
  |(exfalso;omega)
  |exact z64.l0_sound hI st p hp
theorem z64.sound:Sn z64.pack 224:=by
 intro vs p h;unfold z64.pack at h;split at h<;>cases h
 exact Qo Qd Qe rfl rfl rfl (λg vs p h=>by unfold z64.C at h;simp only at h;split at h;exact z63.sound vs p h;simp at h) ⟨Tryz.func224,rfl,by kernel_rfl⟩ z64.loopsT rfl (z64.link _ _) (by intro v r h;unfold z64.dec at h;split at h<;>cases h;exact ⟨rfl,rfl⟩)
theorem z65.sound:Sn z65.pack 281:=by
 intro vs p h;unfold z65.pack at h;split at h<;>cases h
 exact Qg Qd Qe rfl rfl rfl rfl (λg vs p h=>by simp [z65.C] at h) ⟨Tryz.func281,rfl,by kernel_rfl⟩ rfl (z65.link _) (by intro v r h;unfold z65.dec at h;split at h<;>cases h;exact ⟨rfl,rfl⟩)
theorem z66.l0_sound (hI:InlOK Tryz.prog z66.C λR=>z66.C.inlK 6):Qh z66.C 6 267 0 0 (Qf 0 (ifun Tryz.f267).body) z66.l0sh z66.l0pack:=by
 refine Qi λls p h=>?_
 unfold z66.l0pack at h;split at h<;>cases h
 rename_i a b c e g j m q
 exact Qm hI (sh:=z66.l0sh) (so:=z66.l0sh) (F:=λR rec done x=>z66.l0P b c e g rec done x) (enc:=λ(x':(Int×(List Int)))=>Qb z66.l0sh [.i a,.n b,.n c,.i e,.i g,.i x'.1,.li m,.li x'.2]) [5,7] [5,7] (j,q) (by kernel_rfl) (by kernel_rfl) (λx=>by kernel_rfl) (λo=>by kernel_rfl) λR k d x'=>z66.l0_link R k d a b c e g (x'.1) m (x'.2)
theorem Q3c:Qk (ifun Tryz.f267).body=true:=by kernel_rfl
theorem z66.loopsT (hI:InlOK Tryz.prog z66.C λR=>z66.C.inlK 6):LoopsOK z66.C (λR=>z66.C.inlK 6) 267 0 (ifun Tryz.f267).body:=by
 intro id b hm st p hp
 obtain rfl:=Ql Q3c hm
 unfold z66.C at hp
 simp only at hp
 try split at hp
 all_goals first
  |(simp at hp;done)
  |(exfalso;omega)
  |exact z66.l0_sound hI st p hp
theorem z66.loops188 (hI:InlOK Tryz.prog z66.C λR=>z66.C.inlK 1) (base:Nat):LoopsOK z66.C (λR=>z66.C.inlK 1) 188 base (ifun Tryz.f188).body:=by
 intro id b hm st p hp
 exfalso
 unfold z66.C at hp
 simp only at hp
 try split at hp
 all_goals first|(simp at hp;done)|omega
theorem z66.inlF:InlF Tryz.prog z66.C where
 prim g h hp:=by
  unfold z66.C at hp;simp only at hp;split at hp
  ·simp only [Option.some.injEq] at hp;subst hp;exact prim222
  ·simp at hp
 fn g fn h:=by
  unfold z66.C at h;simp only at h;split at h
  ·simp only [Option.some.injEq] at h;subst h;exact ⟨_,_,fun188,rfl⟩
  ·simp at h
 loops g fn h:=by
  unfold z66.C at h;simp only at h;split at h
  ·simp only [Option.some.injEq] at h;subst h;exact λhI base=>z66.loops188 hI base
  ·simp at h
theorem z66.sound:Sn z66.pack 267:=by
 intro vs p h;unfold z66.pack at h;split at h<;>cases h
 exact J0 Qd Qe rfl (λg vs p h=>by unfold z66.C at h;simp only at h;split at h;exact z65.sound vs p h;exact z38.sound vs p h;simp at h) z66.inlF ⟨Tryz.func267,rfl,by kernel_rfl⟩ z66.loopsT rfl (z66.link _ _) (by intro v r h;unfold z66.dec at h;split at h<;>cases h;exact ⟨rfl,rfl⟩)
theorem z67.l0_sound (hI:InlOK Tryz.prog z67.C λR=>z67.C.inlK 0):Qh z67.C 0 263 0 2 (Qf 0 (ifun Tryz.f263).body) z67.l0sh z67.l0pack:=by
 refine Qi λls p h=>?_
 unfold z67.l0pack at h;split at h<;>cases h
 rename_i a b c e g j m n
 exact Qm hI (sh:=z67.l0sh) (so:=z67.l0sh) (F:=λR rec done x=>z67.l0P a b c rec done x) (enc:=λ(x':(Int×(List Int)))=>Qb z67.l0sh [.i a,.li b,.i c,.i x'.1,.li g,.li j,.li m,.li x'.2]) [3,7] [3,7] (e,n) (by kernel_rfl) (by kernel_rfl) (λx=>by kernel_rfl) (λo=>by kernel_rfl) λR k d x'=>z67.l0_link R k d a b c (x'.1) g j m (x'.2)
theorem z67.l0a_sound (hI:InlOK Tryz.prog z67.C λR=>z67.C.inlK 0):Qh z67.C 0 263 0 4 (Qf 0 (ifun Tryz.f263).body) z67.l0ash z67.l0apack:=by
 refine Qi λls p h=>?_
 unfold z67.l0apack at h;split at h<;>cases h
 rename_i a b c e g j m n q r
 exact Qm hI (sh:=z67.l0ash) (so:=z67.l0ash) (F:=λR rec done x=>z67.l0aP a b c rec done x) (enc:=λ(x':(Int×(List Int)))=>Qb z67.l0ash [.i a,.li b,.i c,.i x'.1,.li g,.li j,.li m,.li n,.li q,.li x'.2]) [3,9] [3,9] (e,r) (by kernel_rfl) (by kernel_rfl) (λx=>by kernel_rfl) (λo=>by kernel_rfl) λR k d x'=>z67.l0a_link R k d a b c (x'.1) g j m n q (x'.2)
theorem z67.l0b3_sound (hI:InlOK Tryz.prog z67.C λR=>z67.C.inlK 0):Qh z67.C 0 265 0 7 (Qf 0 (ifun Tryz.f265).body) z67.l0b3sh z67.l0b3pack:=by
 refine Qi λls p h=>?_
 unfold z67.l0b3pack at h;split at h<;>cases h
 rename_i a b c e g j m q r s t u v w y z A
 exact Qm hI (sh:=z67.l0b3sh) (so:=z67.l0b3sh) (F:=λR rec done x=>z67.l0b3P a b g r s t z rec done x) (enc:=λ(x':(Int×Int×Int×(List Int)))=>Qb z67.l0b3sh [.n a,.n b,.n c,.n e,.i g,.i j,.i x'.1,.i x'.2.1,.n r,.n s,.i t,.i x'.2.2.1,.li v,.li w,.li x'.2.2.2,.li z,.li A]) [6,7,11,14] [6,7,11,14] (m,q,u,y) (by kernel_rfl) (by kernel_rfl) (λx=>by kernel_rfl) (λo=>by kernel_rfl) λR k d x'=>z67.l0b3_link R k d a b c e g j (x'.1) (x'.2.1) r s t (x'.2.2.1) v w (x'.2.2.2) z A
theorem z67.l0b4_sound (hI:InlOK Tryz.prog z67.C λR=>z67.C.inlK 0):Qh z67.C 0 266 0 7 (Qf 0 (ifun Tryz.f266).body) z67.l0b4sh z67.l0b4pack:=by
 refine Qi λls p h=>?_
 unfold z67.l0b4pack at h;split at h<;>cases h
 rename_i a b c e g j m q r s t u v w
 exact Qm hI (sh:=z67.l0b4sh) (so:=z67.l0b4sh) (F:=λR rec done x=>z67.l0b4P a b j m q v rec done x) (enc:=λ(x':(Int×Int×(List Int)))=>Qb z67.l0b4sh [.n a,.n b,.n c,.n e,.i x'.1,.n j,.n m,.i q,.i x'.2.1,.li s,.li t,.li x'.2.2,.li v,.li w]) [4,8,11] [4,8,11] (g,r,u) (by kernel_rfl) (by kernel_rfl) (λx=>by kernel_rfl) (λo=>by kernel_rfl) λR k d x'=>z67.l0b4_link R k d a b c e (x'.1) j m q (x'.2.1) s t (x'.2.2) v w
theorem z67.l2_sound (hI:InlOK Tryz.prog z67.C λR=>z67.C.inlK 6):Qh z67.C 6 225 2 0 (Qf 2 (ifun Tryz.f225).body) z67.l2sh z67.l2pack:=by
 refine Qi λls p h=>?_
 unfold z67.l2pack at h;split at h<;>cases h
 rename_i a b c e g j m q r s t u v
 exact Qm hI (sh:=z67.l2sh) (so:=z67.l2sh) (F:=λR rec done x=>z67.l2P a b g j u rec done x) (enc:=λ(x':(Int×Int×(List Int)))=>Qb z67.l2sh [.n a,.n b,.i c,.i e,.n g,.n j,.i x'.1,.i x'.2.1,.li r,.li s,.li x'.2.2,.li u,.li v]) [6,7,10] [6,7,10] (m,q,t) (by kernel_rfl) (by kernel_rfl) (λx=>by kernel_rfl) (λo=>by kernel_rfl) λR k d x'=>z67.l2_link R k d a b c e g j (x'.1) (x'.2.1) r s (x'.2.2) u v
theorem z67.l0aa_sound (hI:InlOK Tryz.prog z67.C λR=>z67.C.inlK 6):Qh z67.C 6 225 0 0 (Qf 0 (ifun Tryz.f225).body) z67.l0aash z67.l0aapack:=by
 refine Qi λls p h=>?_
 unfold z67.l0aapack at h;split at h<;>cases h
 rename_i a b c e g j m q r
 exact Qm hI (sh:=z67.l0aash) (so:=z67.l0aash) (F:=λR rec done x=>z67.l0aaP a b q rec done x) (enc:=λ(x':(Int×(List Int)×(List Int)))=>Qb z67.l0aash [.n a,.n b,.i c,.i x'.1,.li g,.li j,.li x'.2.1,.li q,.li x'.2.2]) [3,6,8] [3,6,8] (e,m,r) (by kernel_rfl) (by kernel_rfl) (λx=>by kernel_rfl) (λo=>by kernel_rfl) λR k d x'=>z67.l0aa_link R k d a b c (x'.1) g j (x'.2.1) q (x'.2.2)
theorem Qyb:Qk (ifun Tryz.f225).body=true:=by kernel_rfl
theorem Qx1:Qk (ifun Tryz.f263).body=true:=by kernel_rfl
theorem Qwj:Qk (ifun Tryz.f265).body=true:=by kernel_rfl
theorem Q3j:Qk (ifun Tryz.f266).body=true:=by kernel_rfl
theorem z67.loopsT (hI:InlOK Tryz.prog z67.C λR=>z67.C.inlK 6):LoopsOK z67.C (λR=>z67.C.inlK 6) 225 0 (ifun Tryz.f225).body:=by
 intro id b hm st p hp
 obtain rfl:=Ql Qyb hm
 unfold z67.C at hp
 simp only at hp
 try split at hp
 all_goals first
  |(simp at hp;done)
  |(exfalso;omega)
  |exact z67.l2_sound hI st p hp
  |exact z67.l0aa_sound hI st p hp
theorem z67.loops263 (hI:InlOK Tryz.prog z67.C λR=>z67.C.inlK 0) (base:Nat):LoopsOK z67.C (λR=>z67.C.inlK 0) 263 base (ifun Tryz.f263).body:=by
 intro id b hm st p hp
 obtain rfl:=Ql Qx1 hm
 unfold z67.C at hp
 simp only at hp
 by_cases hb2:base=2
 ·subst hb2
  try split at hp
  all_goals first
   |(simp at hp;done)
   |(exfalso;omega)
   |exact z67.l0_sound hI st p hp
 by_cases hb4:base=4
 ·subst hb4
  try split at hp
  all_goals first
   |(simp at hp;done)
   |(exfalso;omega)
   |exact z67.l0a_sound hI st p hp
 exfalso
 try split at hp
 all_goals first|(simp at hp;done)|omega
theorem z67.loops264 (hI:InlOK Tryz.prog z67.C λR=>z67.C.inlK 0) (base:Nat):LoopsOK z67.C (λR=>z67.C.inlK 0) 264 base (ifun Tryz.f264).body:=by
 intro id b hm st p hp
 exfalso
 unfold z67.C at hp
 simp only at hp
 try split at hp
 all_goals first|(simp at hp;done)|omega
theorem z67.loops265 (hI:InlOK Tryz.prog z67.C λR=>z67.C.inlK 0) (base:Nat):LoopsOK z67.C (λR=>z67.C.inlK 0) 265 base (ifun Tryz.f265).body:=by
 intro id b hm st p hp
 obtain rfl:=Ql Qwj hm
 unfold z67.C at hp
 simp only at hp
 try split at hp
 all_goals first
  |(simp at hp;done)
  |(exfalso;omega)
  |exact z67.l0b3_sound hI st p hp
theorem z67.loops266 (hI:InlOK Tryz.prog z67.C λR=>z67.C.inlK 0) (base:Nat):LoopsOK z67.C (λR=>z67.C.inlK 0) 266 base (ifun Tryz.f266).body:=by
 intro id b hm st p hp
 obtain rfl:=Ql Q3j hm
 unfold z67.C at hp
 simp only at hp
 try split at hp
 all_goals first
  |(simp at hp;done)
  |(exfalso;omega)
  |exact z67.l0b4_sound hI st p hp
theorem z67.inlF:InlF Tryz.prog z67.C where
 prim g h hp:=by simp [z67.C] at hp
 fn g fn h:=by
  unfold z67.C at h;simp only at h;split at h
  ·simp only [Option.some.injEq] at h;subst h;exact ⟨_,_,⟨Tryz.func263,rfl,by kernel_rfl⟩,rfl⟩
  ·simp only [Option.some.injEq] at h;subst h;exact ⟨_,_,⟨Tryz.func264,rfl,by kernel_rfl⟩,rfl⟩
  ·simp only [Option.some.injEq] at h;subst h;exact ⟨_,_,⟨Tryz.func265,rfl,by kernel_rfl⟩,rfl⟩
  ·simp only [Option.some.injEq] at h;subst h;exact ⟨_,_,⟨Tryz.func266,rfl,by kernel_rfl⟩,rfl⟩
  ·simp at h
 loops g fn h:=by
  unfold z67.C at h;simp only at h;split at h
  ·simp only [Option.some.injEq] at h;subst h;exact λhI base=>z67.loops263 hI base
  ·simp only [Option.some.injEq] at h;subst h;exact λhI base=>z67.loops264 hI base
  ·simp only [Option.some.injEq] at h;subst h;exact λhI base=>z67.loops265 hI base
  ·simp only [Option.some.injEq] at h;subst h;exact λhI base=>z67.loops266 hI base
  ·simp at h
theorem z67.sound:Sn z67.pack 225:=by
 intro vs p h;unfold z67.pack at h;split at h<;>cases h
 exact J0 Qd Qe rfl (λg vs p h=>by unfold z67.C at h;simp only at h;split at h;exact z62.sound vs p h;exact z39.sound vs p h;exact z0.sound vs p h;exact z1.sound vs p h;exact z63.sound vs p h;exact z38.sound vs p h;exact z66.sound vs p h;exact z60.sound vs p h;simp at h) z67.inlF ⟨Tryz.func225,rfl,by kernel_rfl⟩ z67.loopsT rfl (z67.link _ _) (by intro v r h;unfold z67.dec at h;split at h<;>cases h;exact ⟨rfl,rfl⟩)
theorem z68.sound:Sn z68.pack 162:=by
 intro vs p h;unfold z68.pack at h;split at h<;>cases h
 exact Qg Qd Qe rfl rfl rfl rfl (λg vs p h=>by unfold z68.C at h;simp only at h;split at h;exact z19.sound vs p h;exact z29.sound vs p h;exact z60.sound vs p h;exact z64.sound vs p h;exact z38.sound vs p h;exact z67.sound vs p h;simp at h) ⟨Tryz.func162,rfl,by kernel_rfl⟩ rfl (z68.link _ _) (by intro v r h;unfold z68.dec at h;split at h<;>cases h;exact ⟨rfl,rfl⟩)
theorem z69.l0_sound (hI:InlOK Tryz.prog z69.C λR=>z69.C.inlK 6):Qh z69.C 6 226 0 0 (Qf 0 (ifun Tryz.f226).body) z69.l0sh z69.l0pack:=by
 refine Qi λls p h=>?_
 unfold z69.l0pack at h;split at h<;>cases h
 rename_i a b c
 exact Qm hI (sh:=z69.l0sh) (so:=z69.l0sh) (F:=λR rec done x=>z69.l0P rec done x) (enc:=λ(x':((List Int)×(List Int)))=>Qb z69.l0sh [.li x'.1,.li x'.2,.li c]) [0,1] [0,1] (a,b) (by kernel_rfl) (by kernel_rfl) (λx=>by kernel_rfl) (λo=>by kernel_rfl) λR k d x'=>z69.l0_link R k d (x'.1) (x'.2) c
theorem Quh:Qk (ifun Tryz.f226).body=true:=by kernel_rfl
theorem z69.loopsT (hI:InlOK Tryz.prog z69.C λR=>z69.C.inlK 6):LoopsOK z69.C (λR=>z69.C.inlK 6) 226 0 (ifun Tryz.f226).body:=by
 intro id b hm st p hp
 obtain rfl:=Ql Quh hm
 unfold z69.C at hp
 simp only at hp
 try split at hp
 all_goals first
  |(simp at hp;done)
  |(exfalso;omega)
  |exact z69.l0_sound hI st p hp
theorem z69.sound:Sn z69.pack 226:=by
 intro vs p h;unfold z69.pack at h;split at h<;>cases h
 exact Qo Qd Qe rfl rfl rfl (λg vs p h=>by unfold z69.C at h;simp only at h;split at h;exact z19.sound vs p h;exact z68.sound vs p h;simp at h) ⟨Tryz.func226,rfl,by kernel_rfl⟩ z69.loopsT rfl (z69.link _ _) (by intro v r h;unfold z69.dec at h;split at h<;>cases h;exact ⟨rfl,rfl⟩)
theorem z70.sound:Sn z70.pack 163:=by
 intro vs p h;unfold z70.pack at h;split at h<;>cases h
 exact Qg Qd Qe rfl rfl rfl rfl (λg vs p h=>by unfold z70.C at h;simp only at h;split at h;exact z59.sound vs p h;exact z69.sound vs p h;exact z68.sound vs p h;exact z38.sound vs p h;exact z30.sound vs p h;exact z20.sound vs p h;exact z21.sound vs p h;simp at h) ⟨Tryz.func163,rfl,by kernel_rfl⟩ rfl (z70.link _ _ _) (by intro v r h;unfold z70.dec at h;split at h<;>cases h;exact ⟨rfl,rfl⟩)
theorem z71.sound:Sn z71.pack 176:=by
 intro vs p h;unfold z71.pack at h;split at h<;>cases h
 exact Qg Qd Qe rfl rfl rfl rfl (λg vs p h=>by unfold z71.C at h;simp only at h;split at h;exact z20.sound vs p h;exact z32.sound vs p h;exact z59.sound vs p h;exact z70.sound vs p h;simp at h) ⟨Tryz.func176,rfl,by kernel_rfl⟩ rfl (z71.link _ _ _ _) (by intro v r h;unfold z71.dec at h;split at h<;>cases h;exact ⟨rfl,rfl⟩)
theorem z72.sound:Sn z72.pack 123:=by
 intro vs p h;unfold z72.pack at h;split at h<;>cases h
 exact Qg Qd Qe rfl rfl rfl rfl (λg vs p h=>by unfold z72.C at h;simp only at h;split at h;exact z55.sound vs p h;exact z71.sound vs p h;simp at h) ⟨Tryz.func123,rfl,by kernel_rfl⟩ rfl (z72.link _ _ _) (by intro v r h;unfold z72.dec at h;split at h<;>cases h;exact ⟨rfl,rfl⟩)
theorem z73.sound:Sn z73.pack 130:=by
 intro vs p h;unfold z73.pack at h;split at h<;>cases h
 exact Qg Qd Qe rfl rfl rfl rfl (λg vs p h=>by unfold z73.C at h;simp only at h;split at h;exact z38.sound vs p h;exact z24.sound vs p h;simp at h) ⟨Tryz.func130,rfl,by kernel_rfl⟩ rfl (z73.link _ _ _) (by intro v r h;unfold z73.dec at h;split at h<;>cases h;exact ⟨rfl,rfl⟩)
theorem z74.sound:Sn z74.pack 157:=by
 intro vs p h;unfold z74.pack at h;split at h<;>cases h
 exact Qg Qd Qe rfl rfl rfl rfl (λg vs p h=>by unfold z74.C at h;simp only at h;split at h;exact z73.sound vs p h;exact z21.sound vs p h;simp at h) ⟨Tryz.func157,rfl,by kernel_rfl⟩ rfl (z74.link _ _ _) (by intro v r h;unfold z74.dec at h;split at h<;>cases h;exact ⟨rfl,rfl⟩)
theorem z75.sound:Sn z75.pack 124:=by
 intro vs p h;unfold z75.pack at h;split at h<;>cases h
 exact Qg Qd Qe rfl rfl rfl rfl (λg vs p h=>by unfold z75.C at h;simp only at h;split at h;exact z74.sound vs p h;exact z54.sound vs p h;exact z71.sound vs p h;simp at h) ⟨Tryz.func124,rfl,by kernel_rfl⟩ rfl (z75.link _ _ _ _ _ _) (by intro v r h;unfold z75.dec at h;split at h<;>cases h;exact ⟨rfl,rfl⟩)
theorem z76.sound:Sn z76.pack 38:=by
 intro vs p h;unfold z76.pack at h;split at h<;>cases h
 exact Qg Qd Qe rfl rfl rfl rfl (λg vs p h=>by unfold z76.C at h;simp only at h;split at h;exact z50.sound vs p h;exact z48.sound vs p h;exact z52.sound vs p h;exact z53.sound vs p h;exact z20.sound vs p h;exact z57.sound vs p h;exact z58.sound vs p h;exact z72.sound vs p h;exact z47.sound vs p h;exact z75.sound vs p h;simp at h) ⟨Tryz.func38,rfl,by kernel_rfl⟩ rfl (z76.link _) (by intro v r h;unfold z76.dec at h;split at h<;>cases h;exact ⟨rfl,rfl⟩)
theorem z79.sound:Sn z79.pack 214:=by
 intro vs p h;unfold z79.pack at h;split at h<;>cases h
 exact Qg Qd Qe rfl rfl rfl rfl (λg vs p h=>by simp [z79.C] at h) ⟨Tryz.func214,rfl,by kernel_rfl⟩ rfl (z79.link _) (by intro v r h;unfold z79.dec at h;split at h<;>cases h;exact ⟨rfl,rfl⟩)
theorem z80.sound:Sn z80.pack 215:=by
 intro vs p h;unfold z80.pack at h;split at h<;>cases h
 exact Qg Qd Qe rfl rfl rfl rfl (λg vs p h=>by simp [z80.C] at h) ⟨Tryz.func215,rfl,by kernel_rfl⟩ rfl z80.link (by intro v r h;unfold z80.dec at h;split at h<;>cases h;exact ⟨rfl,rfl⟩)
theorem z81.sound:Sn z81.pack 149:=by
 intro vs p h;unfold z81.pack at h;split at h<;>cases h
 exact Qg Qd Qe rfl rfl rfl rfl (λg vs p h=>by unfold z81.C at h;simp only at h;split at h;exact z79.sound vs p h;exact z80.sound vs p h;simp at h) ⟨Tryz.func149,rfl,by kernel_rfl⟩ rfl (z81.link _) (by intro v r h;unfold z81.dec at h;split at h<;>cases h;exact ⟨rfl,rfl⟩)
theorem z82.sound:Sn z82.pack 228:=by
 intro vs p h;unfold z82.pack at h;split at h<;>cases h
 exact Qg Qd Qe rfl rfl rfl rfl (λg vs p h=>by simp [z82.C] at h) ⟨Tryz.func228,rfl,by kernel_rfl⟩ rfl (z82.link _) (by intro v r h;unfold z82.dec at h;split at h<;>cases h;exact ⟨rfl,rfl⟩)
theorem z83.sound:Sn z83.pack 257:=by
 intro vs p h;unfold z83.pack at h;split at h<;>cases h
 exact Qg Qd Qe rfl rfl rfl rfl (λg vs p h=>by simp [z83.C] at h) ⟨Tryz.func257,rfl,by kernel_rfl⟩ rfl z83.link (by intro v r h;unfold z83.dec at h;split at h<;>cases h;exact ⟨rfl,rfl⟩)
theorem z84.sound:Sn z84.pack 209:=by
 intro vs p h;unfold z84.pack at h;split at h<;>cases h
 exact Qg Qd Qe rfl rfl rfl rfl (λg vs p h=>by unfold z84.C at h;simp only at h;split at h;exact z82.sound vs p h;exact z83.sound vs p h;simp at h) ⟨Tryz.func209,rfl,by kernel_rfl⟩ rfl (z84.link _) (by intro v r h;unfold z84.dec at h;split at h<;>cases h;exact ⟨rfl,rfl⟩)
theorem z86.sound:Sn z86.pack 258:=by
 intro vs p h;unfold z86.pack at h;split at h<;>cases h
 exact Qg Qd Qe rfl rfl rfl rfl (λg vs p h=>by simp [z86.C] at h) ⟨Tryz.func258,rfl,by kernel_rfl⟩ rfl (z86.link _) (by intro v r h;unfold z86.dec at h;split at h<;>cases h;exact ⟨rfl,rfl⟩)
theorem z87.sound:Sn z87.pack 259:=by
 intro vs p h;unfold z87.pack at h;split at h<;>cases h
 exact Qg Qd Qe rfl rfl rfl rfl (λg vs p h=>by unfold z87.C at h;simp only at h;split at h;exact z86.sound vs p h;simp at h) ⟨Tryz.func259,rfl,by kernel_rfl⟩ rfl (z87.link _) (by intro v r h;unfold z87.dec at h;split at h<;>cases h;exact ⟨rfl,rfl⟩)
theorem z88.sound:Sn z88.pack 210:=by
 intro vs p h;unfold z88.pack at h;split at h<;>cases h
 exact Qg Qd Qe rfl rfl rfl rfl (λg vs p h=>by unfold z88.C at h;simp only at h;split at h;exact z86.sound vs p h;exact z87.sound vs p h;simp at h) ⟨Tryz.func210,rfl,by kernel_rfl⟩ rfl (z88.link _ _) (by intro v r h;unfold z88.dec at h;split at h<;>cases h;exact ⟨rfl,rfl⟩)
theorem z89.sound:Sn z89.pack 142:=by
 intro vs p h;unfold z89.pack at h;split at h<;>cases h
 exact Qg Qd Qe rfl rfl rfl rfl (λg vs p h=>by unfold z89.C at h;simp only at h;split at h;exact z88.sound vs p h;simp at h) ⟨Tryz.func142,rfl,by kernel_rfl⟩ rfl (z89.link _ _ _) (by intro v r h;unfold z89.dec at h;split at h<;>cases h;exact ⟨rfl,rfl⟩)
theorem z133.l0b4_sound (hI:InlOK Tryz.prog z133.C λR=>z133.C.inlK 6):Qh z133.C 6 189 0 0 (Qf 0 (ifun Tryz.f189).body) z133.l0b4sh z133.l0b4pack:=by
 refine Qi λls p h=>?_
 unfold z133.l0b4pack at h;split at h<;>cases h
 rename_i a b c e g
 exact Qm hI (sh:=z133.l0b4sh) (so:=z133.l0b4sh) (F:=λR rec done x=>z133.l0b4P b rec done x) (enc:=λ(x':(Int×Int×(List Int)))=>Qb z133.l0b4sh [.i x'.1,.i b,.s c,.i x'.2.1,.li x'.2.2]) [0,3,4] [0,3,4] (a,e,g) (by kernel_rfl) (by kernel_rfl) (λx=>by kernel_rfl) (λo=>by kernel_rfl) λR k d x'=>z133.l0b4_link R k d (x'.1) b c (x'.2.1) (x'.2.2)
theorem Qu5:Qk (ifun Tryz.f189).body=true:=by kernel_rfl
theorem z133.loopsT (hI:InlOK Tryz.prog z133.C λR=>z133.C.inlK 6):LoopsOK z133.C (λR=>z133.C.inlK 6) 189 0 (ifun Tryz.f189).body:=by
 intro id b hm st p hp
 obtain rfl:=Ql Qu5 hm
 unfold z133.C at hp
 simp only at hp
 try split at hp
 all_goals first
  |(simp at hp;done)
  |(exfalso;omega)
  |exact z133.l0b4_sound hI st p hp
theorem z133.sound:Sn z133.pack 189:=by
 intro vs p h;unfold z133.pack at h;split at h<;>cases h
 exact Qo Qd Qe rfl rfl rfl (λg vs p h=>by simp [z133.C] at h) ⟨Tryz.func189,rfl,by kernel_rfl⟩ z133.loopsT rfl (z133.link _ _) (by intro v r h;unfold z133.dec at h;split at h<;>cases h;exact ⟨rfl,rfl⟩)
theorem z134.l2_sound (hI:InlOK Tryz.prog z134.C λR=>z134.C.inlK 6):Qh z134.C 6 101 2 0 (Qf 2 (ifun Tryz.f101).body) z134.l2sh z134.l2pack:=by
 refine Qi λls p h=>?_
 unfold z134.l2pack at h;split at h<;>cases h
 rename_i a b c e g j m n
 exact Qm hI (sh:=z134.l2sh) (so:=z134.l2sh) (F:=λR rec done x=>z134.l2P c e rec done x) (enc:=λ(x':(Int×Int))=>Qb z134.l2sh [.s a,.i x'.1,.li c,.i e,.i x'.2,.li j,.ls m,.li n]) [1,4] [1,4] (b,g) (by kernel_rfl) (by kernel_rfl) (λx=>by kernel_rfl) (λo=>by kernel_rfl) λR k d x'=>z134.l2_link R k d a (x'.1) c e (x'.2) j m n
theorem z134.l0_sound (hI:InlOK Tryz.prog z134.C λR=>z134.C.inlK 6):Qh z134.C 6 101 0 0 (Qf 0 (ifun Tryz.f101).body) z134.l0sh z134.l0pack:=by
 refine Qi λls p h=>?_
 unfold z134.l0pack at h;split at h<;>cases h
 rename_i a b c
 exact Qm hI (sh:=z134.l0sh) (so:=z134.l0sh) (F:=λR rec done x=>z134.l0P rec done x) (enc:=λ(x':((List Int)×(List (List UInt8))))=>Qb z134.l0sh [.s a,.li x'.1,.ls x'.2]) [1,2] [1,2] (b,c) (by kernel_rfl) (by kernel_rfl) (λx=>by kernel_rfl) (λo=>by kernel_rfl) λR k d x'=>z134.l0_link R k d a (x'.1) (x'.2)
theorem z134.l4_sound (hI:InlOK Tryz.prog z134.C λR=>z134.C.inlK 6):Qh z134.C 6 101 4 0 (Qf 4 (ifun Tryz.f101).body) z134.l4sh z134.l4pack:=by
 refine Qi λls p h=>?_
 unfold z134.l4pack at h;split at h<;>cases h
 rename_i a b c e
 exact Qm hI (sh:=z134.l4sh) (so:=z134.l4sh) (F:=λR rec done x=>z134.l4P c rec done x) (enc:=λ(x':(Int×(List Int)))=>Qb z134.l4sh [.s a,.i x'.1,.ls c,.li x'.2]) [1,3] [1,3] (b,e) (by kernel_rfl) (by kernel_rfl) (λx=>by kernel_rfl) (λo=>by kernel_rfl) λR k d x'=>z134.l4_link R k d a (x'.1) c (x'.2)
theorem Qxt:Qk (ifun Tryz.f101).body=true:=by kernel_rfl
theorem z134.loopsT (hI:InlOK Tryz.prog z134.C λR=>z134.C.inlK 6):LoopsOK z134.C (λR=>z134.C.inlK 6) 101 0 (ifun Tryz.f101).body:=by
 intro id b hm st p hp
 obtain rfl:=Ql Qxt hm
 unfold z134.C at hp
 simp only at hp
 try split at hp
 all_goals first
  |(simp at hp;done)
  |(exfalso;omega)
  |exact z134.l2_sound hI st p hp
  |exact z134.l0_sound hI st p hp
  |exact z134.l4_sound hI st p hp
theorem z134.loops191 (hI:InlOK Tryz.prog z134.C λR=>z134.C.inlK 0) (base:Nat):LoopsOK z134.C (λR=>z134.C.inlK 0) 191 base (ifun Tryz.f191).body:=by
 intro id b hm st p hp
 exfalso
 unfold z134.C at hp
 simp only at hp
 try split at hp
 all_goals first|(simp at hp;done)|omega
theorem z134.loops190 (hI:InlOK Tryz.prog z134.C λR=>z134.C.inlK 1) (base:Nat):LoopsOK z134.C (λR=>z134.C.inlK 1) 190 base (ifun Tryz.f190).body:=by
 intro id b hm st p hp
 exfalso
 unfold z134.C at hp
 simp only at hp
 try split at hp
 all_goals first|(simp at hp;done)|omega
theorem prim246:SoundP Tryz.prog 246 (copyP 274):=Qxs
theorem z134.inlF:InlF Tryz.prog z134.C where
 prim g h hp:=by
  unfold z134.C at hp;simp only at hp;split at hp
  ·simp only [Option.some.injEq] at hp;subst hp;exact prim246
  ·simp at hp
 fn g fn h:=by
  unfold z134.C at h;simp only at h;split at h
  ·simp only [Option.some.injEq] at h;subst h;exact ⟨_,_,⟨Tryz.func191,rfl,by kernel_rfl⟩,rfl⟩
  ·simp only [Option.some.injEq] at h;subst h;exact ⟨_,_,⟨Tryz.func190,rfl,by kernel_rfl⟩,rfl⟩
  ·simp at h
 loops g fn h:=by
  unfold z134.C at h;simp only at h;split at h
  ·simp only [Option.some.injEq] at h;subst h;exact λhI base=>z134.loops191 hI base
  ·simp only [Option.some.injEq] at h;subst h;exact λhI base=>z134.loops190 hI base
  ·simp at h
theorem z134.sound:Sn z134.pack 101:=by
 intro vs p h;unfold z134.pack at h;split at h<;>cases h
 exact J0 Qd Qe rfl (λg vs p h=>by unfold z134.C at h;simp only at h;split at h;exact z19.sound vs p h;exact z38.sound vs p h;exact z68.sound vs p h;exact z60.sound vs p h;exact z133.sound vs p h;simp at h) z134.inlF ⟨Tryz.func101,rfl,by kernel_rfl⟩ z134.loopsT rfl (z134.link _) (by intro v r h;unfold z134.dec at h;split at h<;>cases h;exact ⟨rfl,rfl⟩)
theorem z135.sound:Sn z135.pack 25:=by
 intro vs p h;unfold z135.pack at h;split at h<;>cases h
 exact Qg Qd Qe rfl rfl rfl rfl (λg vs p h=>by unfold z135.C at h;simp only at h;split at h;exact z134.sound vs p h;simp at h) ⟨Tryz.func25,rfl,by kernel_rfl⟩ rfl (z135.link _ _) (by intro v r h;unfold z135.dec at h;split at h<;>cases h;exact ⟨rfl,rfl⟩)
end
end Go.Proofs.YtgjncgiekniniaaGreatDoor.A
end
section
namespace Go.Proofs.YtgjncgiekniniaaGreatDoor.A
open Go
def Runs {σ R:Type} (F:(σ->Option R)->σ->Option R) (x:σ) (r:R):Prop:=
 (∃n,Wl F n x=some r)/\∀n,Wl F n x=none\/Wl F n x=some r
theorem Runs.done {σ R:Type} {F:(σ->Option R)->σ->Option R} {x:σ} {r:R} (h:∀rec,F rec x=some r):Runs F x r:=by
 refine ⟨⟨1,h _⟩,λn=>?_⟩
 cases n with
 |zero=>exact .inl rfl
 |succ n=>exact .inr (h _)
theorem Runs.step {σ R:Type} {F:(σ->Option R)->σ->Option R} {x y:σ} {r:R} (h:∀rec,F rec x=rec y) (hy:Runs F y r):Runs F x r:=by
 obtain ⟨⟨m,hm⟩,ha⟩:=hy
 refine ⟨⟨m+1,by rw [<-hm];exact h _⟩,λn=>?_⟩
 cases n with
 |zero=>exact .inl rfl
 |succ n=>have:=ha n;rw [<-h (Wl F n)] at this;exact this
theorem Runs.lfp {σ R:Type} {F:(σ->Option R)->σ->Option R} {x:σ} {r:R} (h:Runs F x r):A.lfp F x=some r:=by
 obtain ⟨⟨m,hm⟩,ha⟩:=h
 unfold A.lfp
 have hex:∃n,(Wl F n x).isSome:=⟨m,by rw [hm];rfl⟩
 rw [dif_pos hex]
 rcases ha (Classical.choose hex) with h0|h0
 ·have:=Classical.choose_spec hex
  rw [h0] at this;simp at this
 ·exact h0
theorem Qc {n:Int} (h1:-9223372036854775808<=n) (h2:n<9223372036854775808):wr .i64 n=n:=by
 simp only [wr,IntKind.wrap,IntKind.signed,IntKind.bits]
 simp;omega
theorem Qq {n:Int} (h1:0<=n) (h2:n<18446744073709551616):wr .u64 n=n:=by
 simp only [wr,IntKind.wrap,IntKind.signed,IntKind.bits]
 simp;omega
theorem W1 (n:Int):wr .u64 n=n%18446744073709551616:=by
 simp [wr,IntKind.wrap,IntKind.signed,IntKind.bits]
theorem Qgd {n:Int} (h1:0<=n) (h2:n<256):wr .u8 n=n:=by
 simp only [wr,IntKind.wrap,IntKind.signed,IntKind.bits]
 simp;omega
theorem Yd {a b:Int} (h:0<=a):Int.tdiv a b=a/b:=Int.tdiv_eq_ediv_of_nonneg h
theorem Yk {a b:Int} (h:0<=a):Int.tmod a b=a%b:=Int.tmod_eq_emod_of_nonneg h
def toB (B n:Nat):List Int:=if h:2<=B/\0<n then ((n%B:Nat):Int)::toB B (n/B) else []
termination_by n
decreasing_by exact Nat.div_lt_self h.2 h.1
def valB (B:Nat):List Int->Int
 |[]=>0
 |x::l=>x+B*valB B l
theorem toB_zero (B:Nat):toB B 0=[]:=by unfold toB;rw [dif_neg];omega
theorem Wg {B n:Nat} (hB:2<=B) (hn:0<n):toB B n=((n%B:Nat):Int)::toB B (n/B):=by
 rw [toB];rw [dif_pos ⟨hB,hn⟩]
def inB (B:Nat) (l:List Int):Prop:=∀x∈l,0<=x/\x<B
theorem Wt {B:Nat} {x:Int} {l:List Int}:inB B (x::l)↔(0<=x/\x<B)/\inB B l:=by simp [inB]
theorem inB_nil (B:Nat):inB B []:=by simp [inB]
theorem Qx {B:Nat} (hB:2<=B) (n:Nat):inB B (toB B n):=by
 induction n using Nat.strongRecOn with
 |
  _ n ih=>
  rcases Nat.eq_zero_or_pos n with rfl|hn
  ·rw [toB_zero];exact inB_nil B
  ·rw [Wg hB hn,Wt]
   refine ⟨⟨by omega,?_⟩,ih _ (Nat.div_lt_self hn hB)⟩
   exact_mod_cast Nat.mod_lt n (by omega)
theorem Q8 {B:Nat} (hB:2<=B) (n:Nat):valB B (toB B n)=n:=by
 induction n using Nat.strongRecOn with
 |
  _ n ih=>
  rcases Nat.eq_zero_or_pos n with rfl|hn
  ·rw [toB_zero];rfl
  ·rw [Wg hB hn,valB,ih _ (Nat.div_lt_self hn hB)]
   exact_mod_cast Nat.mod_add_div n B
theorem Wm {B:Nat}:∀{l:List Int},inB B l->0<=valB B l
 |[],_=>Int.le_refl 0
 |
  x::l,h=>by
  rw [Wt] at h
  have:=Wm h.2
  have:=Int.mul_nonneg (Int.natCast_nonneg B) this
  unfold valB;omega
theorem Yb {B:Nat} (hB:2<=B):∀{l:List Int},inB B l->valB B l<(B^l.length:Nat)
 |[],_=>by simp [valB]
 |
  x::l,h=>by
  rw [Wt] at h
  have h1:=Yb hB h.2
  have h2:(B:Int)*(valB B l+1)<=B*(B^l.length:Nat):=Int.mul_le_mul_of_nonneg_left (by omega) (by omega)
  have h3:(B:Int)*(valB B l+1)=B*valB B l+B:=by rw [Int.mul_add,Int.mul_one]
  have h4:((B^(x::l).length:Nat):Int)=B*(B^l.length:Nat):=by
   rw [List.length_cons,Nat.pow_succ,Nat.mul_comm];exact_mod_cast rfl
  rw [h4];unfold valB;omega
theorem Qdy (B:Nat):∀(l l':List Int),valB B (l++l')=valB B l+(B^l.length:Nat)*valB B l'
 |[],l'=>by simp [valB]
 |
  x::l,l'=>by
  rw [List.cons_append,valB,valB,Qdy B l l',List.length_cons,Nat.pow_succ,Nat.mul_comm (B^l.length) B,Int.natCast_mul,Int.mul_add,Int.mul_assoc,Int.add_assoc]
theorem Qhq {B:Nat} (hB:2<=B):∀{l:List Int},inB B l->(∀h:l≠[],l.getLast h≠0)->l=toB B (valB B l).toNat
 |[],_,_=>by simp [valB,toB_zero]
 |
  x::l,h,hl=>by
  rw [Wt] at h
  have hn:=Wm h.2
  have ih:=Qhq hB h.2 λhne=>by have:=hl (by simp);rwa [List.getLast_cons hne] at this
  have hpos:0<(valB B (x::l)).toNat:=by
   have hm:=Int.mul_nonneg (Int.natCast_nonneg B) hn
   unfold valB
   by_cases hx:x=0
   ·have hne:l≠[]:=λe=>by subst e;exact hl (by simp) (by simpa using hx)
    have:0<valB B l:=by
     rcases Int.lt_or_eq_of_le hn with h0|h0
     ·exact h0
     ·rw [<-h0] at ih;simp [toB_zero] at ih;exact absurd ih hne
    have:=Int.mul_pos (show (0:Int)<B by omega) this
    omega
   ·omega
  have e1:(valB B (x::l)).toNat=x.toNat+B*(valB B l).toNat:=by
   have hv:valB B (x::l)=x+B*valB B l:=rfl
   rw [hv]
   have hm:=Int.mul_nonneg (Int.natCast_nonneg B) hn
   have:((B*(valB B l).toNat:Nat):Int)=B*valB B l:=by rw [Int.natCast_mul,Int.toNat_of_nonneg hn]
   omega
  have hx:x.toNat<B:=by omega
  rw [Wg hB hpos,e1,Nat.add_mul_mod_self_left,Nat.mod_eq_of_lt hx,Nat.add_mul_div_left _ _ (by omega),Nat.div_eq_of_lt hx,Nat.zero_add,<-ih,Int.toNat_of_nonneg h.1.1]
theorem Qi4 {B:Nat} (hB:2<=B) (n:Nat):∀h:toB B n≠[],(toB B n).getLast h≠0:=by
 induction n using Nat.strongRecOn with
 |
  _ n ih=>
  intro h
  rcases Nat.eq_zero_or_pos n with rfl|hn
  ·exact absurd (toB_zero B) h
  ·have e:=Wg hB hn
   simp only [e]
   by_cases hq:toB B (n/B)=[]
   ·simp only [hq,List.getLast_singleton]
    have h0:n/B=0:=by
     rcases Nat.eq_zero_or_pos (n/B) with h0|h0
     ·exact h0
     ·rw [Wg hB h0] at hq;simp at hq
    have:n<B:=by
     rcases Nat.lt_or_ge n B with h1|h1
     ·exact h1
     ·have:=Nat.div_pos h1 (by omega);omega
    rw [Nat.mod_eq_of_lt this];omega
   ·rw [List.getLast_cons hq]
    exact ih _ (Nat.div_lt_self hn hB) hq
theorem toB_nil {B n:Nat} (hB:2<=B):toB B n=[]↔n=0:=by
 constructor
 ·intro h
  rcases Nat.eq_zero_or_pos n with h0|h0
  ·exact h0
  ·rw [Wg hB h0] at h;simp at h
 ·rintro rfl;exact toB_zero B
theorem Qbx {B n:Nat} (hB:2<=B):n<B^(toB B n).length:=by
 have:=Yb hB (Qx hB n)
 rw [Q8 hB] at this
 exact_mod_cast this
theorem Yj {B:Nat} (hB:2<=B):∀{k n:Nat},n<B^k->(toB B n).length<=k
 |0,n,h=>by
         have:n=0:=by simpa using h
         subst this;simp [toB_zero]
 |
  k+1,n,h=>by
  rcases Nat.eq_zero_or_pos n with rfl|hn
  ·simp [toB_zero]
  ·rw [Wg hB hn,List.length_cons]
   have:n/B<B^k:=Nat.div_lt_of_lt_mul (by rw [Nat.pow_succ,Nat.mul_comm] at h;exact h)
   have:=Yj hB this
   omega
theorem Qyn {B n:Nat} (hB:2<=B) (hn:0<n):B^((toB B n).length-1)<=n:=by
 rcases Nat.lt_or_ge n (B^((toB B n).length-1)) with h|h
 ·have h1:=Yj hB h
  have h2:toB B n≠[]:=λe=>by rw [toB_nil hB] at e;omega
  have:=List.length_pos_iff.2 h2
  omega
 ·exact h
theorem bif_t {α:Type} {p:Prop} [Decidable p] {a b:α} (h:p):(bif decide p then a else b)=a:=by simp [h]
theorem Qa {α:Type} {p:Prop} [Decidable p] {a b:α} (h:¬p):(bif decide p then a else b)=b:=by simp [h]
abbrev Qaw {α:Type} (l:List α):Prop:=l.length<=1000000000
theorem Yp {B:Nat} {l:List Int} {n:Nat} (h:n<l.length):valB B (l.take (n+1))=valB B (l.take n)+(B^n:Nat)*l[n]:=by
 rw [List.take_succ_eq_append_getElem h,Qdy,List.length_take,Nat.min_eq_left (by omega)]
 simp [valB]
theorem Wa {l:List Int} {n:Nat} (h:n<l.length):l.getD n 0=l[n]:=by simp [List.getD,h]
theorem Qmj {B:Nat} (hB:2<=B) {l:List Int} (hl:inB B l) (hs:Qaw l):z14.F l=some (toB B (valB B l).toNat):=by
 have key:∀n:Nat,n<=l.length->∃m:Nat,m<=n/\Runs (λrec x=>z14.l0b6P l rec some x) (n:Int) (m:Int)/\valB B (l.take m)=valB B (l.take n)/\(m=0\/l.getD (m-1) 0≠0):=by
  intro n
  induction n with
  |zero=>exact λ_=>⟨0,Nat.le_refl 0,.done λrec=>by simp [z14.l0b6P],rfl,.inl rfl⟩
  |
   succ n ih=>
   intro hn
   have hs':l.length<=1000000000:=hs
   have e:wr .i64 (((n+1:Nat):Int)-1)=(n:Int):=by rw [Qc]<;>omega
   have e0:((n+1:Nat):Int)>0:=by omega
   have e1:(0:Int)<=(n:Int)/\(n:Int)<(l.length:Int):=by omega
   by_cases hz:l.getD n 0=0
   ·obtain ⟨m,h1,h2,h3,h4⟩:=ih (by omega)
    refine ⟨m,by omega,.step (λrec=>?_) h2,?_,h4⟩
    ·unfold z14.l0b6P
     rw [bif_t e0,e,if_pos e1,Zi,bif_t hz]
    ·rw [h3,Yp (show n<l.length by omega),<-Wa,hz];simp
   ·refine ⟨n+1,Nat.le_refl _,.done λrec=>?_,rfl,.inr (by simpa using hz)⟩
    unfold z14.l0b6P
    rw [bif_t e0,e,if_pos e1,Zi,Qa hz]
 obtain ⟨m,h1,h2,h3,h4⟩:=key l.length (Nat.le_refl _)
 unfold z14.F z14.l0b6
 rw [h2.lfp]
 simp only [Zb]
 rw [if_pos (by omega),Zi]
 rw [List.take_length] at h3
 rw [<-h3]
 congr 1
 apply Qhq hB (λx hx=>hl x (List.mem_of_mem_take hx))
 intro hne
 rcases h4 with rfl|h4
 ·simp at hne
 ·rw [List.getLast_eq_getElem]
  have hm:0<m:=by
   rcases Nat.eq_zero_or_pos m with h0|h0
   ·subst h0;simp at hne
   ·exact h0
  rw [Wa (by omega)] at h4
  simp only [List.length_take,List.getElem_take]
  have:min m l.length-1=m-1:=by omega
  simp only [this]
  exact h4
def ch (d:Int):UInt8:=UInt8.ofNat (48+d.toNat)
def txt (n:Nat):List UInt8:=if n=0 then [48] else (toB 10 n).reverse.map ch
theorem b10:2<=10:=by decide
theorem Qhh {d:Int} (h0:0<=d) (h:d<10):(ch d).toNat=48+d.toNat:=by
 unfold ch;rw [UInt8.toNat_ofNat'];omega
theorem Yl {B:Nat}:∀{l:List Int} {j:Nat} {x:Int},j<l.length->valB B (l.set j x)=valB B l+(x-l.getD j 0)*(B^j:Nat)
 |y::l,0,x,_=>by simp [valB];omega
 |
  y::l,j+1,x,h=>by
  have:=Yl (B:=B) (l:=l) (j:=j) (x:=x) (by simpa using h)
  rw [List.set_cons_succ,valB,valB,this,List.getD_cons_succ,Nat.pow_succ,Nat.mul_comm (B^j) B,Int.natCast_mul,Int.mul_add,Int.add_assoc]
  congr 2
  rw [Int.mul_left_comm]
theorem Yc {B:Nat} {l:List Int} {j:Nat} {x:Int} (h:inB B l) (hx:0<=x/\x<B):inB B (l.set j x):=λy hy=>by
 rcases List.mem_or_eq_of_mem_set hy with h1|rfl
 ·exact h y h1
 ·exact hx
theorem Wb {B:Nat}:∀(l:List Int) (k:Nat),valB B (l.drop k)=l.getD k 0+B*valB B (l.drop (k+1))
 |[],k=>by simp [valB]
 |x::l,0=>by simp [valB]
 |x::l,k+1=>by rw [List.drop_succ_cons,List.drop_succ_cons,List.getD_cons_succ];exact Wb l k
theorem Q2 {B:Nat} (hB:0<B) {l:List Int} (h:inB B l) (k:Nat):0<=l.getD k 0/\l.getD k 0<B:=by
 by_cases hk:k<l.length
 ·rw [Wa hk];exact h _ (List.getElem_mem hk)
 ·simp [List.getD,List.getElem?_eq_none (show l.length<=k by omega)];omega
theorem Jb {B:Nat} {l:List Int} (h:inB B l) (k:Nat):inB B (l.drop k):=λx hx=>h x (List.mem_of_mem_drop hx)
theorem Wo {B:Nat} {l:List Int} (h:inB B l) (k:Nat):inB B (l.take k):=λx hx=>h x (List.mem_of_mem_take hx)
theorem Qca (B:Nat):∀n:Nat,valB B (List.replicate n (0:Int))=0
 |0=>rfl
 |n+1=>by rw [List.replicate_succ,valB,Qca B n];simp
theorem Qa4 {B:Nat} (hB:0<B) (n:Nat):inB B (List.replicate n (0:Int)):=λx hx=>by
 rw [List.mem_replicate] at hx;rw [hx.2];omega
def cmpI (m n:Int):Int:=if m<n then -1 else if m=n then 0 else 1
theorem Qx5 {B:Nat} (hB:2<=B) {l:List Int} (h:inB B l) {k:Nat} (hk:k<=l.length):valB B (l.take k)<(B^k:Nat):=by
 have:=Yb hB (Wo h k)
 rwa [List.length_take,Nat.min_eq_left hk] at this
theorem Qha {B:Nat} (hB:2<=B) {a b:List Int} (ha:inB B a) (hb:inB B b) {k:Nat} (hka:k<a.length) (hkb:k<b.length) :
  (a[k]<b[k]->valB B (a.take (k+1))<valB B (b.take (k+1)))/\(a[k]=b[k]->(valB B (a.take (k+1))-valB B (b.take (k+1))=valB B (a.take k)-valB B (b.take k))):=by
 rw [Yp hka,Yp hkb]
 have h1:=Qx5 hB ha (k:=k) (by omega)
 have h2:=Wm (Wo hb k)
 refine ⟨λh=>?_,λh=>by rw [h];omega⟩
 have h3:((B^k:Nat):Int)*(a[k]+1)<=(B^k:Nat)*b[k]:=Int.mul_le_mul_of_nonneg_left (by omega) (by omega)
 rw [Int.mul_add,Int.mul_one] at h3
 omega
theorem Qb1 {B m n:Nat} (hB:2<=B) (h:(toB B m).length<(toB B n).length):m<n:=by
 have h1:=Qbx (n:=m) hB
 have hn:0<n:=by
  rcases Nat.eq_zero_or_pos n with rfl|h0
  ·rw [toB_zero] at h;simp at h
  ·exact h0
 have h2:=Qyn hB hn
 have h3:B^(toB B m).length<=B^((toB B n).length-1):=Nat.pow_le_pow_right (by omega) (by omega)
 omega
def tv:Int->List UInt8->Int
 |acc,[]=>acc
 |acc,b::s=>tv (10*acc+(b.toNat:Int)-48) s
def digit (b:UInt8):Prop:=48<=b.toNat/\b.toNat<=57
def Qv (s:List UInt8):Prop:=∀b∈s,digit b
theorem Qfz:∀(s t:List UInt8) (a:Int),tv a (s++t)=tv (tv a s) t
 |[],_,_=>rfl
 |b::s,t,a=>Qfz s t _
theorem Qc8:∀(s:List UInt8) (a:Int),tv a s=a*(10^s.length:Nat)+tv 0 s
 |[],a=>by simp [tv]
 |
  b::s,a=>by
  have h1:=Qc8 s (10*a+(b.toNat:Int)-48)
  have h2:=Qc8 s (10*0+(b.toNat:Int)-48)
  show tv (10*a+(b.toNat:Int)-48) s=a*_+tv (10*0+(b.toNat:Int)-48) s
  rw [h1,h2,List.length_cons,Nat.pow_succ,Int.natCast_mul]
  generalize ((10^s.length:Nat):Int)=p
  grind
theorem Jh:∀{s:List UInt8},Qv s->0<=tv 0 s/\tv 0 s<(10^s.length:Nat)
 |[],_=>by simp [tv]
 |
  b::s,h=>by
  have hb:=h b (by simp)
  have ih:=Jh (s:=s) λx hx=>h x (by simp [hx])
  have e:tv 0 (b::s)=((b.toNat:Int)-48)*(10^s.length:Nat)+tv 0 s:=by
   show tv (10*0+(b.toNat:Int)-48) s=_
   rw [Qc8];simp
  have hp:(0:Int)<=(10^s.length:Nat):=Int.natCast_nonneg _
  unfold digit at hb
  have h1:0<=((b.toNat:Int)-48)*(10^s.length:Nat):=Int.mul_nonneg (by omega) hp
  have h2:((b.toNat:Int)-48)*(10^s.length:Nat)<=9*(10^s.length:Nat):=Int.mul_le_mul_of_nonneg_right (by omega) hp
  rw [e,List.length_cons,Nat.pow_succ,Int.natCast_mul]
  omega
theorem Qsn:∀{l:List Int},inB 10 l->tv 0 (l.reverse.map ch)=valB 10 l
 |[],_=>rfl
 |
  x::l,h=>by
  rw [Wt] at h
  rw [List.reverse_cons,List.map_append,Qfz,Qsn h.2]
  show 10*valB 10 l+((ch x).toNat:Int)-48=x+10*valB 10 l
  rw [Qhh h.1.1 h.1.2];omega
theorem Qgf (n:Nat):Qv (txt n):=by
 unfold txt
 split
 ·intro b hb;simp at hb;subst hb;unfold digit;decide
 ·intro b hb
  rw [List.mem_map] at hb
  obtain ⟨d,hd,rfl⟩:=hb
  have:=Qx b10 n d (List.mem_reverse.1 hd)
  unfold digit
  rw [Qhh this.1 this.2];omega
theorem Jr (n:Nat):tv 0 (txt n)=n:=by
 unfold txt
 split
 ·rename_i h;subst h;decide
 ·rw [Qsn (Qx b10 n),Q8 b10]
theorem Qsy (n:Nat):txt n≠[]:=by
 unfold txt
 split
 ·simp
 ·rename_i h
  simp only [ne_eq,List.map_eq_nil_iff,List.reverse_eq_nil_iff]
  exact λe=>h ((toB_nil b10).1 e)
theorem Qkr {n:Nat} (hn:n≠0):∃b s,txt n=b::s/\b.toNat≠48:=by
 have h:=Qi4 b10 n (λe=>hn ((toB_nil b10).1 e))
 have hne:toB 10 n≠[]:=λe=>hn ((toB_nil b10).1 e)
 have hin:=Qx b10 n _ (List.getLast_mem hne)
 refine ⟨ch ((toB 10 n).getLast hne),((toB 10 n).dropLast.reverse.map ch),?_,?_⟩
 ·unfold txt
  rw [if_neg hn]
  conv=>lhs;rw [<-List.dropLast_concat_getLast hne]
  rw [List.reverse_append];rfl
 ·rw [Qhh hin.1 hin.2];omega
theorem Y2 {n k:Nat} (h:n<10^k) (hk:0<k):(txt n).length<=k:=by
 unfold txt
 split
 ·show 1<=k;omega
 ·rw [List.length_map,List.length_reverse];exact Yj b10 h
abbrev neg (z:Int):Bool:=decide (z<0)
theorem W7 {m n:Int}:cmpI m n>=0↔n<=m:=by unfold cmpI;split<;>(try split)<;>omega
theorem Qnj (x y:Int):cmpI (x-y) 0=cmpI x y:=by
 unfold cmpI;split<;>split<;>(try split)<;>(try split)<;>first|rfl|omega
abbrev LB:Nat:=18446744073709551616
abbrev lb (n:Nat):List Int:=toB LB n
theorem bL:2<=LB:=by decide
theorem Qko (n:Nat):(((lb n).length:Nat):Int)=0↔n=0:=by
 constructor
 ·intro h;exact (toB_nil bL).1 (List.length_eq_zero_iff.1 (Int.ofNat_eq_zero.1 h))
 ·rintro rfl;simp [lb,toB_zero]
theorem Wy (n:Nat):z19.F (lb n)=some (decide (n=0)):=by
 unfold z19.F;congr 1;exact decide_eq_decide.2 (Qko n)
theorem Qqz {l:List Int} {i:Nat}:z22.F l (i:Int)=some (l.getD i 0):=by
 unfold z22.F
 by_cases h:(i:Int)>=(l.length:Int)
 ·rw [bif_t h]
  have:l.getD i 0=0:=by simp [List.getD,List.getElem?_eq_none (show l.length<=i by omega)]
  rw [this]
 ·rw [Qa h,if_pos (by omega),Zi]
theorem Qf3 {l:List Int} (hl:inB LB l) (hs:Qaw l):z23.F l=some (lb (valB LB l).toNat):=by
 have h:=Qmj bL hl hs
 unfold z14.F at h
 unfold z23.F
 have e:z23.l0b6 l=z14.l0b6 l:=rfl
 rw [e]
 revert h
 cases z14.l0b6 l ((l.length:Nat):Int) with
 |none=>exact id
 |
  some o=>
  simp only [Zb]
  intro h
  split at h
  ·rename_i hc
   rw [if_pos ⟨hc.1,Int.le_refl _,hc.2⟩];exact h
  ·simp at h
theorem Qea (x y:Int):z26.F x y=some (cmpI x y):=by
 unfold z26.F z25.F cmpI
 simp only [Zb,decide_true,Zn,Zc]
 by_cases h:x<y
 ·rw [bif_t h,if_pos h]
 ·rw [Qa h,if_neg h]
  by_cases h':x>y
  ·rw [bif_t h',if_neg (by omega)]
  ·rw [Qa h',if_pos (by omega)]
theorem Qtk (x y:Int):z28.F x y=some (cmpI x y):=Qea x y
theorem Qtp {a b:List Int} (ha:inB LB a) (hb:inB LB b) (hl:a.length=b.length) (hal:a.length<=900000000):∀k:Nat,k<=a.length ->
  ∃o:Int⊕Int,Runs (λrec x=>z29.l0P a b rec some x) ((k:Int)-1) o/\(match o with | .inl _=>(0:Int) | .inr q=>q)=cmpI (valB LB (a.take k)) (valB LB (b.take k))
 |0,_=>⟨.inl (-1),.done λrec=>by unfold z29.l0P;rw [Qa (by omega)];rfl,by simp [cmpI,valB]⟩
 |
  k+1,hk=>by
  have hka:k<a.length:=by omega
  have hkb:k<b.length:=by omega
  have e0:((k+1:Nat):Int)-1=(k:Int):=by omega
  obtain ⟨p1,p2⟩:=Qha bL ha hb hka hkb
  obtain ⟨p3,_⟩:=Qha bL hb ha hkb hka
  have c1:(0:Int)<=(k:Int)/\(k:Int)<(a.length:Int):=by omega
  have c2:(0:Int)<=(k:Int)/\(k:Int)<(b.length:Int):=by omega
  rw [e0]
  by_cases h:a[k]=b[k]
  ·obtain ⟨o,r1,r2⟩:=Qtp ha hb hl hal k (by omega)
   refine ⟨o,.step (λrec=>?_) r1,?_⟩
   ·unfold z29.l0P
    rw [bif_t (by omega),Zi,Wa hka,Wa hkb,if_pos c1,if_pos c2,Qtk]
    simp only [Zb]
    have:cmpI a[k] b[k]=0:=by unfold cmpI;rw [if_neg (by omega),if_pos h]
    rw [this,Qc (by omega) (by omega)]
    rfl
   ·rw [r2]
    have:=p2 h
    unfold cmpI
    split<;>split<;>(try split)<;>(try split)<;>first|rfl|omega
  ·refine ⟨.inr (cmpI a[k] b[k]),.done λrec=>?_,?_⟩
   ·unfold z29.l0P
    rw [bif_t (by omega),Zi,Wa hka,Wa hkb,if_pos c1,if_pos c2,Qtk]
    simp only [Zb]
    have:¬cmpI a[k] b[k]=0:=by unfold cmpI;split<;>(try split)<;>omega
    rw [Zf this]
    rfl
   ·rcases Int.lt_or_gt_of_ne h with h'|h'
    ·have:=p1 h'
     unfold cmpI;rw [if_pos h',if_pos this]
    ·have:=p3 h'
     unfold cmpI;rw [if_neg (by omega),if_neg (by omega),if_neg (by omega),if_neg (by omega)]
theorem Qcb {m n:Nat} (hl:(lb m).length<=900000000):z29.F (lb m) (lb n)=some (cmpI m n):=by
 unfold z29.F
 rw [Qea]
 simp only [Zb]
 by_cases he:(lb m).length=(lb n).length
 ·have e1:cmpI ((lb m).length:Int) ((lb n).length:Int)=0:=by unfold cmpI;rw [if_neg (by omega),if_pos (by omega)]
  rw [e1]
  simp only [decide_true,Zn,Zc]
  obtain ⟨o,r1,r2⟩:=Qtp (a:=lb m) (b:=lb n) (Qx bL m) (Qx bL n) he hl (lb m).length (Nat.le_refl _)
  rw [Qc (by omega) (by omega)]
  unfold z29.l0
  rw [r1.lfp]
  simp only [Zb]
  rw [List.take_length,he,List.take_length,Q8 bL,Q8 bL] at r2
  rw [<-r2]
  cases o<;>rfl
 ·rcases Nat.lt_or_gt_of_ne he with h|h
  ·have:=Qb1 bL h
   have e1:cmpI ((lb m).length:Int) ((lb n).length:Int) = -1:=by unfold cmpI;rw [if_pos (by omega)]
   have e2:cmpI (m:Int) n = -1:=by unfold cmpI;rw [if_pos (by omega)]
   rw [e1,e2];rfl
  ·have:=Qb1 bL h
   have e1:cmpI ((lb m).length:Int) ((lb n).length:Int)=1:=by unfold cmpI;rw [if_neg (by omega),if_neg (by omega)]
   have e2:cmpI (m:Int) n=1:=by unfold cmpI;rw [if_neg (by omega),if_neg (by omega)]
   rw [e1,e2];rfl
theorem Qk3 (a:Int) (h0:0<=a):wr .u64 ((BitVec.ofInt (IntKind.bits .u64) a &&& BitVec.ofInt (IntKind.bits .u64) (4294967295:Int)).toNat:Int)=a%4294967296:=by
 have e:(BitVec.ofInt (IntKind.bits .u64) a &&& BitVec.ofInt (IntKind.bits .u64) (4294967295:Int)).toNat=(a%4294967296).toNat:=by
  rw [BitVec.toNat_and]
  have e1:(BitVec.ofInt (IntKind.bits .u64) (4294967295:Int)).toNat=2^32-1:=rfl
  have e2:(BitVec.ofInt (IntKind.bits .u64) a).toNat=(a%18446744073709551616).toNat:=by
   rw [BitVec.toNat_ofInt];rfl
  rw [e1,Nat.and_two_pow_sub_one_eq_mod,e2]
  omega
 rw [e,Qq (by omega) (by omega)];omega
theorem Quy (a:Int):Int.fdiv a (2^(min 32 (64:Nat)))=a/4294967296:=by
 rw [Int.fdiv_eq_ediv_of_nonneg _ (by decide)];rfl
theorem Qkw {a b:Int} (ha:0<=a/\a<18446744073709551616) (hb:0<=b/\b<18446744073709551616):z39.F a b=some (a*b/18446744073709551616,a*b%18446744073709551616):=by
 unfold z39.F
 simp only [Quy]
 rw [Qk3 a ha.1,Qk3 b hb.1]
 generalize hx1:a/4294967296=x1
 generalize hx0:a%4294967296=x0
 generalize hy1:b/4294967296=y1
 generalize hy0:b%4294967296=y0
 have ea:a=4294967296*x1+x0:=by omega
 have eb:b=4294967296*y1+y0:=by omega
 have bx1:0<=x1/\x1<=4294967295:=by omega
 have bx0:0<=x0/\x0<=4294967295:=by omega
 have by1:0<=y1/\y1<=4294967295:=by omega
 have by0:0<=y0/\y0<=4294967295:=by omega
 have m00:0<=x0*y0/\x0*y0<=4294967295*4294967295:=⟨Int.mul_nonneg bx0.1 by0.1,Int.mul_le_mul bx0.2 by0.2 by0.1 (by decide)⟩
 have m10:0<=x1*y0/\x1*y0<=4294967295*4294967295:=⟨Int.mul_nonneg bx1.1 by0.1,Int.mul_le_mul bx1.2 by0.2 by0.1 (by decide)⟩
 have m01:0<=x0*y1/\x0*y1<=4294967295*4294967295:=⟨Int.mul_nonneg bx0.1 by1.1,Int.mul_le_mul bx0.2 by1.2 by1.1 (by decide)⟩
 have m11:0<=x1*y1/\x1*y1<=4294967295*4294967295:=⟨Int.mul_nonneg bx1.1 by1.1,Int.mul_le_mul bx1.2 by1.2 by1.1 (by decide)⟩
 have eab:a*b=18446744073709551616*(x1*y1)+4294967296*(x1*y0)+4294967296*(x0*y1)+x0*y0:=by rw [ea,eb];grind
 rw [eab]
 generalize x0*y0=p00 at *
 generalize x1*y0=p10 at *
 generalize x0*y1=p01 at *
 generalize x1*y1=p11 at *
 rw [Qq (n:=p00) (by omega) (by omega),Qq (n:=p10) (by omega) (by omega),Qq (n:=p01) (by omega) (by omega),Qq (n:=p11) (by omega) (by omega)]
 rw [Qq (n:=p10+p00/4294967296) (by omega) (by omega)]
 rw [Qk3 _ (by omega)]
 rw [Qq (n:=p11+(p10+p00/4294967296)/4294967296) (by omega) (by omega)]
 rw [Qq (n:=(p10+p00/4294967296)%4294967296+p01) (by omega) (by omega)]
 rw [Qq (n:=p11+(p10+p00/4294967296)/4294967296+((p10+p00/4294967296)%4294967296+p01)/4294967296) (by omega) (by omega)]
 rw [W1]
 congr 2;omega
theorem Qcq {x y c:Int} (hx:0<=x) (hy:0<=y) (hc:0<=c/\c<=1):z0.F x y c=some ((x+y+c)%18446744073709551616,(x+y+c)/18446744073709551616):=by
 unfold z0.F;rw [if_pos (by omega)]
theorem Qbc {s:List Int} {i j:Nat} {x:Int} (h:i≠j):(s.set i x).getD j 0=s.getD j 0:=by
 simp [List.getD,List.getElem?_set_ne h]
theorem Qdx (n j:Nat):(List.replicate n (0:Int)).getD j 0=0:=by
 simp only [List.getD,List.getElem?_replicate];split<;>rfl
theorem Qpe {a b:List Int} {n:Nat} (ha:inB LB a) (hb:inB LB b) (hn:n<=900000000) (han:a.length<n) (hbn:b.length<n) :
  ∀
   (f i:Nat) (c:Int) (s:List Int),i+f=n->s.length=n->inB LB s->(∀j,i<=j->s.getD j 0=0)->0<=c/\c<=1 ->
   valB LB s+(c+valB LB (a.drop i)+valB LB (b.drop i))*(LB^i:Nat)=valB LB a+valB LB b ->
   ∃c' s',Runs (λrec x=>z24.l0P (n:Int) a b rec some x) (c,(i:Int),s) (c',(n:Int),s')/\inB LB s'/\s'.length=n/\(0<=c'/\c'<=1)/\valB LB s'+c'*(LB^n:Nat)=valB LB a+valB LB b
 |
  0,i,c,s,hf,hl,hs,hz,hc,hv=>by
  have:i=n:=by omega
  subst this
  refine ⟨c,s,.done λrec=>?_,hs,hl,hc,?_⟩
  ·unfold z24.l0P
   simp only
   rw [Qa (by omega)]
  ·rw [List.drop_eq_nil_of_le (by omega),List.drop_eq_nil_of_le (by omega)] at hv
   simpa [valB] using hv
 |
  f+1,i,c,s,hf,hl,hs,hz,hc,hv=>by
  have hLB:((LB:Nat):Int)=18446744073709551616:=rfl
  have h1:=Q2 (B:=LB) (by decide) ha i
  have h2:=Q2 (B:=LB) (by decide) hb i
  have hi:i<s.length:=by omega
  obtain ⟨c',s',r1,r2,r3,r4,r5⟩:=Qpe ha hb hn han hbn f (i+1) ((a.getD i 0+b.getD i 0+c)/18446744073709551616) (s.set i ((a.getD i 0+b.getD i 0+c)%18446744073709551616)) (by omega) (by simp [hl]) (Yc hs (by omega))
   (λj hj=>by rw [Qbc (by omega)];exact hz j (by omega)) (by omega) (by
    rw [Yl hi,hz i (Nat.le_refl _),<-hv,Wb a i,Wb b i,Nat.pow_succ,Nat.mul_comm (LB^i) LB,Int.natCast_mul]
    generalize hx:a.getD i 0+b.getD i 0+c=x
    have e2:x=18446744073709551616*(x/18446744073709551616)+x%18446744073709551616:=(Int.mul_ediv_add_emod x _).symm
    have e3:((LB:Nat):Int)=18446744073709551616:=rfl
    rw [e3]
    generalize x/18446744073709551616=q at *
    generalize x%18446744073709551616=m at *
    subst e2
    generalize ((LB^i:Nat):Int)=p
    generalize valB LB (a.drop (i+1))=w
    generalize valB LB (b.drop (i+1))=w'
    generalize a.getD i 0=u at *
    generalize b.getD i 0=v at *
    have hc':c=18446744073709551616*q+m-u-v:=by omega
    subst hc'
    grind)
  refine ⟨c',s',.step (λrec=>?_) r1,r2,r3,r4,r5⟩
  unfold z24.l0P
  simp only [Qqz,Zb]
  rw [bif_t (by omega),Qcq h1.1 h2.1 hc]
  simp only [Zb]
  rw [if_pos (by omega),Zi,if_pos hi,Qc (by omega) (by omega)]
  rfl
theorem Qor {n k:Nat} (h:(lb n).length<=k):n<LB^k:=Nat.lt_of_lt_of_le (Qbx bL) (Nat.pow_le_pow_right (by decide) h)
theorem Qbq {m n:Nat} (hl:(lb m).length+(lb n).length<=800000000):z24.F (lb m) (lb n)=some (lb (m+n)):=by
 unfold z24.F
 generalize hk:max (lb m).length (lb n).length=k
 have e0:(if (((lb n).length:Nat):Int)>(((lb m).length:Nat):Int) then (((lb n).length:Nat):Int) else (((lb m).length:Nat):Int))=(k:Int):=by split<;>omega
 have e1:wr .i64 ((k:Int)+1)=((k+1:Nat):Int):=by rw [Qc (by omega) (by omega)];omega
 rw [e0,e1,if_pos (by omega),Zi,List.length_replicate]
 obtain ⟨c',s',r1,r2,r3,r4,r5⟩:=Qpe (a:=lb m) (b:=lb n) (n:=k+1) (Qx bL m) (Qx bL n) (by omega) (by omega) (by omega) (k+1) 0 0 (List.replicate (k+1) 0) (by omega) (by simp) (Qa4 (by decide) _)
  (λj _=>Qdx _ j) (by omega) (by rw [Qca];simp)
 have e:z24.l0 ((k+1:Nat):Int) (lb m) (lb n) ((0:Int),(0:Int),List.replicate (k+1) 0)=some (c',((k+1:Nat):Int),s'):=r1.lfp
 rw [e]
 simp only [Zb]
 rw [Q8 bL,Q8 bL] at r5
 have hm:m<LB^k:=Qor (by omega)
 have hn:n<LB^k:=Qor (by omega)
 have hc:c'=0:=by
  rcases (show c'=0\/c'=1 by omega) with h|h
  ·exact h
  ·exfalso
   subst h
   have:=Wm r2
   have e3:((LB^(k+1):Nat):Int)=(LB^k:Nat)*18446744073709551616:=by rw [Nat.pow_succ,Int.natCast_mul];rfl
   rw [e3] at r5
   omega
 subst hc
 rw [Qf3 r2 (by show List.length _<=_;omega)]
 simp only [Zb]
 congr 2;omega
theorem Qp5 {a b:List Int} (ha:inB LB a) (hb:inB LB b) (hal:a.length<=900000000) :
  ∀
   (f i:Nat) (c:Int) (s:List Int),i+f=a.length->s.length=a.length->inB LB s->(∀j,i<=j->s.getD j 0=0)->0<=c/\c<=1 ->
   valB LB s-c*(LB^i:Nat)=valB LB (a.take i)-valB LB (b.take i) ->
   ∃c' s',Runs (λrec x=>z30.l0P (a.length:Int) a b rec some x) (c,(i:Int),s) (c',(a.length:Int),s')/\inB LB s'/\s'.length=a.length/\(0<=c'/\c'<=1)/\valB LB s'-c'*(LB^a.length:Nat)=valB LB a-valB LB (b.take a.length)
 |
  0,i,c,s,hf,hl,hs,hz,hc,hv=>by
  have:i=a.length:=by omega
  subst this
  refine ⟨c,s,.done λrec=>?_,hs,hl,hc,by rwa [List.take_length] at hv⟩
  unfold z30.l0P
  simp only
  rw [Qa (by omega)]
 |
  f+1,i,c,s,hf,hl,hs,hz,hc,hv=>by
  have hi:i<a.length:=by omega
  have his:i<s.length:=by omega
  have hLB:((LB:Nat):Int)=18446744073709551616:=rfl
  have h1:=Q2 (B:=LB) (by decide) ha i
  have h2:=Q2 (B:=LB) (by decide) hb i
  have eb:valB LB (b.take (i+1))=valB LB (b.take i)+(LB^i:Nat)*b.getD i 0:=by
   by_cases hb':i<b.length
   ·rw [Yp hb',Wa hb']
   ·rw [List.take_of_length_le (by omega),List.take_of_length_le (by omega)]
    simp [List.getD,List.getElem?_eq_none (show b.length<=i by omega)]
  have hsub:z1.F (a.getD i 0) (b.getD i 0) c=some ((a.getD i 0-b.getD i 0-c)%18446744073709551616,if a.getD i 0<b.getD i 0+c then 1 else 0):=by
   unfold z1.F;rw [if_pos (by omega)]
  obtain ⟨c',s',r1,r2,r3,r4,r5⟩:=Qp5 ha hb hal f (i+1) (if a.getD i 0<b.getD i 0+c then 1 else 0) (s.set i ((a.getD i 0-b.getD i 0-c)%18446744073709551616)) (by omega) (by simp [hl]) (Yc hs (by omega))
   (λj hj=>by rw [Qbc (by omega)];exact hz j (by omega)) (by split<;>omega) (by
    rw [Yl his,hz i (Nat.le_refl _),Yp hi,eb,Nat.pow_succ,Nat.mul_comm (LB^i) LB,Int.natCast_mul,<-Wa hi]
    have e3:((LB:Nat):Int)=18446744073709551616:=rfl
    rw [e3]
    have e4:(a.getD i 0-b.getD i 0-c)%18446744073709551616=a.getD i 0-b.getD i 0-c+(if a.getD i 0<b.getD i 0+c then 1 else 0)*18446744073709551616:=by split<;>omega
    rw [e4]
    generalize (if a.getD i 0<b.getD i 0+c then (1:Int) else 0)=q
    generalize ((LB^i:Nat):Int)=p at *
    grind)
  refine ⟨c',s',.step (λrec=>?_) r1,r2,r3,r4,r5⟩
  unfold z30.l0P
  simp only [Qqz,Zb]
  rw [bif_t (by omega),if_pos (by omega),Zi,hsub]
  simp only [Zb]
  rw [if_pos (by omega),if_pos his,Qc (by omega) (by omega)]
  rfl
theorem Qds {m n:Nat} (hl:(lb m).length<=800000000):z30.F (lb m) (lb n)=some (if n<=m then (lb (m-n),true) else ([],false)):=by
 unfold z30.F
 rw [Qcb (by omega)]
 simp only [Zb]
 by_cases h:n<=m
 ·have h0:¬cmpI (m:Int) n<0:=by unfold cmpI;split<;>(try split)<;>omega
  rw [Qa h0,if_pos h,if_pos (by omega),Zi,List.length_replicate]
  obtain ⟨c',s',r1,r2,r3,r4,r5⟩:=Qp5 (a:=lb m) (b:=lb n) (Qx bL m) (Qx bL n) (by omega) (lb m).length 0 0 (List.replicate (lb m).length 0) (by omega) (by simp) (Qa4 (by decide) _)
   (λj _=>Qdx _ j) (by omega) (by rw [Qca];simp [valB])
  have hlen:(lb n).length<=(lb m).length:=by
   rcases Nat.lt_or_ge (lb m).length (lb n).length with h'|h'
   ·have:=Qb1 bL h';omega
   ·exact h'
  rw [List.take_of_length_le hlen,Q8 bL,Q8 bL] at r5
  have h1:=Yb bL r2
  rw [r3] at h1
  have hc:c'=0:=by
   rcases (show c'=0\/c'=1 by omega) with h|h
   ·exact h
   ·subst h;omega
  subst hc
  have e:z30.l0 ((lb m).length:Int) (lb m) (lb n) ((0:Int),(0:Int),List.replicate (lb m).length 0)=some ((0:Int),((lb m).length:Int),s'):=r1.lfp
  rw [e]
  simp only [Zb]
  rw [Qf3 r2 (by show List.length _<=_;omega)]
  simp only [Zb]
  congr 3;omega
 ·have h0:cmpI (m:Int) n<0:=by unfold cmpI;rw [if_pos (by omega)];decide
  rw [bif_t h0,if_neg h]
end Go.Proofs.YtgjncgiekniniaaGreatDoor.A
end
