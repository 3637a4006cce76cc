/- TermsBounds: part 0 of what is its own. -/
import Derived.Test.YtgjncgiekniniaaGreatDoorCad3
import Derived.Test.YtgjncgiekniniaaGreatDoorRows
import Derived.WalkKit
import Derived.ProofKit
import Derived.OpenShut
import Derived.Carry
import Derived.ChangeSame
import Derived.Deep.Slices
import Derived.Test.YtgjncgiekniniaaGreatDoorCards
import Derived.Test.YtgjncgiekniniaaGreatDoorTie
import Derived.KernelRfl
import Derived.JoinedCond
import Derived.Deep.DeepHandedRow
import Derived.Lib.LaidTab
set_option linter.unusedVariables false
set_option linter.unusedSimpArgs false
section
namespace Go.Proofs.YtgjncgiekniniaaGreatDoor.A
open Go
noncomputable section
def z77.F:Option ((List (List UInt8))):=
 (some [([97,110,110,117,105,116,121]:List UInt8),([108,105,110,101,97,114]:List UInt8),([98,117,108,108,101,116]:List UInt8)])
def z77.enc (r:(List (List UInt8))):V:=(.strs false r)
def z77.pack:List V->Option Pack
 |[]=>some ⟨(List (List UInt8)),z77.F,z77.enc⟩
 |_=>none
def z78.j1 (a0:Int):Option ((List UInt8)):=
 (z77.F.bind λr2=>(if 0<=a0/\a0<(r2.length:Int) then (some (r2.getD (a0).toNat [])) else none))
def z78.F (a0:Int):Option ((List UInt8)):=
 (bif (decide (a0<0)) then (some ([]:List UInt8)) else (bif (decide (a0>=3)) then (some ([]:List UInt8)) else (z78.j1 a0)))
def z78.enc (r:(List UInt8)):V:=(.str r)
def z78.pack:List V->Option Pack
 |[(.int .i64 a0)]=>some ⟨(List UInt8),z78.F a0,z78.enc⟩
 |_=>none
def z85.F (a0 a1:List UInt8) (a2 a3 a4 a5 a6 a7 a8 a9:Int):Option (Bool):=
 ((z78.F a2).bind λr1=>(bif (decide (r1=([]:List UInt8))) then (some true) else ((z84.F a3).bind λr2=>(bif (decide (r2=([]:List UInt8))) then (some true) else ((z81.F a4).bind λr3=>(bif (decide (r3=([]:List UInt8))) then (some true) else (bif (decide (a8<1)) then (some true) else (bif (decide (a8=5)) then (some true) else (if a8=0 then none else (some (!decide ((Int.tmod 12 a8)=0))))))))))))
def z85.enc (r:Bool):V:=(.bool r)
def z85.pack:List V->Option Pack
 |[(.agg [(.str a0),(.str a1),(.int .i64 a2),(.int .i64 a3),(.int .i64 a4),(.int .i64 a5),(.int .i64 a6),(.int .i64 a7),(.int .i64 a8),(.int .i64 a9)])]=>some ⟨Bool,z85.F a0 a1 a2 a3 a4 a5 a6 a7 a8 a9,z85.enc⟩
 |_=>none
def z90.j3 (a0 a1 a3 a2:Int):Option (Int×Int×Int×Int):=
 ((z88.F (wr .i64 (Int.tdiv (wr .i64 ((wr .i64 ((wr .i64 ((wr .i64 ((12:Int)*a0))+a1))-1))+a3)) 12)) (wr .i64 ((Int.tmod (wr .i64 ((wr .i64 ((wr .i64 ((wr .i64 ((12:Int)*a0))+a1))-1))+a3)) 12)+1))).bind λr4=>(some ((wr .i64 (Int.tdiv (wr .i64 ((wr .i64 ((wr .i64 ((wr .i64 ((12:Int)*a0))+a1))-1))+a3)) 12)),(wr .i64 ((Int.tmod (wr .i64 ((wr .i64 ((wr .i64 ((wr .i64 ((12:Int)*a0))+a1))-1))+a3)) 12)+1)),(if r4<a2 then r4 else a2),(0:Int))))
def z90.j2 (a0 a1 a3 a2:Int):Option (Int×Int×Int×Int):=
 (bif (decide ((wr .i64 ((wr .i64 ((wr .i64 ((wr .i64 ((12:Int)*a0))+a1))-1))+a3))<12)) then (some ((0:Int),(0:Int),(0:Int),(11:Int))) else (bif (decide ((wr .i64 (Int.tdiv (wr .i64 ((wr .i64 ((wr .i64 ((wr .i64 ((12:Int)*a0))+a1))-1))+a3)) 12))>9999)) then (some ((0:Int),(0:Int),(0:Int),(11:Int))) else (z90.j3 a0 a1 a3 a2)))
def z90.F (a0 a1 a2 a3:Int):Option (Int×Int×Int×Int):=
 ((z89.F a0 a1 a2).bind λr1=>(bif (!decide (r1=0)) then (some ((0:Int),(0:Int),(0:Int),r1)) else (bif (decide (a3<(-119988:Int))) then (some ((0:Int),(0:Int),(0:Int),(11:Int))) else (bif (decide (a3>119988)) then (some ((0:Int),(0:Int),(0:Int),(11:Int))) else (z90.j2 a0 a1 a3 a2)))))
def z90.enc (r:Int×Int×Int×Int):V:=(.tup [(.agg [(.int .i64 r.1),(.int .i64 r.2.1),(.int .i64 r.2.2.1)]),(.int .i64 r.2.2.2)])
def z90.pack:List V->Option Pack
 |[(.agg [(.int .i64 a0),(.int .i64 a1),(.int .i64 a2)]),(.int .i64 a3)]=>some ⟨Int×Int×Int×Int,z90.F a0 a1 a2 a3,z90.enc⟩
 |_=>none
def z91.F (a0 a1:List UInt8) (a2 a3 a4 a5 a6 a7 a8 a9:Int):Option (Int):=
 ((z46.F a0).bind λr1=>(bif (!decide (r1.2.2=0)) then (some r1.2.2) else ((z20.F r1.1 r1.2.1).bind λr2=>(bif (decide (r2=0)) then (some 19) else ((z76.F a1).bind λr3=>(bif (!decide (r3.2.2.2=0)) then (some r3.2.2.2) else ((z85.F a0 a1 a2 a3 a4 a5 a6 a7 a8 a9).bind λr4=>(bif r4 then (some 2) else (bif (decide (a9<1)) then (some 6) else (bif (decide (a9>1200)) then (some 6) else ((z90.F a5 a6 a7 (wr .i64 (a8*a9))).bind λr8=>(some r8.2.2.2))))))))))))
def z91.enc (r:Int):V:=(.int .i64 r)
def z91.pack:List V->Option Pack
 |[(.agg [(.str a0),(.str a1),(.int .i64 a2),(.int .i64 a3),(.int .i64 a4),(.int .i64 a5),(.int .i64 a6),(.int .i64 a7),(.int .i64 a8),(.int .i64 a9)])]=>some ⟨Int,z91.F a0 a1 a2 a3 a4 a5 a6 a7 a8 a9,z91.enc⟩
 |_=>none
def z136.F (a0:List Int) (a1:Bool) (a2:List Int):Option ((List UInt8)):=
 ((z19.F a2).bind λr1=>(bif r1 then ((z135.F a0 a1).bind λr2=>(some r2)) else ((z135.F a0 a1).bind λr3=>(if r3.length+([47]:List UInt8).length<=9223372036854775807 then ((z73.F a0 a1 a2).bind λr4=>((z134.F r4).bind λr5=>(if (r3++([47]:List UInt8)).length+r5.length<=9223372036854775807 then (some ((r3++([47]:List UInt8))++r5)) else none))) else none))))
def z136.enc (r:(List UInt8)):V:=(.str r)
def z136.pack:List V->Option Pack
 |[(.agg [(.ints _ .u64 a0),(.bool a1),(.ints _ .u64 a2)])]=>some ⟨(List UInt8),z136.F a0 a1 a2,z136.enc⟩
 |_=>none
def z137.l0P (a:List (List UInt8)) (b:List UInt8) (c:Int) {R:Type} (rec:Int->Option R) (done:((Int)⊕(Int))->Option R):Int->Option R:=λd=>(bif (decide (d<c)) then (if 0<=d/\d<(a.length:Int) then (bif (decide (b=(a.getD (d).toNat []))) then (done (.inr d)) else (rec (wr .i64 (d+1)))) else none) else (done (.inl d)))
def z137.l0 (a:List (List UInt8)) (b:List UInt8) (c x:Int):Option (((Int)⊕(Int))):=lfp (λrec x=>z137.l0P a b c rec some x) x
def z137.F (a0:List (List UInt8)) (a1:List UInt8):Option (Int):=
 ((z137.l0 a0 a1 (((a0).length:Nat):Int) 0).bind λo1=>match o1 with | .inl p2=>(some (-1:Int)) | .inr q3=>(some q3))
def z137.enc (r:Int):V:=(.int .i64 r)
def z137.pack:List V->Option Pack
 |[(.strs _ a0),(.str a1)]=>some ⟨Int,z137.F a0 a1,z137.enc⟩
 |_=>none
def z138.F (a0:List UInt8):Option (Int×Bool):=
 (z77.F.bind λr1=>((z137.F r1 a0).bind λr2=>(some ((if 0>r2 then 0 else r2),(decide (r2>=0))))))
def z138.enc (r:Int×Bool):V:=(.tup [(.int .i64 r.1),(.bool r.2)])
def z138.pack:List V->Option Pack
 |[(.str a0)]=>some ⟨Int×Bool,z138.F a0,z138.enc⟩
 |_=>none
def z139.F:Option (Bool):=
 ((z76.F ([52,46,50,53]:List UInt8)).bind λr1=>((z76.F ([49,48,48,48,46,49]:List UInt8)).bind λr2=>((z46.F ([45,49]:List UInt8)).bind λr3=>((z138.F ([108,105,110,101,97,114]:List UInt8)).bind λr4=>(bif (decide (r1.2.2.2=0)) then ((z136.F r1.1 r1.2.1 r1.2.2.1).bind λr5=>(bif (decide (r5=([49,55,47,52,48,48]:List UInt8))) then (bif (decide (r2.2.2.2=18)) then (bif (decide (r3.2.2=19)) then (bif (decide (r4.1=1)) then (bif r4.2 then ((z91.F ([49,48,48]:List UInt8) ([53]:List UInt8) 0 0 0 2024 1 1 1 12).bind λr6=>(bif (decide (r6=0)) then ((z91.F ([]:List UInt8) ([]:List UInt8) 0 0 0 0 0 0 0 0).bind λr7=>(some (decide (r7=5)))) else (some false))) else (some false)) else (some false)) else (some false)) else (some false)) else (some false))) else (some false))))))
def z139.enc (r:Bool):V:=(.bool r)
def z139.pack:List V->Option Pack
 |[]=>some ⟨Bool,z139.F,z139.enc⟩
 |_=>none
def z142.l0P (a:Int) {R:Type} (rec done:((List UInt8)×Int)->Option R):((List UInt8)×Int)->Option R:=λx=>match x with
 |(b,c)=>(bif (decide (c<a)) then (if b.length+([48]:List UInt8).length<=9223372036854775807 then (rec ((b++([48]:List UInt8)),(wr .i64 (c+1)))) else none) else (done (b,c)))
def z142.l0 (a:Int) (x:((List UInt8)×Int)):Option (((List UInt8)×Int)):=lfp (λrec x=>z142.l0P a rec some x) x
def z142.l2P (a:Int) {R:Type} (rec done:((List UInt8)×Int)->Option R):((List UInt8)×Int)->Option R:=λx=>match x with
 |(b,c)=>(bif (decide (c<a)) then (if b.length+([57]:List UInt8).length<=9223372036854775807 then (rec ((b++([57]:List UInt8)),(wr .i64 (c+1)))) else none) else (done (b,c)))
def z142.l2 (a:Int) (x:((List UInt8)×Int)):Option (((List UInt8)×Int)):=lfp (λrec x=>z142.l2P a rec some x) x
def z142.j5 (j5:List UInt8) (r2:(List Int)×Bool×Int) (j3:Bool) (a1:Int):Option (Bool):=
 ((z76.F j5).bind λr6=>(z139.F.bind λr7=>(bif r7 then (bif (decide ((decide (r2.2.2=0))=j3)) then (bif j3 then (bif (decide ((decide (r6.2.2.2=0))=(decide ((wr .i64 (Int.tmod a1 20))<=12)))) then (bif (decide ((wr .i64 (Int.tmod a1 20))<=12)) then (some true) else (some (decide (r6.2.2.2=18)))) else (some false)) else (bif (decide (r2.2.2=19)) then (bif (decide ((decide (r6.2.2.2=0))=(decide ((wr .i64 (Int.tmod a1 20))<=12)))) then (bif (decide ((wr .i64 (Int.tmod a1 20))<=12)) then (some true) else (some (decide (r6.2.2.2=18)))) else (some false)) else (some false))) else (some false)) else (some false))))
def z142.j3 (a1:Int) (r2:(List Int)×Bool×Int) (j3:Bool):Option (Bool):=
 (bif (decide ((wr .i64 (Int.tmod a1 20))>0)) then ((z142.l2 (wr .i64 (Int.tmod a1 20)) (([57,57,57,46]:List UInt8),(0:Int))).bind λo4=>(z142.j5 o4.1 r2 j3 a1)) else (z142.j5 ([48]:List UInt8) r2 j3 a1))
def z142.F (a0 a1 a2:Int):Option (Bool):=
 ((z142.l0 (wr .i64 ((wr .i64 ((1:Int)+(wr .i64 (Int.tmod a0 40))))-1)) (([(wr .u8 ((49:Int)+(Int.tmod a2 9)))].map λn=>UInt8.ofNat n.toNat),(0:Int))).bind λo1=>((z46.F o1.1).bind λr2=>(bif (decide ((wr .i64 ((1:Int)+(wr .i64 (Int.tmod a0 40))))<31)) then (z142.j3 a1 r2 true) else (bif (decide ((wr .i64 ((1:Int)+(wr .i64 (Int.tmod a0 40))))=31)) then (z142.j3 a1 r2 (decide ((Int.tmod a2 9)=0))) else (z142.j3 a1 r2 false)))))
def z142.enc (r:Bool):V:=(.bool r)
def z142.pack:List V->Option Pack
 |[(.int .u8 a0),(.int .u8 a1),(.int .u8 a2)]=>some ⟨Bool,z142.F a0 a1 a2,z142.enc⟩
 |_=>none
end
end Go.Proofs.YtgjncgiekniniaaGreatDoor.A
end
section
set_option maxRecDepth 100000
namespace Go.Proofs.YtgjncgiekniniaaGreatDoor.A
open Go
noncomputable section
def z77.C:Ctx where
 T:=tab
def z77.dec:V->Option ((List (List UInt8)))
 |(.strs _ x0)=>some x0
 |_=>none
theorem z77.link:z77.C.evTop 137 (ifun Tryz.f137) [] z77.dec=z77.F:=by kernel_rfl
def z85.C:Ctx where
 T:=tab
 call:=λg args=>match g with|47=>z78.pack args|209=>z84.pack args|149=>z81.pack args|_=>none
def z85.dec:V->Option (Bool)
 |(.bool x0)=>some x0
 |_=>none
theorem z85.link (a0 a1:List UInt8) (a2 a3 a4 a5 a6 a7 a8 a9:Int):z85.C.evTop 133 (ifun Tryz.f133) [(.agg [(.str a0),(.str a1),(.int .i64 a2),(.int .i64 a3),(.int .i64 a4),(.int .i64 a5),(.int .i64 a6),(.int .i64 a7),(.int .i64 a8),(.int .i64 a9)])] z85.dec=z85.F a0 a1 a2 a3 a4 a5 a6 a7 a8 a9:=by kernel_rfl
def z90.C:Ctx where
 T:=tab
 draws:=λf i=>match f,i with|134,10=>([(48,[(8,0)],0),(49,[(47,1)],1),(50,[(8,0)],0),(51,[(49,3)],4),(52,[(8,0)],0),(53,[(51,5)],16),(54,[(50,4),(52,6)],60),(55,[(48,2),(53,7)],127),(56,[(8,0)],255),(0,[(55,9),(54,8)],511)],71916856549572608)|_,_=>([],0)
 call:=λg args=>match g with|142=>z89.pack args|210=>z88.pack args|_=>none
def z90.dec:V->Option (Int×Int×Int×Int)
 |(.tup [(.agg [(.int .i64 x0),(.int .i64 x1),(.int .i64 x2)]),(.int .i64 x3)])=>some (x0,x1,x2,x3)
 |_=>none
theorem z90.link (a0 a1 a2 a3:Int):z90.C.evTop 134 (ifun Tryz.f134) [(.agg [(.int .i64 a0),(.int .i64 a1),(.int .i64 a2)]),(.int .i64 a3)] z90.dec=z90.F a0 a1 a2 a3:=by kernel_rfl
def z139.C:Ctx where
 T:=tab
 call:=λg args=>match g with|38=>z76.pack args|36=>z46.pack args|46=>z138.pack args|41=>z136.pack args|44=>z91.pack args|_=>none
def z139.dec:V->Option (Bool)
 |(.bool x0)=>some x0
 |_=>none
theorem z139.link:z139.C.evTop 40 (ifun Tryz.f40) [] z139.dec=z139.F:=by kernel_rfl
end
noncomputable section
def z78.C:Ctx where
 T:=tab
 call:=λg args=>match g with|137=>z77.pack args|_=>none
def z78.dec:V->Option ((List UInt8))
 |(.str x0)=>some x0
 |_=>none
theorem z78.link (a0:Int):z78.C.evTop 47 (ifun Tryz.f47) [(.int .i64 a0)] z78.dec=z78.F a0:=by kernel_rfl
def z136.C:Ctx where
 T:=tab
 draws:=λf i=>match f,i with|41,3=>([(10,[(1,0)],0),(11,[(9,1)],1),(12,[(10,2)],3),(13,[(11,3)],7),(14,[(1,0)],0),(15,[(13,5)],23),(16,[(14,6)],55),(17,[(12,4),(15,7)],127),(3,[(16,8)],255)],130564)|_,_=>([],0)
 call:=λg args=>match g with|104=>z19.pack args|25=>z135.pack args|130=>z73.pack args|101=>z134.pack args|_=>none
def z136.dec:V->Option ((List UInt8))
 |(.str x0)=>some x0
 |_=>none
theorem z136.link (a0:List Int) (a1:Bool) (a2:List Int):z136.C.evTop 41 (ifun Tryz.f41) [(.agg [(.ints false .u64 a0),(.bool a1),(.ints false .u64 a2)])] z136.dec=z136.F a0 a1 a2:=by kernel_rfl
def z142.l0sh:Env×Store:=(.undef::(.int .u8 0)::(.int .u8 0)::un 3 ((.bool false)::(.int .i64 0)::(.str ([]:List UInt8))::un 17 ((.int .i64 0)::(.int .i64 0)::un 65 [])),[])
def z142.l0out0 (a c:Int) (d:Bool) (e:Int) (g:List UInt8) (h j:Int) (o:(List UInt8)×Int):X×Env×Store:=((.exit 0),Qb z142.l0sh [.i a,.i c,.b d,.i e,.s o.1,.i h,.i o.2])
def z142.l0pack:List Leaf->Option LPack
 |[.i a,.i c,.b d,.i e,.s g,.i h,.i j]=>some (.one _ (z142.l0 h (g,j)) (z142.l0out0 a c d e g h j))
 |_=>none
def z142.l2sh:Env×Store:=(un 6 ((.bool false)::un 3 ((.int .i64 0)::(.bool false)::(.str ([]:List UInt8))::(.int .i64 0)::un 39 ((.int .i64 0)::(.int .i64 0)::un 38 []))),[.dead])
def z142.l2out0 (a:Bool) (c:Int) (d:Bool) (e:List UInt8) (g h j:Int) (o:(List UInt8)×Int):X×Env×Store:=((.exit 2),Qb z142.l2sh [.b a,.i c,.b d,.s o.1,.i g,.i h,.i o.2])
def z142.l2pack:List Leaf->Option LPack
 |[.b a,.i c,.b d,.s e,.i g,.i h,.i j]=>some (.one _ (z142.l2 h (e,j)) (z142.l2out0 a c d e g h j))
 |_=>none
def z142.C:Ctx where
 T:=tab
 call:=λg args=>match g with|36=>z46.pack args|38=>z76.pack args|40=>z139.pack args|_=>none
 keep:=λf i=>match f,i with|8,0=>([1,2,6,7,8,26,27,40,41,42,43,44,45,46,66,67,68,69,72,73,74,75,76,79,80,81,82,83,86,87,88,89,90,91],[],[])|8,2=>([6,10,11,12,13,53,54,66,67,68,69,72,73,74,75,76,79,80,81,82,83,86,87,88,89,90,91],[],[])|_,_=>([],[],[])
 keepE:=λf i=>match f,i with|8,0=>([1,2,6,7,8,26,27,40,41,42,43,44,45,46,66,67,68,69,72,73,74,75,76,79,80,81,82,83,86,87,88,89,90,91],[],[])|8,2=>([6,10,11,12,13,53,54,66,67,68,69,72,73,74,75,76,79,80,81,82,83,86,87,88,89,90,91],[],[])|_,_=>([],[],[])
 keepR:=λf i=>match f,i with|8,0=>([6],[],[6])|8,2=>([6],[],[6])|_,_=>([],[],[])
 L:=λf i b st=>match f,i,b with|8,0,0=>(matchSt z142.l0sh st).bind z142.l0pack|8,2,0=>(matchSt z142.l2sh st).bind z142.l2pack|_,_,_=>none
def z142.dec:V->Option (Bool)
 |(.bool x0)=>some x0
 |_=>none
theorem z142.l0_link (R:Type) (k:Env×Store->Option R) (d:X×Env×Store->Option R) (a c:Int) (e:Bool) (g:Int) (h:List UInt8) (j m:Int) :
  z142.C.loopP 8 0 (Qf 0 (ifun Tryz.f8).body) 0 k d (Qb z142.l0sh [.i a,.i c,.b e,.i g,.s h,.i j,.i m]) =
  z142.l0P j (λx'=>k (Qb z142.l0sh [.i a,.i c,.b e,.i g,.s x'.1,.i j,.i x'.2])) (λo=>d (z142.l0out0 a c e g h j m o)) (h,m):=by kernel_rfl
theorem z142.l2_link (R:Type) (k:Env×Store->Option R) (d:X×Env×Store->Option R) (a:Bool) (c:Int) (e:Bool) (g:List UInt8) (h j m:Int) :
  z142.C.loopP 8 2 (Qf 2 (ifun Tryz.f8).body) 1 k d (Qb z142.l2sh [.b a,.i c,.b e,.s g,.i h,.i j,.i m]) =
  z142.l2P j (λx'=>k (Qb z142.l2sh [.b a,.i c,.b e,.s x'.1,.i h,.i j,.i x'.2])) (λo=>d (z142.l2out0 a c e g h j m o)) (g,m):=by kernel_rfl
theorem z142.link (a0 a1 a2:Int):z142.C.evTop 8 (ifun Tryz.f8) [(.int .u8 a0),(.int .u8 a1),(.int .u8 a2)] z142.dec=z142.F a0 a1 a2:=by kernel_rfl
end
noncomputable section
def z91.C:Ctx where
 T:=tab
 call:=λg args=>match g with|36=>z46.pack args|28=>z20.pack args|38=>z76.pack args|133=>z85.pack args|134=>z90.pack args|_=>none
def z91.dec:V->Option (Int)
 |(.int .i64 x0)=>some x0
 |_=>none
theorem z91.link (a0 a1:List UInt8) (a2 a3 a4 a5 a6 a7 a8 a9:Int):z91.C.evTop 44 (ifun Tryz.f44) [(.agg [(.str a0),(.str a1),(.int .i64 a2),(.int .i64 a3),(.int .i64 a4),(.int .i64 a5),(.int .i64 a6),(.int .i64 a7),(.int .i64 a8),(.int .i64 a9)])] z91.dec=z91.F a0 a1 a2 a3 a4 a5 a6 a7 a8 a9:=by kernel_rfl
def z137.l0sh:Env×Store:=((.strs false [])::(.str ([]:List UInt8)) :: .undef :: .undef::(.int .i64 0) :: .undef :: .undef::(.int .i64 0)::(.int .i64 0)::un 10 [],[])
def z137.l0so1:Env×Store:=(un 4 ((.int .i64 0)::un 14 []),[])
def z137.l0out0 (a:List (List UInt8)) (b:List UInt8) (c d e o:Int):X×Env×Store:=((.exit 0),Qb z137.l0sh [.ls a,.s b,.i c,.i d,.i o])
def z137.l0out1 (a:List (List UInt8)) (b:List UInt8) (c d e o:Int):X×Env×Store:=(.ret,Qb z137.l0so1 [.i o])
def z137.l0pack:List Leaf->Option LPack
 |[.ls a,.s b,.i c,.i d,.i e]=>some (.two _ _ (z137.l0 a b d e) (z137.l0out0 a b c d e) (z137.l0out1 a b c d e))
 |_=>none
def z137.C:Ctx where
 T:=tab
 keep:=λf i=>match f,i with|136,0=>([0,1,4,7,8],[],[])|_,_=>([],[],[])
 keepE:=λf i=>match f,i with|136,0=>([0,1,4,7,8],[],[])|_,_=>([],[],[])
 keepR:=λf i=>match f,i with|136,0=>([4],[],[4])|_,_=>([],[],[])
 L:=λf i b st=>match f,i,b with|136,0,0=>(matchSt z137.l0sh st).bind z137.l0pack|_,_,_=>none
def z137.dec:V->Option (Int)
 |(.int .i64 x0)=>some x0
 |_=>none
theorem z137.l0_link (R:Type) (k:Env×Store->Option R) (d:X×Env×Store->Option R) (a:List (List UInt8)) (b:List UInt8) (c e g:Int) :
  z137.C.loopP 136 0 (Qf 0 (ifun Tryz.f136).body) 0 k d (Qb z137.l0sh [.ls a,.s b,.i c,.i e,.i g]) =
  z137.l0P a b e (λx'=>k (Qb z137.l0sh [.ls a,.s b,.i c,.i e,.i x'])) (λo=>match o with | .inl o=>d (z137.l0out0 a b c e g o) | .inr o=>d (z137.l0out1 a b c e g o)) g:=by kernel_rfl
theorem z137.link (a0:List (List UInt8)) (a1:List UInt8):z137.C.evTop 136 (ifun Tryz.f136) [(.strs false a0),(.str a1)] z137.dec=z137.F a0 a1:=by kernel_rfl
def z138.C:Ctx where
 T:=tab
 call:=λg args=>match g with|137=>z77.pack args|136=>z137.pack args|_=>none
def z138.dec:V->Option (Int×Bool)
 |(.tup [(.int .i64 x0),(.bool x1)])=>some (x0,x1)
 |_=>none
theorem z138.link (a0:List UInt8):z138.C.evTop 46 (ifun Tryz.f46) [(.str a0)] z138.dec=z138.F a0:=by kernel_rfl
end
noncomputable section
theorem z77.sound:Sn z77.pack 137:=by
 intro vs p h;unfold z77.pack at h;split at h<;>cases h
 exact Qg Qd Qe rfl rfl rfl rfl (λg vs p h=>by simp [z77.C] at h) ⟨Tryz.func137,rfl,by kernel_rfl⟩ rfl z77.link (by intro v r h;unfold z77.dec at h;split at h<;>cases h;exact ⟨rfl,rfl⟩)
theorem z78.sound:Sn z78.pack 47:=by
 intro vs p h;unfold z78.pack at h;split at h<;>cases h
 exact Qg Qd Qe rfl rfl rfl rfl (λg vs p h=>by unfold z78.C at h;simp only at h;split at h;exact z77.sound vs p h;simp at h) ⟨Tryz.func47,rfl,by kernel_rfl⟩ rfl (z78.link _) (by intro v r h;unfold z78.dec at h;split at h<;>cases h;exact ⟨rfl,rfl⟩)
theorem z85.sound:Sn z85.pack 133:=by
 intro vs p h;unfold z85.pack at h;split at h<;>cases h
 exact Qg Qd Qe rfl rfl rfl rfl (λg vs p h=>by unfold z85.C at h;simp only at h;split at h;exact z78.sound vs p h;exact z84.sound vs p h;exact z81.sound vs p h;simp at h) ⟨Tryz.func133,rfl,by kernel_rfl⟩ rfl (z85.link _ _ _ _ _ _ _ _ _ _) (by intro v r h;unfold z85.dec at h;split at h<;>cases h;exact ⟨rfl,rfl⟩)
theorem z90.sound:Sn z90.pack 134:=by
 intro vs p h;unfold z90.pack at h;split at h<;>cases h
 exact Qg Qd Qe rfl rfl rfl rfl (λg vs p h=>by unfold z90.C at h;simp only at h;split at h;exact z89.sound vs p h;exact z88.sound vs p h;simp at h) ⟨Tryz.func134,rfl,by kernel_rfl⟩ rfl (z90.link _ _ _ _) (by intro v r h;unfold z90.dec at h;split at h<;>cases h;exact ⟨rfl,rfl⟩)
theorem z91.sound:Sn z91.pack 44:=by
 intro vs p h;unfold z91.pack at h;split at h<;>cases h
 exact Qg Qd Qe rfl rfl rfl rfl (λg vs p h=>by unfold z91.C at h;simp only at h;split at h;exact z46.sound vs p h;exact z20.sound vs p h;exact z76.sound vs p h;exact z85.sound vs p h;exact z90.sound vs p h;simp at h) ⟨Tryz.func44,rfl,by kernel_rfl⟩ rfl (z91.link _ _ _ _ _ _ _ _ _ _) (by intro v r h;unfold z91.dec at h;split at h<;>cases h;exact ⟨rfl,rfl⟩)
theorem z136.sound:Sn z136.pack 41:=by
 intro vs p h;unfold z136.pack at h;split at h<;>cases h
 exact Qg Qd Qe rfl rfl rfl rfl (λg vs p h=>by unfold z136.C at h;simp only at h;split at h;exact z19.sound vs p h;exact z135.sound vs p h;exact z73.sound vs p h;exact z134.sound vs p h;simp at h) ⟨Tryz.func41,rfl,by kernel_rfl⟩ rfl (z136.link _ _ _) (by intro v r h;unfold z136.dec at h;split at h<;>cases h;exact ⟨rfl,rfl⟩)
theorem z137.l0_sound (hI:InlOK Tryz.prog z137.C λR=>z137.C.inlK 6):Qh z137.C 6 136 0 0 (Qf 0 (ifun Tryz.f136).body) z137.l0sh z137.l0pack:=by
 refine Qi λls p h=>?_
 unfold z137.l0pack at h;split at h<;>cases h
 rename_i a b c e g
 exact Q4 hI (sh:=z137.l0sh) (so:=z137.l0sh) (so':=z137.l0so1) (F:=λR rec done x=>z137.l0P a b e rec done x) (enc:=λ(x':Int)=>Qb z137.l0sh [.ls a,.s b,.i c,.i e,.i x']) (.exit 0) [4] [4] [0] g (by kernel_rfl) (by kernel_rfl) (λx=>by kernel_rfl) (λo=>by kernel_rfl) (λo=>by kernel_rfl) λR k d x'=>z137.l0_link R k d a b c e (x')
theorem Q1v:Qk (ifun Tryz.f136).body=true:=by kernel_rfl
theorem z137.loopsT (hI:InlOK Tryz.prog z137.C λR=>z137.C.inlK 6):LoopsOK z137.C (λR=>z137.C.inlK 6) 136 0 (ifun Tryz.f136).body:=by
 intro id b hm st p hp
 obtain rfl:=Ql Q1v hm
 unfold z137.C at hp
 simp only at hp
 try split at hp
 all_goals first
  |(simp at hp;done)
  |(exfalso;omega)
  |exact z137.l0_sound hI st p hp
theorem z137.sound:Sn z137.pack 136:=by
 intro vs p h;unfold z137.pack at h;split at h<;>cases h
 exact Qo Qd Qe rfl rfl rfl (λg vs p h=>by simp [z137.C] at h) ⟨Tryz.func136,rfl,by kernel_rfl⟩ z137.loopsT rfl (z137.link _ _) (by intro v r h;unfold z137.dec at h;split at h<;>cases h;exact ⟨rfl,rfl⟩)
theorem z138.sound:Sn z138.pack 46:=by
 intro vs p h;unfold z138.pack at h;split at h<;>cases h
 exact Qg Qd Qe rfl rfl rfl rfl (λg vs p h=>by unfold z138.C at h;simp only at h;split at h;exact z77.sound vs p h;exact z137.sound vs p h;simp at h) ⟨Tryz.func46,rfl,by kernel_rfl⟩ rfl (z138.link _) (by intro v r h;unfold z138.dec at h;split at h<;>cases h;exact ⟨rfl,rfl⟩)
theorem z139.sound:Sn z139.pack 40:=by
 intro vs p h;unfold z139.pack at h;split at h<;>cases h
 exact Qg Qd Qe rfl rfl rfl rfl (λg vs p h=>by unfold z139.C at h;simp only at h;split at h;exact z76.sound vs p h;exact z46.sound vs p h;exact z138.sound vs p h;exact z136.sound vs p h;exact z91.sound vs p h;simp at h) ⟨Tryz.func40,rfl,by kernel_rfl⟩ rfl z139.link (by intro v r h;unfold z139.dec at h;split at h<;>cases h;exact ⟨rfl,rfl⟩)
theorem z142.l0_sound (hI:InlOK Tryz.prog z142.C λR=>z142.C.inlK 6):Qh z142.C 6 8 0 0 (Qf 0 (ifun Tryz.f8).body) z142.l0sh z142.l0pack:=by
 refine Qi λls p h=>?_
 unfold z142.l0pack at h;split at h<;>cases h
 rename_i a c e g j m n
 exact Qm hI (sh:=z142.l0sh) (so:=z142.l0sh) (F:=λR rec done x=>z142.l0P m rec done x) (enc:=λ(x':((List UInt8)×Int))=>Qb z142.l0sh [.i a,.i c,.b e,.i g,.s x'.1,.i m,.i x'.2]) [4,6] [4,6] (j,n) (by kernel_rfl) (by kernel_rfl) (λx=>by kernel_rfl) (λo=>by kernel_rfl) λR k d x'=>z142.l0_link R k d a c e g (x'.1) m (x'.2)
theorem z142.l2_sound (hI:InlOK Tryz.prog z142.C λR=>z142.C.inlK 6):Qh z142.C 6 8 2 0 (Qf 2 (ifun Tryz.f8).body) z142.l2sh z142.l2pack:=by
 refine Qi λls p h=>?_
 unfold z142.l2pack at h;split at h<;>cases h
 rename_i a c e g j m n
 exact Qm hI (sh:=z142.l2sh) (so:=z142.l2sh) (F:=λR rec done x=>z142.l2P m rec done x) (enc:=λ(x':((List UInt8)×Int))=>Qb z142.l2sh [.b a,.i c,.b e,.s x'.1,.i j,.i m,.i x'.2]) [3,6] [3,6] (g,n) (by kernel_rfl) (by kernel_rfl) (λx=>by kernel_rfl) (λo=>by kernel_rfl) λR k d x'=>z142.l2_link R k d a c e (x'.1) j m (x'.2)
theorem fun8:FunOK Tryz.prog 8 Tryz.f8 (ifun Tryz.f8).body:=⟨Tryz.func8,rfl,by kernel_rfl⟩
theorem Q3r:Qk (ifun Tryz.f8).body=true:=by kernel_rfl
theorem z142.loopsT (hI:InlOK Tryz.prog z142.C λR=>z142.C.inlK 6):LoopsOK z142.C (λR=>z142.C.inlK 6) 8 0 (ifun Tryz.f8).body:=by
 intro id b hm st p hp
 obtain rfl:=Ql Q3r hm
 unfold z142.C at hp
 simp only at hp
 try split at hp
 all_goals first
  |(simp at hp;done)
  |(exfalso;omega)
  |exact z142.l0_sound hI st p hp
  |exact z142.l2_sound hI st p hp
theorem z142.sound:Sn z142.pack 8:=by
 intro vs p h;unfold z142.pack at h;split at h<;>cases h
 exact Qo Qd Qe rfl rfl rfl (λg vs p h=>by unfold z142.C at h;simp only at h;split at h;exact z46.sound vs p h;exact z76.sound vs p h;exact z139.sound vs p h;simp at h) fun8 z142.loopsT rfl (z142.link _ _ _) (by intro v r h;unfold z142.dec at h;split at h<;>cases h;exact ⟨rfl,rfl⟩)
end
end Go.Proofs.YtgjncgiekniniaaGreatDoor.A
end
section
namespace Go.Proofs.YtgjncgiekniniaaGreatDoor.A
open Go Go.RowKit Go.ChangeShapes Go.WideShapes
noncomputable section
inductive SC where
 |b
 |i (k:IntKind)
 |s
inductive CT where
 |sc (c:SC)
 |sl (cs:List SC)
def scOf:CT->Option SC
 |.sc c=>some c
 |_=>none
def Q4n:List CT->Option (List SC)
 |[]=>some []
 |c::l=>(scOf c).bind λx=>(Q4n l).map (x :: ·)
def okS:SC->V->Prop
 |.b,v=>∃x,v=.bool x
 |.i k,v=>∃n,v=.int k n/\(Lit.int k n).wf=true
 |.s,v=>∃l,v=.str l/\l.length<=maxLen
def okSL:List SC->List V->Prop
 |[],vs=>vs=[]
 |c::cs,vs=>∃v l,vs=v::l/\okS c v/\okSL cs l
def okC:CT->V->Prop
 |.sc c,v=>okS c v
 |.sl [.i k],v=>∃l,v=.ints false k l/\(∀n∈l,(Lit.int k n).wf=true)/\l.length<=maxLen
 |.sl [.s],v=>∃l,v=.strs false l/\(∀s∈l,s.length<=maxLen)/\l.length<=maxLen
 |.sl cs,v=>∃l,v=.recs false cs.length l/\(∀r∈l,okSL cs r)/\l.length<=maxLen
def okCL:List CT->List V->Prop
 |[],vs=>vs=[]
 |c::cs,vs=>∃v l,vs=v::l/\okC c v/\okCL cs l
def ctsF (P:Program) (rec:TypeId->Option (List CT)):Nat->List Field->Option (List CT)
 |_,[]=>some []
 |off,f::fs=>if f.offset=off then (rec f.type).bind λl=>if P.cellsOf f.type=l.length then (ctsF P rec (off+l.length) fs).map (l ++ ·) else none else none
def ctsA (l:List CT):Nat->List CT
 |0=>[]
 |n+1=>l++ctsA l n
def cts (P:Program):Nat->TypeId->Option (List CT)
 |0,_=>none
 |
  n+1,t=>
  match P.underlying t with
  |some .bool=>some [.sc .b]
  |some (.int k)=>some [.sc (.i k)]
  |some .string=>some [.sc .s]
  |some (.struct fs)=>(ctsF P (cts P n) 0 fs.toList).bind λl=>if P.cellsOf t=l.length then some l else none
  |some (.array m e)=>(cts P n e).bind λl=>if P.cellsOf e=l.length/\P.cellsOf t=m*l.length then some (ctsA l m) else none
  |some (.slice e)=>(cts P n e).bind λl=>(Q4n l).bind λcs=>if P.cellsOf e=cs.length/\0<cs.length then some [.sl cs] else none
  |_=>none
abbrev noO:Nat->Prop:=λ_=>False
def Q4s (W:World) (c:CT) (cv:Value) (v:V):Prop:=okC c v/\Rep0 noO W cv v/\cv.oneCell'=true
def Q4i (W:World) (l:List CT) (cs:List Value) (vs:List V):Prop:=
 cs.length=l.length/\vs.length=l.length/\∀(j:Nat) (c:CT) (cv:Value) (v:V),l[j]? = some c->cs[j]? = some cv->vs[j]? = some v->Q4s W c cv v
theorem cellsR_nil (W:World):Q4i W [] [] []:=⟨rfl,rfl,λ(j:Nat) c cv v h=>by simp at h⟩
theorem Q4o {W:World} {c:CT} {cv:Value} {v:V} (h:Q4s W c cv v):Q4i W [c] [cv] [v]:=by
 refine ⟨rfl,rfl,λj c' cv' v' h1 h2 h3=>?_⟩
 cases j with
 |zero=>simp at h1 h2 h3;subst h1 h2 h3;exact h
 |succ j=>simp at h1
theorem Q4w {W:World} {l l':List CT} {cs cs':List Value} {vs vs':List V} (h:Q4i W l cs vs) (h':Q4i W l' cs' vs'):Q4i W (l++l') (cs++cs') (vs++vs'):=by
 obtain ⟨a1,a2,a3⟩:=h;obtain ⟨b1,b2,b3⟩:=h'
 refine ⟨by simp [a1,b1],by simp [a2,b2],λj c cv v h1 h2 h3=>?_⟩
 by_cases hj:j<l.length
 ·rw [List.getElem?_append_left hj] at h1
  rw [List.getElem?_append_left (by omega)] at h2 h3
  exact a3 j c cv v h1 h2 h3
 ·rw [List.getElem?_append_right (by omega)] at h1 h2 h3
  rw [a1] at h2;rw [a2] at h3
  exact b3 _ c cv v h1 h2 h3
theorem Q4q {W:World}:∀{l:List CT} {cs:List Value} {vs:List V},Q4i W l cs vs->okCL l vs
 |[],cs,vs,h=>List.length_eq_zero_iff.1 h.2.1
 |
  c::l,cs,vs,h=>by
  obtain ⟨h1,h2,h3⟩:=h
  match cs,vs,h1,h2 with
  |
   cv::cs,v::vs,h1,h2=>
   exact ⟨v,vs,rfl,(h3 0 c cv v rfl rfl rfl).1,Q4q (cs:=cs) ⟨by simpa using h1,by simpa using h2,λj c' cv' v' a b d=>h3 (j+1) c' cv' v' (by simpa using a) (by simpa using b) (by simpa using d)⟩⟩
theorem Q4t:∀{l:List CT} {ss:List SC} {vs:List V},Q4n l=some ss->okCL l vs->okSL ss vs
 |[],ss,vs,h,hv=>by simp [Q4n] at h;subst h;exact hv
 |
  c::l,ss,vs,h,hv=>by
  simp only [Q4n,Option.bind_eq_some_iff,Option.map_eq_some_iff] at h
  obtain ⟨x,hx,y,hy,rfl⟩:=h
  obtain ⟨v,r,rfl,h1,h2⟩:=hv
  refine ⟨v,r,rfl,?_,Q4t hy h2⟩
  cases c with
  |sc c=>simp [scOf] at hx;subst hx;exact h1
  |sl _=>simp [scOf] at hx
theorem Q4v:∀{l:List CT} {ss:List SC},Q4n l=some ss->ss.length=l.length
 |[],ss,h=>by simp [Q4n] at h;subst h;rfl
 |
  c::l,ss,h=>by
  simp only [Q4n,Option.bind_eq_some_iff,Option.map_eq_some_iff] at h
  obtain ⟨x,hx,y,hy,rfl⟩:=h
  simp [Q4v hy]
theorem Q4r {α:Type} {Q:Nat->α->Prop}:∀{n:Nat},(∀i,i<n->∃x,Q i x)->∃l:List α,l.length=n/\∀(i:Nat) (x:α),l[i]? = some x->Q i x
 |0,_=>⟨[],rfl,λi x h=>by simp at h⟩
 |
  n+1,h=>by
  obtain ⟨l,h1,h2⟩:=Q4r (n:=n) λi hi=>h i (by omega)
  obtain ⟨x,hx⟩:=h n (by omega)
  refine ⟨l++[x],by simp [h1],λi y hy=>?_⟩
  by_cases hi:i<l.length
  ·rw [List.getElem?_append_left hi] at hy;exact h2 i y hy
  ·rw [List.getElem?_append_right (by omega)] at hy
   have:i-l.length=0:=by
    rcases Nat.lt_or_ge (i-l.length) 1 with h0|h0
    ·omega
    ·rw [List.getElem?_eq_none (by simp;omega)] at hy;simp at hy
   rw [this] at hy;simp at hy;subst hy
   have:i=n:=by omega
   subst this;exact hx
theorem Q4u {α:Type} (z:Nat) (hz:0<z):∀(l:List (List α)) (j:Nat),(∀e∈l,e.length=z)->l.flatten[j]? = (l[j/z]?).bind (·[j%z]?)
 |[],j,_=>by simp
 |
  e::l,j,h=>by
  have he:=h e (by simp)
  rw [List.flatten_cons]
  by_cases hj:j<z
  ·rw [List.getElem?_append_left (by omega),Nat.div_eq_of_lt hj,Nat.mod_eq_of_lt hj];rfl
  ·rw [List.getElem?_append_right (by omega),Q4u z hz l _ (λx hx=>h x (by simp [hx])),he]
   have h1:j/z=(j-z)/z+1:=by rw [<-Nat.add_div_right (j-z) hz,Nat.sub_add_cancel (by omega)]
   have h2:j%z=(j-z)%z:=by rw [<-Nat.add_mod_right (j-z) z,Nat.sub_add_cancel (by omega)]
   rw [h1,h2];rfl
theorem ones {α:Type} {c:SC} {f:α->V} {Q:α->Prop} (hc:∀v,okS c v->∃n,v=f n/\Q n):∀vss:List (List V),(∀r∈vss,okSL [c] r) ->
  ∃zs:List α,vss.flatten=zs.map f/\zs.length=vss.length/\∀n∈zs,Q n
 |[],_=>⟨[],rfl,rfl,by simp⟩
 |
  r::vss,h=>by
  obtain ⟨zs,e1,e2,e3⟩:=ones hc vss λx hx=>h x (by simp [hx])
  obtain ⟨v,l,rfl,hv,hl⟩:=h r (by simp)
  have hl:l=[]:=hl
  subst hl
  obtain ⟨n,rfl,hq⟩:=hc v hv
  exact ⟨n::zs,by simp [e1],by simp [e2],by simpa using ⟨hq,e3⟩⟩
theorem Q4y {W:World} {t e n m:Nat} {ss:List SC} {l:List CT} {a:Addr} {len cap:Nat} (hs:Q4n l=some ss) (hz:0<ss.length) (hl:len<=cap) (hm:cap<=maxLen)
  (h:∀i,i<len->∃cs vs,W.cells? 0 (a.add (i*ss.length)) ss.length=some cs/\Q4i W l cs vs):∃v,okC (.sl ss) v/\Rep0 noO W (.slice (some a) len cap) v:=by
 obtain ⟨rows,h1,h2⟩:=Q4r h
 have hsl:=Q4v hs
 have hrow:∀(i:Nat) (r:List Value),rows[i]? = some r->∃vs:List V,r.length=ss.length/\okSL ss vs/\vs.length=ss.length/\∀(j:Nat) (cv:Value) (v:V),r[j]? = some cv->vs[j]? = some v->W.cell? (a.add (i*ss.length+j))=some cv/\Rep0 noO W cv v/\cv.oneCell'=true:=by
  intro i r hr
  obtain ⟨vs,hc,hv⟩:=h2 i r hr
  obtain ⟨_,hlen,hcell⟩:=World.cells?_some hc
  refine ⟨vs,hlen,Q4t hs (Q4q hv),hv.2.1.trans hsl.symm,λj cv v hj hjv=>?_⟩
  have hjl:j<l.length:=by have:=(List.getElem?_eq_some_iff.1 hj).1;omega
  have:=hv.2.2 j l[j] cv v (by simp) hj hjv
  refine ⟨?_,this.2⟩
  rw [<-Go.Deep.add_add,hcell j (by omega),hj]
 have hall:∀i,i<rows.length->∃vs:List V,okSL ss vs/\vs.length=ss.length/\∀(j:Nat) (v:V),vs[j]? = some v->∃cv,W.cell? (a.add (i*ss.length+j))=some cv/\Rep0 noO W cv v/\cv.oneCell'=true:=by
  intro i hi
  obtain ⟨vs,q1,q2,q3,q4⟩:=hrow i rows[i] (by simp [hi])
  refine ⟨vs,q2,q3,λj v hv=>?_⟩
  have:j<ss.length:=by have:=(List.getElem?_eq_some_iff.1 hv).1;omega
  exact ⟨_,q4 j (rows[i][j]'(by omega)) v (by simp) hv⟩
 obtain ⟨vss,g1,g2⟩:=Q4r hall
 have hvlen:∀e∈vss,e.length=ss.length:=λe he=>by obtain ⟨i,hi,rfl⟩:=List.getElem_of_mem he;exact (g2 i _ (by simp [hi])).2.1
 have gen:∀v:V,flatV v=some (len,vss.flatten)->isExact v=false->Rep0 noO W (.slice (some a) len cap) v:=by
  intro v hf hx
  have hcell:∀(j:Nat) (v:V),vss.flatten[j]? = some v->∃cv,W.cell? (a.add j)=some cv/\Rep0 noO W cv v/\cv.oneCell'=true:=by
   intro j v hv
   rw [Q4u ss.length hz vss j hvlen] at hv
   obtain ⟨r,hr,hv⟩:=Option.bind_eq_some_iff.1 hv
   obtain ⟨cv,k1,k2⟩:=(g2 _ r hr).2.2 _ v hv
   refine ⟨cv,?_,k2⟩
   rw [show j=j/ss.length*ss.length+j%ss.length by rw [Nat.mul_comm];exact (Nat.div_add_mod j ss.length).symm]
   exact k1
  refine .slice (some a) len cap v vss.flatten (λj=>(W.cell? (a.add j)).getD Go.undef) hf (by simp [hx]) hl (by simp) (λj hj=>?_) (λj hj=>?_) (λj hj=>?_)
  ·obtain ⟨cv,k1,k2,k3⟩:=hcell j _ (List.getElem?_eq_getElem hj)
   exact ⟨a,rfl,λh=>h.elim,by rw [k1];rfl⟩
  ·obtain ⟨cv,k1,k2,k3⟩:=hcell j _ (List.getElem?_eq_getElem hj)
   rw [k1];exact k3
  ·obtain ⟨cv,k1,k2,k3⟩:=hcell j _ (List.getElem?_eq_getElem hj)
   rw [k1];exact k2
 have hlen':vss.length=len:=by omega
 have recs:∃v,(∃l,v=V.recs false ss.length l/\(∀r∈l,okSL ss r)/\l.length<=maxLen)/\Rep0 noO W (.slice (some a) len cap) v:=by
  refine ⟨.recs false ss.length vss,⟨vss,rfl,λr hr=>?_,by omega⟩,gen _ ?_ rfl⟩
  ·obtain ⟨i,hi,rfl⟩:=List.getElem_of_mem hr;exact (g2 i _ (by simp [hi])).1
  ·simp only [flatV];rw [if_pos ⟨hz,hvlen⟩,hlen']
 match ss,hs,hz,recs,g2,gen,hvlen with
 |[],_,hz,_,_,_,_=>simp at hz
 |[.b],_,_,recs,_,_,_=>exact recs
 |x::y::_,_,_,recs,_,_,_=>exact by cases x<;>exact recs
 |
  [.i k],_,_,recs,g2,gen,hvlen=>
  obtain ⟨zs,e1,e2,e3⟩:=ones (c:=.i k) (f:=V.int k) (λv h=>h) vss λr hr=>by
   obtain ⟨i,hi,rfl⟩:=List.getElem_of_mem hr;exact (g2 i _ (by simp [hi])).1
  refine ⟨.ints false k zs,⟨zs,rfl,e3,by omega⟩,gen _ ?_ rfl⟩
  simp only [flatV];rw [e1,e2,hlen']
 |
  [.s],_,_,recs,g2,gen,hvlen=>
  obtain ⟨zs,e1,e2,e3⟩:=ones (c:=.s) (f:=V.str) (λv h=>h) vss λr hr=>by
   obtain ⟨i,hi,rfl⟩:=List.getElem_of_mem hr;exact (g2 i _ (by simp [hi])).1
  refine ⟨.strs false zs,⟨zs,rfl,e3,by omega⟩,gen _ ?_ rfl⟩
  simp only [flatV];rw [e1,e2,hlen']
theorem Q40 {W:World} {ss:List SC} (hz:0<ss.length):∃v,okC (.sl ss) v/\Rep0 noO W (.slice none 0 0) v:=by
 have gen:∀v:V,flatV v=some (0,[])->isExact v=false->Rep0 noO W (.slice none 0 0) v:=λv hf hx=>
  .slice none 0 0 v [] (λ_=>Go.undef) hf (by simp [hx]) (Nat.le_refl _) (λ_=>rfl) (λj hj=>by simp at hj) (λj hj=>by simp at hj) (λj hj=>by simp at hj)
 match ss,hz with
 |[.i k],_=>exact ⟨.ints false k [],⟨[],rfl,by simp,by simp⟩,gen _ rfl rfl⟩
 |[.s],_=>exact ⟨.strs false [],⟨[],rfl,by simp,by simp⟩,gen _ rfl rfl⟩
 |[.b],_=>exact ⟨.recs false 1 [],⟨[],rfl,by simp,by simp⟩,gen _ (by simp [flatV]) rfl⟩
 |a::a'::ss,_=>exact ⟨.recs false (a::a'::ss).length [],by cases a<;>exact ⟨[],rfl,by simp,by simp⟩,gen _ (by simp [flatV]) rfl⟩
section
variable {H:Type} {enc:TypeId×Value->H} {P:Program} {W:World}
theorem Q4p:∀(n:Nat) (t:TypeId) (l:List CT),cts P n t=some l->∀(fuel:Nat) (cs:List Value) (x:DataW H×List MemPlace),DataW.trod enc P W 0 (λ_=>true) true fuel t cs=some x ->
  ∃vs,Q4i W l cs vs
 |0,t,l,h,_,_,_,_=>by simp [cts] at h
 |
  n+1,t,l,h,fuel,cs,x,hx=>by
  unfold cts at h
  split at h
  ·rename_i ht
   simp at h;subst h
   obtain ⟨bb,rfl,_⟩:=DataW.trod_bool ht hx
   exact ⟨[.bool bb],Q4o ⟨⟨bb,rfl⟩,.bool bb,rfl⟩⟩
  ·rename_i k ht
   simp at h;subst h
   obtain ⟨b,rfl,_,hw⟩:=DataW.trod_int ht hx
   exact ⟨[.int k b],Q4o ⟨⟨b,rfl,hw⟩,.int k b,rfl⟩⟩
  ·rename_i ht
   simp at h;subst h
   obtain ⟨b,rfl,_,hw⟩:=DataW.trod_string ht hx
   exact ⟨[.str b.data.toList],Q4o ⟨⟨_,rfl,by simpa using hw⟩,.str _ _ rfl,rfl⟩⟩
  ·rename_i fs ht
   obtain ⟨l',h1,h2⟩:=Option.bind_eq_some_iff.1 h
   split at h2
   case isFalse=>simp at h2
   rename_i hsz
   simp at h2;subst h2
   obtain ⟨xs,m,_,_,hlen,hxl,hf⟩:=DataW.trod_struct ht hx
   have key:∀(gs:List Field) (off:Nat) (l':List CT),ctsF P (cts P n) off gs=some l'->(∀f∈gs,∃y,DataW.trod enc P W 0 (λ_=>true) true m f.type ((cs.drop f.offset).take (P.cellsOf f.type))=some y) ->
     ∃vs,Q4i W l' ((cs.drop off).take l'.length) vs:=by
    intro gs
    induction gs with
    |nil=>intro off l' h _;simp [ctsF] at h;subst h;exact ⟨[],by simpa using cellsR_nil W⟩
    |
     cons f gs ih=>
     intro off l' h hg
     unfold ctsF at h
     split at h
     case isFalse=>simp at h
     rename_i hoff
     obtain ⟨lf,h1,h2⟩:=Option.bind_eq_some_iff.1 h
     split at h2
     case isFalse=>simp at h2
     rename_i hsz
     obtain ⟨l2,h3,rfl⟩:=Option.map_eq_some_iff.1 h2
     obtain ⟨y,hy⟩:=hg f (by simp)
     obtain ⟨vs1,c1⟩:=Q4p n f.type lf h1 m _ y hy
     obtain ⟨vs2,c2⟩:=ih _ _ h3 λf' hf'=>hg f' (by simp [hf'])
     refine ⟨vs1++vs2,?_⟩
     have hc:=Q4w c1 c2
     rw [hoff,hsz] at hc
     have hl1:lf.length<=(cs.drop off).length:=by
      have:=c1.1;rw [hoff,hsz,List.length_take] at this;omega
     rw [List.length_append,List.take_add,List.drop_drop]
     exact hc
   have hall:∀f∈fs.toList,∃y,DataW.trod enc P W 0 (λ_=>true) true m f.type ((cs.drop f.offset).take (P.cellsOf f.type))=some y:=by
    intro f hf'
    obtain ⟨i,hi,rfl⟩:=List.getElem_of_mem hf'
    have hi':i<fs.size:=by simpa using hi
    have:=hf i (fs.toList[i]) (by simp [hi'])
    rw [List.getElem?_eq_getElem (by omega)] at this
    exact ⟨_,this⟩
   obtain ⟨vs,hv⟩:=key fs.toList 0 _ h1 hall
   refine ⟨vs,?_⟩
   rwa [List.drop_zero,List.take_of_length_le (by omega)] at hv
  ·rename_i m e ht
   obtain ⟨l',h1,h2⟩:=Option.bind_eq_some_iff.1 h
   split at h2
   case isFalse=>simp at h2
   rename_i hsz
   simp at h2;subst h2
   obtain ⟨xs,q,_,_,hlen,hxl,hf⟩:=DataW.trod_array ht hx
   have key:∀(k:Nat),k<=m->∃vs,Q4i W (ctsA l' k) ((cs.drop ((m-k)*l'.length)).take (k*l'.length)) vs:=by
    intro k
    induction k with
    |zero=>intro _;exact ⟨[],by simpa [ctsA] using cellsR_nil W⟩
    |
     succ k ih=>
     intro hk
     obtain ⟨vs2,c2⟩:=ih (by omega)
     have h3:=hf (m-(k+1)) (by omega)
     rw [List.getElem?_eq_getElem (by omega)] at h3
     obtain ⟨vs1,c1⟩:=Q4p n e l' h1 q _ _ h3
     refine ⟨vs1++vs2,?_⟩
     have hc:=Q4w c1 c2
     rw [hsz.1] at hc
     have e1:(m-k)*l'.length=(m-(k+1))*l'.length+l'.length:=by
      rw [<-Nat.succ_mul];congr 1;omega
     have e2:(k+1)*l'.length=l'.length+k*l'.length:=by rw [Nat.succ_mul,Nat.add_comm]
     rw [e1,<-List.drop_drop] at hc
     rw [e2,List.take_add]
     exact hc
   obtain ⟨vs,hv⟩:=key m (Nat.le_refl _)
   refine ⟨vs,?_⟩
   rwa [Nat.sub_self,Nat.zero_mul,List.drop_zero,List.take_of_length_le (by omega)] at hv
  ·rename_i e ht
   obtain ⟨l',h1,h2⟩:=Option.bind_eq_some_iff.1 h
   obtain ⟨ss,h3,h4⟩:=Option.bind_eq_some_iff.1 h2
   split at h4
   case isFalse=>simp at h4
   rename_i hsz
   simp at h4;subst h4
   rcases Go.Deep.open_slice ht hx with ⟨rfl,_⟩|⟨a,len,cap,m,q,D,Pl,rfl,_,hl,hm,hmm,_,hi⟩
   ·obtain ⟨v,k1,k2⟩:=Q40 (W:=W) hsz.2
    exact ⟨[v],Q4o ⟨k1,k2,rfl⟩⟩
   ·simp only [if_true] at hmm
    subst hmm
    rw [hsz.1] at hi
    obtain ⟨v,k1,k2⟩:=Q4y (t:=0) (e:=0) (n:=0) (m:=0) h3 hsz.2 hl hm λi hi'=>by
     obtain ⟨cs',c1,c2⟩:=hi i (by omega)
     obtain ⟨vs,c3⟩:=Q4p n e l' h1 q _ _ c2
     exact ⟨cs',vs,c1,c3⟩
    exact ⟨[v],Q4o ⟨k1,k2,rfl⟩⟩
  ·simp at h
inductive AT where
 |one (c:CT)
 |agg (l:List CT)
def okA:AT->V->Prop
 |.one c,v=>okC c v
 |.agg l,v=>∃vs,v=.agg vs/\okCL l vs
def okAL:List AT->List V->Prop
 |[],vs=>vs=[]
 |c::cs,vs=>∃v l,vs=v::l/\okA c v/\okAL cs l
def atOf (P:Program) (n:Nat) (t:TypeId):Option AT:=
 (cts P n t).bind λl=>match P.underlying t with
  |some (.struct _)|some (.array _ _)=>some (.agg l)
  |
   _=>match l with
   |[c]=>some (.one c)
   |_=>none
def Q4f (P:Program) (n:Nat):List TypeId->Option (List AT)
 |[]=>some []
 |t::ts=>(atOf P n t).bind λx=>(Q4f P n ts).map (x :: ·)
theorem Q42 {n:Nat} {t:TypeId} {q:AT} (hq:atOf P n t=some q) {base:Nat} {v:Value} {d:DataW H} {ps:List MemPlace} (hval:Value.okWide P W .any base t v) (h:DataW.Trod enc P W 0 (λ_=>true) true t v d ps) :
  ∃x,okA q x/\Rep0 noO W v x:=by
 obtain ⟨l,h1,h2⟩:=Option.bind_eq_some_iff.1 hq
 obtain ⟨fuel,hf⟩:=h
 obtain ⟨vs,hv⟩:=Q4p n t l h1 fuel _ _ hf
 have aggCase:(∃cs,v=.agg cs)->∃x,okA (.agg l) x/\Rep0 noO W v x:=by
  rintro ⟨cs,rfl⟩
  have hc:(Value.agg cs).cells.toList=cs.toList:=rfl
  rw [hc] at hv
  refine ⟨.agg vs,⟨vs,rfl,Q4q hv⟩,.agg cs vs (by have:=hv.1;have:=hv.2.1;simp at *;omega) (λj hj=>?_) (λj hj=>?_)⟩ <;>
  ·have hj1:j<cs.size:=by have:=hv.1;have:=hv.2.1;simp at *;omega
   have:=hv.2.2 j (l[j]'(by have:=hv.2.1;omega)) cs[j] vs[j] (by simp) (by simp [hj1]) (by simp)
   have e:cs.getD j Go.undef=cs[j]:=by simp [Array.getD,hj1]
   rw [e]
   first|exact this.2.2|exact this.2.1
 split at h2
 ·rename_i fs ht
  simp at h2;subst h2
  obtain ⟨cs,rfl,_⟩:=okWide_struct ht hval
  exact aggCase ⟨cs,rfl⟩
 ·rename_i m e ht
  simp at h2;subst h2
  unfold Value.okWide at hval
  rw [ht] at hval
  obtain ⟨cs,rfl,_⟩:=hval
  exact aggCase ⟨cs,rfl⟩
 ·rename_i hns hna
  split at h2
  case h_2=>simp at h2
  rename_i c
  simp at h2;subst h2
  obtain ⟨a1,a2,a3⟩:=hv
  match vs,a2 with
  |
   [x],_=>
   have hcells:v.cells = #[v]:=by
    cases v with
    |
     agg cs=>
     exfalso
     unfold Value.okWide at hval
     cases n with
     |zero=>simp [cts] at h1
     |
      succ n=>
      unfold cts at h1
      split at h1<;>rename_i ht
      ·rw [ht] at hval;simp [Cell.okWide,Cell.ok,ht] at hval
      ·rw [ht] at hval;simp [Cell.okWide,Cell.ok,ht] at hval
      ·rw [ht] at hval;simp [Cell.okWide,Cell.ok,ht] at hval
      ·exact hns _ ht
      ·exact hna _ _ ht
      ·rw [ht] at hval;simp [Cell.okWide,Cell.ok,ht] at hval
      ·simp at h1
    |_=>rfl
   rw [hcells] at a3
   have:=a3 0 c v x rfl rfl rfl
   exact ⟨x,this.1,this.2.1⟩
theorem Q4x {n:Nat}:∀{ts:List TypeId} {qs:List AT} {args:List Value} {ds:List (DataW H)} {ps:List MemPlace} {base:Nat},Q4f P n ts=some qs->DataW.TrodAll enc P W 0 (λ_=>true) true ts args ds ps ->
  (∀(j:Nat) t v,ts[j]? = some t->args[j]? = some v->Value.okWide P W .any base t v) ->
  ∃vs,args.length=vs.length/\okAL qs vs/\∀j (h:j<vs.length),Rep0 noO W (args.getD j Go.undef) vs[j]
 |
  [],qs,args,ds,ps,base,hq,h,_=>by
  simp [Q4f] at hq;subst hq
  obtain ⟨rfl,rfl,rfl⟩:=trodAll_nil h
  exact ⟨[],rfl,rfl,λj h=>by simp at h⟩
 |
  t::ts,qs,args,ds,ps,base,hq,h,hval=>by
  simp only [Q4f,Option.bind_eq_some_iff,Option.map_eq_some_iff] at hq
  obtain ⟨q,hq1,qs',hq2,rfl⟩:=hq
  obtain ⟨v,vs,d,ds',p,p',rfl,rfl,rfl,h1,h2⟩:=trodAll_cons h
  obtain ⟨x,k1,k2⟩:=Q42 hq1 (hval 0 t v rfl rfl) h1
  obtain ⟨xs,l1,l2,l3⟩:=Q4x hq2 h2 λj t v a b=>hval (j+1) t v (by simpa using a) (by simpa using b)
  refine ⟨x::xs,by simp [l1],⟨x,xs,rfl,k1,l2⟩,λj hj=>?_⟩
  cases j with
  |zero=>exact k2
  |succ j=>simpa using l3 j (by simpa using hj)
theorem Q41 {ts:List TypeId} (hl:laidOutB P=true) (hr:ts.all (λt=>P.readableRec t&&decide (t<P.types.size))=true) {W':World} (hb:Below W.heap.size W W') {sp:Nat->Bool} :
  ∀
   {vs:List Value} {ds:List (DataW H)} {ps:List MemPlace},DataW.TrodAll enc P W 0 (λ_=>true) true ts vs ds ps->(∀x∈ps,x.block<W.heap.size)->(∀x∈ps,sp x.block=true) ->
   DataW.TrodAll enc P W' 0 sp true ts vs ds ps:=by
 induction ts with
 |
  nil=>
  intro vs ds ps h _ _
  obtain ⟨rfl,rfl,rfl⟩:=trodAll_nil h
  exact trodAll_mk0
 |
  cons t ts ih=>
  intro vs ds ps h hlt hsp
  obtain ⟨v,vs',d,ds',p,p',rfl,rfl,rfl,h1,h2⟩:=trodAll_cons h
  simp only [List.all_cons,Bool.and_eq_true,decide_eq_true_eq] at hr
  exact trodAll_cons_mk (WideElems.Trod_stays hl hr.1.1 hr.1.2 h1 (λx hx=>hb.same (hlt x (by simp [hx]))) (λx hx=>hsp x (by simp [hx])))
   (ih hr.2 h2 (λx hx=>hlt x (by simp [hx])) (λx hx=>hsp x (by simp [hx])))
theorem Q4z {f:Func} {s:ChangeSpec} {apart fresh handsOn again:Bool} {W W':World} {args:Array Value} {v:Value} {ds gs:List (DataW H)} {before pa pv:List MemPlace}
  (hW:DataW.Whole enc P f.params.toList s.vars apart W args.toList ds gs before)
  (hres:∀(b:Nat) (sp:Nat->Bool) (hd:Bool),DataW.TrodAll enc P W' b sp hd f.resultTypes.toList (v.resultList f.resultTypes.size) (s.fn H (ds++gs)).results [])
  (hargs:∀sp:Nat->Bool,(∀p∈before,sp p.block=true)->DataW.TrodAll enc P W' 0 sp true f.params.toList args.toList (s.fn H (ds++gs)).args pa)
  (hvars:∀sp:Nat->Bool,(∀p∈before,sp p.block=true)->DataW.TrodVars enc P W' sp s.vars (s.fn H (ds++gs)).vars pv)
  (hps:before=pa++pv) (hb:Below W.heap.size W W')
  (hok:∀(j:Nat) (t:TypeId) (r:Value),f.resultTypes[j]? = some t->(v.resultList f.resultTypes.size)[j]? = some r->Value.okWide P W' .any 0 t r) :
  s.post enc P f apart fresh handsOn again W args v W':=by
 have hlt:∀p∈before,p.block<W.heap.size:=λp hp=>hW.lt p hp
 have hold:∀p∈before,(λb=>decide (b<W.heap.size)) p.block=true:=λp hp=>by simpa using hlt p hp
 refine ⟨ds,gs,before,[],pa,pv,hW,hres _ _ _,hargs _ hold,hvars _ hold,World.keptBut_mono (λp hp=>⟨hp,?_⟩) (hb.frame (·∈before)),λ_=>?_⟩
 ·rw [hps,List.mem_append] at hp
  exact Or.inr hp
 ·obtain ⟨_,_,_,_,_,hz,hn⟩:=hW
  refine ⟨hok,_,_,([]++pa)++pv,⟨[]++pa,pv,trodAll_append (hargs _ (λ_ _=>rfl)) (hres _ _ _),hvars _ (λ_ _=>rfl),rfl,?_,?_⟩,?_⟩
  ·intro b off hp
   have hin:MemPlace.cell b off∈before:=by rw [hps];simpa using hp
   rw [hb.frozen (hlt _ hin)]
   exact hz b off hin
  ·intro ha
   have:=hn ha
   rw [hps] at this
   simpa using this
  ·intro p hp _
   rw [hps]
   simpa using hp
theorem Q4h {g:Nat} {f:Func} {c:Code} (hf:FunOK P g f c) {s:ChangeSpec} {n:Nat} {qs:List AT} {tb:TypeId} (hl:laidOutB P=true) (hr:f.params.toList.all (λt=>P.readableRec t&&decide (t<P.types.size))=true)
  (hq:Q4f P n f.params.toList=some qs) (hres:f.resultTypes = #[tb]) (htb:P.underlying tb=some .bool) (hv:s.vars=[])
  (hs:∀ds:List (DataW H),ds.length=f.params.toList.length->s.fn H ds={results:=[.lit (.bool true)],args:=ds})
  (plain:∀vs,okAL qs vs->∃p r,SoundC P g vs p/\p.m=some r/\p.enc r=.bool true)
  (W:World) (base:Nat) (args:Array Value) (ds gs:List (DataW H)) (before:List MemPlace)
  (hval:∀(j:Nat) t v,f.params[j]? = some t->args[j]? = some v->Value.okWide P W .any base t v)
  (hW:DataW.Whole enc P f.params.toList s.vars false W args.toList ds gs before) :
  Calls P g args W λe W'=>∃v,e=.returned v/\s.post enc P f false true false false W args v W':=by
 have hW':=hW
 have hlt:∀p∈before,p.block<W.heap.size:=λp hp=>hW.lt p hp
 obtain ⟨p,q,hA,hV,rfl,hfz,hnd⟩:=hW
 have hA:DataW.TrodAll enc P W 0 (λ_=>true) true f.params.toList args.toList ds p:=hA
 rw [hv] at hV
 obtain ⟨rfl,rfl⟩:=trodVars_none hV
 obtain ⟨vs,h1,h2,h3⟩:=Q4x hq hA λj t v a b=>hval j t v (by simpa using a) (by simpa using b)
 obtain ⟨pk,r,hsound,hm,he⟩:=plain vs h2
 have hcall:=hsound noO W args r hm (by simpa using h1) (λj hj=>by
  have h4:=h3 j hj
  have:args.getD j Go.undef=args.toList.getD j Go.undef:=by
   have hj':j<args.size:=by rw [<-Array.length_toList,h1];exact hj
   simp [Array.getD,List.getD,hj']
  rwa [this]) (λb h=>h.elim)
 unfold CallR at hcall
 rw [hf.enters] at hcall
 have hlen:∀{ts:List TypeId} {vs:List Value} {ds:List (DataW H)} {ps:List MemPlace},DataW.TrodAll enc P W 0 (λ_=>true) true ts vs ds ps->ds.length=ts.length:=by
  intro ts
  induction ts with
  |nil=>intro vs ds ps h;obtain ⟨_,rfl,_⟩:=trodAll_nil h;rfl
  |cons t ts ih=>intro vs ds ps h;obtain ⟨_,_,_,_,_,_,_,rfl,_,_,h2⟩:=trodAll_cons h;simp [ih h2]
 refine hcall.mono λe W' h=>?_
 cases e with
 |
  returned cv=>
  obtain ⟨hg,hrep⟩:=h
  rw [he] at hrep
  obtain rfl:cv=.bool true:=by
   cases hrep
   ·rfl
   ·rename_i hf _;cases hf
  have hb:Below W.heap.size W W':=⟨hg.os,hg.tape,hg.output,hg.size,λk hk=>hg.block k hk (by simp)⟩
  have hfn:=hs ds (hlen hA)
  refine ⟨_,rfl,Q4z (pa:=p) (pv:=[]) hW' ?_ ?_ ?_ rfl hb ?_⟩
  ·intro b sp hd
   rw [List.append_nil,hfn,hres]
   exact trodAll_cons_mk (shut_bool htb _) trodAll_mk0
  ·intro sp hsp
   rw [List.append_nil,hfn]
   exact Q41 hl hr hb hA (λx hx=>hlt x (by simp [hx])) (λx hx=>hsp x (by simp [hx]))
  ·intro sp hsp
   rw [List.append_nil,hfn,hv]
   rfl
  ·exact ok_one hres rfl (okWide_bool_mk htb _)
 |_=>exact h.elim
end
end
end Go.Proofs.YtgjncgiekniniaaGreatDoor.A
end
section
namespace Go.Proofs.YtgjncgiekniniaaGreatDoor.A
open Go
theorem own:ownKnob Tryz.prog.godebug=none:=by kernel_rfl
theorem laidOut:laidOutB Tryz.prog=true:=by kernel_rfl
theorem rowed:mapsRowed Tryz.prog=true:=by kernel_rfl
theorem Q4j:(Tryz.prog.stops == [])=true:=by kernel_rfl
theorem Q4l:(Tryz.prog.stopKnobs == [])=true:=by kernel_rfl
theorem Q4g:Tryz.prog.stopsHeard=true:=by kernel_rfl
theorem Q4k:Tryz.prog.mayEnter=true:=by kernel_rfl
theorem Q4m:false=Tryz.prog.looks []:=by kernel_rfl
theorem main:Tryz.pinned.checked.prog.mainIs=some (true,("d4ffbc68b08c28ac251f33799dbb1d7e972ab3df77886f5ed4ce34a153cf9881":String).toList):=by kernel_rfl
noncomputable def relay (l:List Int):Obj->Obj
 |.cells _ t fz=>.cells (l.map λn=>Value.int .u8 n).toArray t fz
 |o=>o
noncomputable def accept:List Int:=[128,191,160,191,128,159,144,191,128,143,0,0,0,0,0,0,0,0,0,0,0,0,0,0,0,0,0,0,0,0,0,0]
noncomputable def Q4e (os:Os):World:=
 let w:=World.holding Tryz.prog os ⟨#[],#[],[]⟩
 {w with heap:=(w.heap.modify 3 (relay (Go.Pinned.utf8FirstZ.map Int.ofNat))).modify 4 (relay accept)}
theorem Qs {n:Int} (h:(Lit.int .u8 n).wf=true):0<=n/\n<256:=by
 simp [Lit.wf,IntKind.min,IntKind.max,IntKind.signed,IntKind.bits] at h;omega
def addM (y m d k:Int):Int×Int×Int:=(((12*y+m-1)+k)/12,((12*y+m-1)+k)%12+1,min d (dDays (((12*y+m-1)+k)/12) (((12*y+m-1)+k)%12+1)))
theorem Qpm (a b:Int):(if a<b then a else b)=min b a:=by omega
theorem month_Add {y m d k:Int}:z90.F y m d k=some (if right y m d/\okM y m k then ((addM y m d k).1,(addM y m d k).2.1,(addM y m d k).2.2,0) else (0,0,0,11)):=by
 unfold z90.F
 rw [date_Check]
 simp only [Zb]
 by_cases h:right y m d
 ·have hg:=Q3 h
  rw [if_pos h]
  simp only [decide_true,Zn,Zc]
  by_cases h1:k < -119988
  ·rw [bif_t h1,if_neg (by omega)]
  ·rw [Qa h1]
   by_cases h2:k>119988
   ·rw [bif_t h2,if_neg (by omega)]
   ·rw [Qa h2]
    unfold z90.j2 z90.j3
    rw [Qc (n:=12*y) (by omega) (by omega),Qc (n:=12*y+m) (by omega) (by omega),Qc (n:=12*y+m-1) (by omega) (by omega),Qc (n:=12*y+m-1+k) (by omega) (by omega)]
    by_cases h3:12*y+m-1+k<12
    ·rw [bif_t h3,if_neg (by omega)]
    ·rw [Qa h3,Yd (by omega),Qc (n:=(12*y+m-1+k)/12) (by omega) (by omega)]
     by_cases h4:(12*y+m-1+k)/12>9999
     ·rw [bif_t h4,if_neg (by omega)]
     ·rw [Qa h4,Yk (by omega),Qc (n:=(12*y+m-1+k)%12+1) (by omega) (by omega),date_Days,if_pos (by exact ⟨h,by omega⟩)]
      simp only [Zb,Qpm]
      rfl
 ·rw [if_neg h,if_neg (λhh=>h hh.1)];rfl
theorem terms_Word (k:Int):∃w,z78.F k=some w/\decide (w=[])=decide (¬(0<=k/\k<=2)):=by
 unfold z78.F
 by_cases h:k<0
 ·rw [bif_t h];exact ⟨_,rfl,by simp;omega⟩
 ·rw [Qa h]
  by_cases h':k>=3
  ·rw [bif_t h'];exact ⟨_,rfl,by simp;omega⟩
  ·rw [Qa h']
   have:k=0\/k=1\/k=2:=by omega
   rcases this with rfl|rfl|rfl<;>exact ⟨_,rfl,rfl⟩
theorem Q0p {e:Int} (h:1<=e) (h5:e≠5):Int.tmod 12 e=0↔Qbo e:=by
 rw [Yk (by decide)]
 by_cases hb:12<e
 ·rw [Int.emod_eq_of_lt (by decide) hb];omega
 ·have:e=1\/e=2\/e=3\/e=4\/e=6\/e=7\/e=8\/e=9\/e=10\/e=11\/e=12:=by omega
  rcases this with rfl|rfl|rfl|rfl|rfl|rfl|rfl|rfl|rfl|rfl|rfl<;>decide
theorem terms_odd (t:Tm):z85.F t.p t.r t.kind t.basis t.mode t.y t.m t.d t.every t.count=some (decide (¬kindsOK t)):=by
 obtain ⟨w1,e1,d1⟩:=terms_Word t.kind
 obtain ⟨w2,e2,d2⟩:=Qmd t.basis
 obtain ⟨w3,e3,d3⟩:=Qjh t.mode
 unfold z85.F
 rw [e1]
 simp only [Zb]
 rw [d1]
 by_cases h1:0<=t.kind/\t.kind<=2
 ·rw [Qa (λhh=>hh h1),e2]
  simp only [Zb]
  rw [d2]
  by_cases h2:0<=t.basis/\t.basis<=2
  ·rw [Qa (λhh=>hh h2),e3]
   simp only [Zb]
   rw [d3]
   by_cases h3:0<=t.mode/\t.mode<=4
   ·rw [Qa (λhh=>hh h3)]
    by_cases h4:t.every<1
    ·rw [bif_t h4];congr 1;symm;exact Zt (by omega)
    ·rw [Qa h4]
     by_cases h5:t.every=5
     ·rw [bif_t h5];congr 1;symm;exact Zt (by omega)
     ·rw [Qa h5,if_neg (by omega)]
      congr 1
      have:=Q0p (e:=t.every) (by omega) h5
      rw [<-decide_not]
      exact decide_eq_decide.2 (by omega)
   ·rw [bif_t h3];congr 1;symm;exact Zt (by omega)
  ·rw [bif_t h2];congr 1;symm;exact Zt (by omega)
 ·rw [bif_t h1];congr 1;symm;exact Zt (by omega)
theorem terms_Check (t:Tm):z91.F t.p t.r t.kind t.basis t.mode t.y t.m t.d t.every t.count=some (mCheck t):=by
 unfold z91.F mCheck
 rw [terms_Money]
 simp only [Zb]
 by_cases h1:(mMoney t.p).2=0
 ·rw [Zt h1,if_neg (by omega)]
  simp only [Zn,Zc]
  rw [W0]
  simp only [Zb]
  by_cases h2:(mMoney t.p).1=0
  ·rw [bif_t (Yt.2 h2),if_pos h2]
  ·rw [Qa (λh=>h2 (Yt.1 h)),if_neg h2,terms_Rate]
   simp only [Zb]
   by_cases h3:(mRate t.r).2=0
   ·rw [Zt h3,if_neg (by omega)]
    simp only [Zn,Zc]
    rw [terms_odd]
    simp only [Zb]
    by_cases h4:kindsOK t
    ·rw [Qa (λhh=>hh h4),if_neg (λhh=>hh h4)]
     by_cases h5:t.count<1
     ·rw [bif_t h5,if_pos (.inl h5)]
     ·rw [Qa h5]
      by_cases h6:t.count>1200
      ·rw [bif_t h6,if_pos (.inr h6)]
      ·have hb:=Qe5 (e:=t.every) (c:=t.count) h4.2.2.2 (by omega)
       rw [Qa h6,if_neg (by omega),Qc (by omega) (by omega),month_Add]
       simp only [Zb]
       by_cases h7:right t.y t.m t.d/\okM t.y t.m (t.every*t.count)
       ·rw [if_pos h7,if_pos h7]
       ·rw [if_neg h7,if_neg h7]
    ·rw [bif_t h4,if_pos h4]
   ·rw [Zf h3,if_pos h3];rfl
 ·rw [Zf h1,if_pos h1];rfl
theorem Js {a b:Int} (ha:0<=a) (hb:0<b):Int.tmod a b=a%b/\0<=a%b/\a%b<b:=⟨Yk ha,Int.emod_nonneg a (by omega),Int.emod_lt_of_pos a hb⟩
def pv (x:D3×D3):List V:=[.int .i64 x.1.1,.int .i64 x.1.2.1,.int .i64 x.1.2.2,.int .i64 x.2.1,.int .i64 x.2.2.1,.int .i64 x.2.2.2]
def Qet:Tm:=⟨[],[],0,0,0,0,0,0,0,0⟩
theorem Qe8:mCheck Qet=5:=by decide +kernel
def qtxt (q:Rat):List UInt8:=if q.den=1 then itxt q.num else itxt q.num++[47]++txt q.den
theorem Qs6 (z:Int):(itxt z).length<=sz z.natAbs+2:=by
 have:=Qc9 z.natAbs
 unfold itxt;split
 ·simp only [List.length_cons];omega
 ·omega
theorem Qmr {q:Rat} (hn:sz q.num.natAbs<=100000000) (hd:sz q.den<=100000000):z136.F (fr q).1 (fr q).2.1 (fr q).2.2=some (qtxt q):=by
 have h1:=Qs6 q.num
 have h2:=Qc9 q.den
 show z136.F (lb q.num.natAbs) (neg q.num) (lb (q.den-1))=_
 have hp:=q.den_pos
 unfold z136.F qtxt
 rw [Wy,W4 hn]
 simp only [Zb]
 by_cases h:q.den=1
 ·rw [bif_t (by omega),if_pos h]
 ·rw [Qa (by omega),if_neg h,if_pos (by simp only [List.length_singleton];omega),Yy q _ _ (by omega)]
  simp only [Zb]
  rw [digits_Print hd]
  simp only [Zb]
  rw [if_pos (by simp only [List.length_append,List.length_singleton];omega)]
def w0:List UInt8:=[97,110,110,117,105,116,121]
def wIdx (s:List UInt8):Int:=if s=w0 then 0 else if s=w1 then 1 else if s=w2 then 2 else -1
theorem Q17 (s:List UInt8):z137.F [w0,w1,w2] s=some (wIdx s):=by
 have step:∀(i:Nat) (w:List UInt8),([w0,w1,w2]:List (List UInt8))[i]? = some w->∀rec:Int->Option (Int⊕Int),z137.l0P [w0,w1,w2] s 3 rec some (i:Int)=if s=w then some (.inr (i:Int)) else rec ((i+1:Nat):Int):=λi w hw rec=>by
  have hi:i<3:=by
   rcases Nat.lt_or_ge i 3 with h|h
   ·exact h
   ·rw [List.getElem?_eq_none (by simpa using h)] at hw;simp at hw
  unfold z137.l0P
  rw [bif_t (by omega),if_pos (by simp;omega),Zi,Zl,hw]
  simp only [Option.getD_some]
  rw [Qc (by omega) (by omega)]
  by_cases h:s=w
  ·rw [bif_t h,if_pos h]
  ·rw [Qa h,if_neg h];rfl
 have hend:∀rec:Int->Option (Int⊕Int),z137.l0P [w0,w1,w2] s 3 rec some 3=some (.inl 3):=λrec=>by
  unfold z137.l0P
  rw [Qa (by omega)]
 have key:∃o,z137.l0 [w0,w1,w2] s 3 0=some o/\(match o with | .inl _=>(-1:Int) | .inr q=>q)=wIdx s:=by
  unfold wIdx
  by_cases h0:s=w0
  ·exact ⟨.inr 0,(Runs.done λrec=>by have:=step 0 w0 rfl rec;rw [if_pos h0] at this;exact this:Runs (λrec x=>z137.l0P [w0,w1,w2] s 3 rec some x) 0 _).lfp,by rw [if_pos h0]⟩
  ·by_cases h1:s=w1
   ·exact ⟨.inr 1,(Runs.step (y:=1) (λrec=>by have:=step 0 w0 rfl rec;rw [if_neg h0] at this;exact this) (Runs.done λrec=>by have:=step 1 w1 rfl rec;rw [if_pos h1] at this;exact this):Runs (λrec x=>z137.l0P [w0,w1,w2] s 3 rec some x) 0 _).lfp,by rw [if_neg h0,if_pos h1]⟩
   ·by_cases h2:s=w2
    ·exact ⟨.inr 2,(Runs.step (y:=1) (λrec=>by have:=step 0 w0 rfl rec;rw [if_neg h0] at this;exact this) (Runs.step (y:=2) (λrec=>by have:=step 1 w1 rfl rec;rw [if_neg h1] at this;exact this) (Runs.done λrec=>by have:=step 2 w2 rfl rec;rw [if_pos h2] at this;exact this)):Runs (λrec x=>z137.l0P [w0,w1,w2] s 3 rec some x) 0 _).lfp,by rw [if_neg h0,if_neg h1,if_pos h2]⟩
    ·exact ⟨.inl 3,(Runs.step (y:=1) (λrec=>by have:=step 0 w0 rfl rec;rw [if_neg h0] at this;exact this) (Runs.step (y:=2) (λrec=>by have:=step 1 w1 rfl rec;rw [if_neg h1] at this;exact this) (Runs.step (y:=3) (λrec=>by have:=step 2 w2 rfl rec;rw [if_neg h2] at this;exact this) (Runs.done hend))):Runs (λrec x=>z137.l0P [w0,w1,w2] s 3 rec some x) 0 _).lfp,by rw [if_neg h0,if_neg h1,if_neg h2]⟩
 obtain ⟨o,h1,h2⟩:=key
 unfold z137.F
 show ((z137.l0 [w0,w1,w2] s 3 0).bind _)=_
 rw [h1]
 simp only [Zb]
 rw [<-h2]
 cases o<;>rfl
theorem terms_Of (s:List UInt8):z138.F s=some ((if (0:Int)>wIdx s then (0:Int) else wIdx s),decide (wIdx s>=0)):=by
 unfold z138.F
 show ((z137.F [w0,w1,w2] s).bind _)=_
 rw [Q17]
 rfl
def t12:Tm:=⟨[49,48,48],[53],0,0,0,2024,1,1,1,12⟩
theorem Qz4:mCheck t12=0:=by decide +kernel
theorem Qpg:mRate [52,46,50,53]=(mkRat 17 400,0):=by decide +kernel
theorem Qwu:(mRate [49,48,48,48,46,49]).2=18:=by decide +kernel
theorem Qyh:(mMoney [45,49]).2=19:=by decide +kernel
theorem Qk4 {n:Nat} (h0:10<=n) (h:n<100):txt n=[ch ((n/10:Nat):Int),ch ((n%10:Nat):Int)]:=by
 unfold txt
 rw [if_neg (by omega),Wg b10 (by omega),Wg b10 (by omega),Nat.div_eq_of_lt (by omega:n/10<10),toB_zero,Nat.mod_eq_of_lt (by omega:n/10<10)];rfl
theorem Qwq {n:Nat} (h0:100<=n) (h:n<1000):txt n=[ch ((n/10/10:Nat):Int),ch ((n/10%10:Nat):Int),ch ((n%10:Nat):Int)]:=by
 unfold txt
 rw [if_neg (by omega),Wg b10 (by omega),Wg b10 (by omega),Wg b10 (by omega),Nat.div_eq_of_lt (by omega:n/10/10<10),toB_zero,Nat.mod_eq_of_lt (by omega:n/10/10<10)];rfl
theorem q425:qtxt (mkRat 17 400)=[49,55,47,52,48,48]:=by
 have e1:(mkRat 17 400).num=17:=by decide +kernel
 have e2:(mkRat 17 400).den=400:=by decide +kernel
 unfold qtxt itxt
 rw [e1,e2,if_neg (by decide),if_neg (by decide),show Int.natAbs 17=17 from rfl,Qk4 (by decide) (by decide),Qwq (by decide) (by decide)]
 rfl
theorem Qtj:z139.F=some true:=by
 have r1:=terms_Rate [52,46,50,53]
 have r2:=terms_Rate [49,48,48,48,46,49]
 have r3:=terms_Money [45,49]
 have r4:=terms_Of w1
 have r6:=terms_Check t12
 have r7:=terms_Check Qet
 rw [Qz4] at r6
 rw [Qe8] at r7
 rw [Qpg] at r1
 rw [Qwu] at r2
 rw [Qyh] at r3
 have hz:=Qhj [52,46,50,53]
 rw [Qpg] at hz
 have r5:=Qmr (q:=mkRat 17 400) (Nat.le_trans hz.1 (by decide)) (Nat.le_trans hz.2 (by decide))
 rw [q425] at r5
 unfold t12 at r6
 unfold Qet at r7
 simp only at r6 r7
 unfold z139.F
 rw [r1]
 simp only [Zb]
 rw [r2]
 simp only [Zb]
 rw [r3]
 simp only [Zb]
 rw [show ([108,105,110,101,97,114]:List UInt8)=w1 from rfl,r4]
 simp only [Zb]
 rw [r5]
 simp only [Zb,decide_true,Zd]
 rw [r6]
 simp only [Zb,decide_true,Zd]
 rw [r7]
 rfl
theorem Qy4:∀(k:Fin 40) (d:Fin 9),(mMoney (UInt8.ofNat (49+d.1)::List.replicate k.1 48)).2=if k.1<30\/k.1=30/\d.1=0 then 0 else 19:=by decide +kernel
theorem Qts:∀b:Fin 20,(mRate ([57,57,57,46]++List.replicate b.1 57)).2=if b.1=0 then 5 else if b.1<=12 then 0 else 18:=by decide +kernel
theorem Q1w:(mRate [48]).2=0:=by decide +kernel
theorem Qmy {s:List UInt8} {n:Nat} (hn:n<=1000) (hs:s.length<=1000):∀(f i:Nat),i+f=n->Runs (λrec x=>z142.l0P (n:Int) rec some x) (s++List.replicate i 48,(i:Int)) (s++List.replicate n 48,(n:Int))
 |
  0,i,h=>by
  have:i=n:=by omega
  subst this
  refine .done λrec=>?_
  unfold z142.l0P
  simp only
  rw [Qa (by omega)]
 |
  f+1,i,h=>by
  refine .step (λrec=>?_) (Qmy hn hs f (i+1) (by omega))
  unfold z142.l0P
  simp only
  rw [bif_t (by omega),if_pos (by simp only [List.length_append,List.length_replicate,List.length_singleton];omega),Qc (by omega) (by omega),List.append_assoc,<-List.replicate_succ']
  rfl
theorem Qrx {s:List UInt8} {n:Nat} (hn:n<=1000) (hs:s.length<=1000):∀(f i:Nat),i+f=n->Runs (λrec x=>z142.l2P (n:Int) rec some x) (s++List.replicate i 57,(i:Int)) (s++List.replicate n 57,(n:Int))
 |
  0,i,h=>by
  have:i=n:=by omega
  subst this
  refine .done λrec=>?_
  unfold z142.l2P
  simp only
  rw [Qa (by omega)]
 |
  f+1,i,h=>by
  refine .step (λrec=>?_) (Qrx hn hs f (i+1) (by omega))
  unfold z142.l2P
  simp only
  rw [bif_t (by omega),if_pos (by simp only [List.length_append,List.length_replicate,List.length_singleton];omega),Qc (by omega) (by omega),List.append_assoc,<-List.replicate_succ']
  rfl
theorem Qnd {r:List UInt8} {m:List Int×Bool×Int} {good:Bool} {a1:Int} (hm:m.2.2=if good then 0 else 19) (hb:wr .i64 (Int.tmod a1 20)=Int.tmod a1 20) (hr:(mRate r).2=if Int.tmod a1 20<=12 then 0 else 18):z142.j5 r m good a1=some true:=by
 unfold z142.j5
 rw [terms_Rate]
 simp only [Zb]
 rw [Qtj]
 simp only [Zb,Zd]
 rw [hb,hr,hm]
 by_cases h:Int.tmod a1 20<=12
 ·rw [if_pos h,Zt h]
  cases good<;>rfl
 ·rw [if_neg h,Zf h]
  cases good<;>rfl
theorem Q2l {a0 a1 a2:Int} (h0:(Lit.int .u8 a0).wf=true) (h1:(Lit.int .u8 a1).wf=true) (h2:(Lit.int .u8 a2).wf=true):z142.F a0 a1 a2=some true:=by
 have w0:=Qs h0;have w1:=Qs h1;have w2:=Qs h2
 obtain ⟨e0,p0,q0⟩:=Js (a:=a0) (b:=40) (by omega) (by omega)
 obtain ⟨e1,p1,q1⟩:=Js (a:=a1) (b:=20) (by omega) (by omega)
 obtain ⟨e2,p2,q2⟩:=Js (a:=a2) (b:=9) (by omega) (by omega)
 obtain ⟨k,hk⟩:∃k:Nat,a0%40=k:=⟨(a0%40).toNat,by omega⟩
 obtain ⟨b,hb⟩:∃b:Nat,a1%20=b:=⟨(a1%20).toNat,by omega⟩
 obtain ⟨d,hd⟩:∃d:Nat,a2%9=d:=⟨(a2%9).toNat,by omega⟩
 have hbw:wr .i64 (Int.tmod a1 20)=Int.tmod a1 20:=by rw [e1,Qc (by omega) (by omega)]
 have hm:=Qy4 ⟨k,by omega⟩ ⟨d,by omega⟩
 simp only at hm
 have hj3:∀(good:Bool) (m:List Int×Bool×Int),(m.2.2=if good then 0 else 19)->z142.j3 a1 m good=some true:=λgood m hg=>by
  unfold z142.j3
  rw [hbw]
  by_cases hb0:Int.tmod a1 20>0
  ·have hl:=(Qrx (s:=[57,57,57,46]) (n:=b) (by omega) (by decide) b 0 (by omega)).lfp
   have hl':z142.l2 (Int.tmod a1 20) ([57,57,57,46],0)=some ([57,57,57,46]++List.replicate b 57,(b:Int)):=by rw [e1,hb];exact hl
   rw [bif_t hb0,hl']
   simp only [Zb]
   refine Qnd hg hbw ?_
   have:=Qts ⟨b,by omega⟩
   simp only at this
   rw [this,if_neg (by omega),e1,hb]
   by_cases hh:b<=12
   ·rw [if_pos hh,if_pos (by omega)]
   ·rw [if_neg hh,if_neg (by omega)]
  ·rw [Qa hb0]
   exact Qnd hg hbw (by rw [Q1w,if_pos (by omega)])
 unfold z142.F
 have ek:wr .i64 (Int.tmod a0 40)=(k:Int):=by rw [e0,hk,Qc (by omega) (by omega)]
 have ek1:wr .i64 (1+(k:Int))=1+(k:Int):=Qc (by omega) (by omega)
 have ek2:wr .i64 (1+(k:Int)-1)=(k:Int):=by rw [Qc (by omega) (by omega)];omega
 have ed:wr .u8 (49+Int.tmod a2 9)=((49+d:Nat):Int):=by rw [e2,hd,Qgd (by omega) (by omega)];omega
 rw [ek,ek1,ek2,ed]
 have hl:=(Qmy (s:=[UInt8.ofNat (49+d)]) (n:=k) (by omega) (by simp) k 0 (by omega)).lfp
 have hl':z142.l0 (k:Int) (([((49+d:Nat):Int)].map λn=>UInt8.ofNat n.toNat),0)=some ([UInt8.ofNat (49+d)]++List.replicate k 48,(k:Int)):=hl
 rw [hl']
 simp only [Zb]
 rw [terms_Money]
 simp only [Zb]
 have hm':(mMoney ([UInt8.ofNat (49+d)]++List.replicate k 48)).2=if k<30\/k=30/\d=0 then 0 else 19:=hm
 by_cases c1:k<30
 ·rw [bif_t (by omega)]
  exact hj3 true _ (by rw [show (mMoney ([UInt8.ofNat (49+d)]++List.replicate k 48)).2=0 by rw [hm',if_pos (.inl c1)]];rfl)
 ·rw [Qa (by omega)]
  by_cases c2:k=30
  ·rw [bif_t (by omega)]
   refine hj3 _ _ ?_
   rw [show (mMoney ([UInt8.ofNat (49+d)]++List.replicate k 48)).2=if d=0 then 0 else 19 by
    rw [hm']
    by_cases hd0:d=0
    ·rw [if_pos (.inr ⟨c2,hd0⟩),if_pos hd0]
    ·rw [if_neg (by omega),if_neg hd0]]
   by_cases hd0:d=0
   ·rw [if_pos hd0,Zt (by omega)];rfl
   ·rw [if_neg hd0,Zf (by omega)];rfl
  ·rw [Qa (by omega)]
   exact hj3 false _ (by rw [show (mMoney ([UInt8.ofNat (49+d)]++List.replicate k 48)).2=19 by rw [hm',if_neg (by omega)]];rfl)
end Go.Proofs.YtgjncgiekniniaaGreatDoor.A
end
section
set_option linter.unusedVariables false
namespace Go.Proofs.YtgjncgiekniniaaGreatDoor.A
open Go
namespace TermsBounds
theorem law (a0:Int) (a1:Int) (a2:Int) (h0:(Lit.int .u8 a0).wf=true) (h1:(Lit.int .u8 a1).wf=true) (h2:(Lit.int .u8 a2).wf=true):z142.F a0 a1 a2=some true:=
 Q2l h0 h1 h2
end TermsBounds
end Go.Proofs.YtgjncgiekniniaaGreatDoor.A
end
section
set_option maxRecDepth 100000
namespace Go.Proofs.YtgjncgiekniniaaGreatDoor.A
open Go Go.RowKit Go.ChangeShapes Go.WideShapes Go.ChangeAt
noncomputable section
namespace TermsBounds
theorem wide:Q4f Tryz.prog 8 Tryz.f8.params.toList=some [(.one (.sc (.i .u8))),(.one (.sc (.i .u8))),(.one (.sc (.i .u8)))]:=by kernel_rfl
theorem readable:Tryz.f8.params.toList.all (λt=>Tryz.prog.readableRec t&&decide (t<Tryz.prog.types.size))=true:=by kernel_rfl
noncomputable def args0:Array Value:=#[.int .u8 0,.int .u8 0,.int .u8 0]
theorem laid_met (os:Os):laidMet Tryz.prog Rows.termsBoundsRow.laid ((Q4e os).forCall (λ_ _=>0) ⟨#[],args0,[]⟩).memory:=
 laidMet_of_run' 12 (by kernel_rfl) (by kernel_rfl)
theorem reads (os:Os) {H:Type} (enc:TypeId×Value->H):∃ds places,DataW.whole enc Tryz.prog ((Q4e os).forCall (λ_ _=>0) ⟨#[],args0,[]⟩).memory Tryz.f8.params.toList Rows.termsBoundsSpec.vars false args0.toList 12=some (ds,[],places):=
 ⟨[.lit (.int .u8 0),.lit (.int .u8 0),.lit (.int .u8 0)],[],by kernel_rfl⟩
theorem plainly (vs:List V) (h:okAL [(.one (.sc (.i .u8))),(.one (.sc (.i .u8))),(.one (.sc (.i .u8)))] vs):∃p r,SoundC Tryz.prog 8 vs p/\p.m=some r/\p.enc r=.bool true:=by
 obtain ⟨_,_,rfl,⟨a0,rfl,h0⟩,_,_,rfl,⟨a1,rfl,h1⟩,_,_,rfl,⟨a2,rfl,h2⟩,rfl⟩:=h
 exact ⟨⟨Bool,z142.F a0 a1 a2,z142.enc⟩,true,z142.sound _ _ (by kernel_rfl),law a0 a1 a2 h0 h1 h2,rfl⟩
theorem specFn {H:Type} (ds:List (DataW H)) (h:ds.length=Tryz.f8.params.toList.length):Rows.termsBoundsSpec.fn H ds={results:=[.lit (.bool true)],args:=ds}:=by
 have h:ds.length=3:=h.trans (by kernel_rfl)
 match ds,h with
 |[d0,d1,d2],_=>rfl
theorem clos:Tryz.prog.closure 8=[8,36,76,160,223,260,161,200,250,249,251,253,276,252,255,279,289,277,287,278,288,292,283,290,293,285,284,254,158,222,185,164,227,268,183,99,184,104,91,28,114,195,247,74,90,110,24,100,186,146,212,245,273,187,38,118,198,248,275,286,291,199,201,69,119,202,120,121,203,204,156,122,123,176,92,163,226,162,188,224,261,262,280,225,263,264,265,266,267,281,68,124,157,130,40,46,137,136,41,25,101,189,190,246,274,191,44,133,47,209,228,257,149,214,215,134,142,210,258,259]:=by kernel_rfl
theorem inPlace:(Rows.termsBoundsRow.inPlace == Tryz.prog.inPlace 8)=true:=by unfold Program.inPlace;rw [clos];kernel_rfl
theorem unfollowed:(Rows.termsBoundsRow.unfollowed == Tryz.prog.unfollowed 8)=true:=by unfold Program.unfollowed;rw [clos];kernel_rfl
theorem recurses:(Rows.termsBoundsRow.recurses == Tryz.prog.recurses 8)=true:=by unfold Program.recurses Program.unfollowed;rw [clos];kernel_rfl
theorem named:(Rows.termsBoundsRow.named == Tryz.prog.varsNamed 8)=true:=by unfold Program.varsNamed;rw [clos];kernel_rfl
theorem number:Tryz.prog.funcNamed "chattel/chattellaw14.TermsBounds" = some 8:=by kernel_rfl
theorem goes:false=Rows.termsBoundsRow.goesBy Tryz.prog:=by
 have h:Tryz.prog.goes 8=false:=by unfold Program.goes Program.unfollowed;rw [clos];kernel_rfl
 have e:Rows.termsBoundsRow.goesBy Tryz.prog=((Tryz.prog.funcNamed "chattel/chattellaw14.TermsBounds").any Tryz.prog.goes||false):=by kernel_rfl
 rw [e,number]
 simp [h]
theorem j_wf:Rows.termsBoundsRow.wf (OpenSpec.ofChange (OpenSpec.ofChange Rows.termsBoundsSpec).bare)=true:=by kernel_rfl
theorem j_params:(Tryz.f8.params.all (Tryz.pinned.checked.prog.readableRec ·))=true:=by kernel_rfl
theorem j_vars:namedTie Tryz.pinned.checked.prog Rows.termsBoundsRow.named (OpenSpec.ofChange Rows.termsBoundsSpec).bare.vars=true:=by kernel_rfl
theorem j_stops:(Rows.termsBoundsRow.stops == [])=true:=by kernel_rfl
theorem j_knobs:(Rows.termsBoundsRow.knobs == [])=true:=by kernel_rfl
theorem j_maps:(Rows.termsBoundsRow.maps == (Tryz.f8.params.toList++DataSpec.varTypes Tryz.pinned.checked.prog (OpenSpec.ofChange Rows.termsBoundsSpec).bare.plain).any (Tryz.pinned.checked.prog.mapsRec ·))=true:=by kernel_rfl
theorem j_ifaces:(Rows.termsBoundsRow.ifaces == (Tryz.f8.params.toList++DataSpec.varTypes Tryz.pinned.checked.prog (OpenSpec.ofChange Rows.termsBoundsSpec).bare.plain).any (Tryz.pinned.checked.prog.ifacesRec ·))=true:=by kernel_rfl
theorem j_mapsOut:(Rows.termsBoundsRow.mapsOut == Tryz.pinned.checked.prog.mapsAmong Tryz.f8.resultTypes.toList)=true:=by kernel_rfl
theorem j_loops:(Rows.termsBoundsRow.loops == (Tryz.f8.params.toList++DataSpec.varTypes Tryz.pinned.checked.prog (OpenSpec.ofChange Rows.termsBoundsSpec).bare.plain).any (Tryz.pinned.checked.prog.loopsFrom ·))=true:=by kernel_rfl
theorem j_wideKeys:(Rows.termsBoundsRow.wideKeys == (Tryz.f8.params.toList++DataSpec.varTypes Tryz.pinned.checked.prog (OpenSpec.ofChange Rows.termsBoundsSpec).bare.plain++Tryz.f8.resultTypes.toList).any (Tryz.pinned.checked.prog.wideKeysFrom ·))=true:=by kernel_rfl
theorem j_varsRead:(OpenSpec.ofChange Rows.termsBoundsSpec).bare.vars.all (Tryz.pinned.checked.prog.varReadable ·)=true:=by kernel_rfl
theorem j_results:(Tryz.f8.resultTypes.all λt=>Tryz.pinned.checked.prog.readableRec t&&decide (t<Tryz.pinned.checked.prog.types.size))=true:=by kernel_rfl
theorem j_ifacesOut:(Rows.termsBoundsRow.ifacesOut == Tryz.f8.resultTypes.toList.any (Tryz.pinned.checked.prog.ifacesRec ·))=true:=by kernel_rfl
theorem j_loopsOut:(Rows.termsBoundsRow.loopsOut == Tryz.f8.resultTypes.toList.any (Tryz.pinned.checked.prog.loopsFrom ·))=true:=by kernel_rfl
theorem j_plainKeys:(Rows.termsBoundsRow.plainKeys == Tryz.pinned.checked.prog.plainKeys)=true:=by kernel_rfl
theorem j_short:Rows.termsBoundsRow.shortTexts.isNone=true:=by kernel_rfl
theorem j_lift:(Rows.termsBoundsRow.lifted == Tryz.pinned.checked.prog.liftsFinal)=true:=by kernel_rfl
theorem j_make:(Tryz.pinned.checked.prog.make == some Rows.termsBoundsRow.make)=true:=by kernel_rfl
theorem j_kinds:(Rows.termsBoundsRow.kinds == (if Rows.termsBoundsRow.domain.isEmpty then [] else Tryz.f8.params.toList.map λt=>match Tryz.pinned.checked.prog.underlying t with|some (.int k)=>some k|_=>none))=true:=by kernel_rfl
theorem j_pinned:(Rows.termsBoundsRow.pinned == Rows.termsBoundsRow.pinnedBy)=true:=by kernel_rfl
theorem j_veiled:(Rows.termsBoundsRow.veiled == (Tryz.f8.params.toList++DataSpec.varTypes Tryz.pinned.checked.prog (OpenSpec.ofChange Rows.termsBoundsSpec).bare.plain++Tryz.f8.resultTypes.toList).any (Tryz.pinned.checked.prog.veiledRec ·))=true:=by kernel_rfl
theorem j_veiledFits:Rows.termsBoundsRow.veiledFits Tryz.pinned.checked.prog Tryz.f8.params.toList (Tryz.f8.params.toList++DataSpec.varTypes Tryz.pinned.checked.prog (OpenSpec.ofChange Rows.termsBoundsSpec).bare.plain++Tryz.f8.resultTypes.toList)=true:=by kernel_rfl
theorem joined:joinedFacts Tryz.pinned.checked.prog 8 Tryz.f8 (OpenSpec.ofChange Rows.termsBoundsSpec).bare Rows.termsBoundsRow=true:=by
 unfold joinedFacts
 simp only [Bool.and_eq_true]
 and_intros
 ·exact j_wf
 ·exact laidOut
 ·exact rowed
 ·exact j_params
 ·exact j_vars
 ·exact j_stops
 ·exact Q4j
 ·exact j_knobs
 ·exact Q4l
 ·exact inPlace
 ·exact unfollowed
 ·exact recurses
 ·exact named
 ·exact j_maps
 ·exact j_ifaces
 ·exact j_mapsOut
 ·exact j_loops
 ·exact j_wideKeys
 ·exact j_varsRead
 ·exact j_results
 ·exact j_ifacesOut
 ·exact j_loopsOut
 ·exact j_plainKeys
 ·exact j_short
 ·exact Q4g
 ·exact Q4k
 ·exact j_lift
 ·exact j_make
 ·exact j_kinds
 ·exact j_pinned
 ·exact j_veiled
 ·exact j_veiledFits
theorem lifted (os:Os) (started:os.Started) (H:Type) (enc:TypeId×Value->H) (F:Stop.Interp) :
  ReturnsInHanded {} Tryz.checked os 8 .any ((OpenSpec.ofChange Rows.termsBoundsSpec).preRow enc Tryz.prog Tryz.f8 Rows.termsBoundsRow.domain false Rows.termsBoundsRow.laid) (((OpenSpec.ofChange Rows.termsBoundsSpec).at F).post enc Tryz.prog Tryz.f8 false true false false):=by
 obtain ⟨ds0,places,hx⟩:=reads os enc
 refine returnsInHanded_of_row (C:=Tryz.checked) (s:=OpenSpec.ofChange Rows.termsBoundsSpec) own started (by kernel_rfl) Tryz.func8
  (witness_row_at (enc:=enc) (C:=Tryz.checked) false (Q4e os) args0 rfl (by kernel_rfl) (by kernel_rfl) (by kernel_rfl)
   (OpenSpec.preRow_of_cond 12 hx (by kernel_rfl) (λk hk=>by cases hk) (by kernel_rfl) (laid_met os))) ?_
 intro W base args ds gs before hval hW _ _ _ hL _ _
 exact Q4h fun8 laidOut readable wide (tb:=4) (by kernel_rfl) (by kernel_rfl) rfl specFn plainly W base args ds gs before hval hW
theorem wrapped:Tryz.f8.isWrapper Tryz.pinned.checked.prog Rows.termsBoundsRow.wrapper Rows.termsBoundsRow.mainSum:=by
 unfold Func.isWrapper;first|(rw [if_pos (by decide +kernel)];kernel_rfl)|(rw [if_neg (by decide +kernel)];exact ⟨rfl,rfl⟩)
theorem origin:Tryz.f8.isInstance Tryz.pinned.checked.prog Rows.termsBoundsRow.origin Rows.termsBoundsRow.targs:=of_decide_eq_true (by kernel_rfl)
theorem said:Rows.TermsBoundsSaid:=
 OpenClaim.holds_of_cond 8 Tryz.f8 rfl rfl rfl rfl rfl rfl rfl ⟨rfl,rfl,rfl,rfl,rfl⟩ rfl rfl rfl rfl rfl number Tryz.func8 joined origin wrapped
  (λos started H enc _ F=>by rw [OpenClaim.pre_eq_preRow];exact lifted os started H enc F)
theorem plainRow (f:FuncId) (fn:Func) (hf:Tryz.pinned.checked.prog.funcNamed "chattel/chattellaw14.TermsBounds" = some f) (hfn:Tryz.pinned.checked.prog.funcs[f]? = some fn) :
  false=Tryz.pinned.checked.prog.looks []/\∀(j:Nat) t,fn.params[j]? = some t->Tryz.pinned.checked.prog.wantsStandIn t=false:=by
 obtain rfl:f=8:=Option.some.inj (number.symm.trans hf) |>.symm
 obtain rfl:fn=Tryz.f8:=(Option.some.inj (Tryz.func8.symm.trans hfn)).symm
 refine ⟨Q4m,λj t ht=>?_⟩
 have hall:Tryz.f8.params.toList.all (λt=>!Tryz.prog.wantsStandIn t)=true:=by kernel_rfl
 have:=List.all_eq_true.1 hall t (by simpa using Array.mem_of_getElem? ht)
 exact Bool.not_eq_true' _ |>.mp this
theorem card:Rows.TermsBoundsCardSaid:=
 Claim7.holds_tied_plain_at .later [] _ _ _ _ said (λ_ h=>by cases h) (by kernel_rfl) (λ_ h=>by cases h) termsBounds_row_tie rfl ⟨rfl,rfl⟩ main rfl plainRow goes
end TermsBounds
end
end Go.Proofs.YtgjncgiekniniaaGreatDoor.A
end
