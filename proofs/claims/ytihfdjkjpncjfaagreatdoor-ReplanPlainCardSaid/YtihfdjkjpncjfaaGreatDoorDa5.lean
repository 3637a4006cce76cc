/- Part 5 of the proof of ReplanPlain.card. -/
import Derived.Test.YtihfdjkjpncjfaaGreatDoorDa4
import Derived.Deep.DeepHandedRow
import Derived.Lib.LaidTab
set_option linter.unusedVariables false
set_option linter.unusedSimpArgs false
section
namespace Go.Proofs.YtihfdjkjpncjfaaGreatDoor.A
open Go
def s24:Tm:=⟨[49,48,48,48,48,48],[48],1,0,2,2024,1,1,1,2⟩
def e24a:Evt:=⟨1,2024,1,9,[53,48,48,48,48]⟩
def e24b:Evt:=⟨1,2024,1,9,[49,48,48,48,48,49]⟩
def r24a:Rw:=⟨(2024,2,1),50000,0,25000,25000,25000⟩
def r24b:Rw:=⟨(2024,3,1),25000,0,25000,25000,0⟩
theorem Qju:mCheck s24=0:=by decide +kernel
theorem Qws:mBuildR s24 [e24a]=([r24a,r24b],0,0):=by decide +kernel
theorem Qtk:mBuildR s24 [e24b]=([],0,16):=by decide +kernel
theorem Qtx:Yz s24 100 [48] 4=25:=by decide +kernel
theorem Qrq:z134.F=some true:=by
 have e0:z133.F=some (s24.p,s24.r,s24.kind,s24.basis,s24.mode,s24.y,s24.m,s24.d,s24.every,s24.count):=rfl
 have e1:=Qdk Qju (by decide) (es:=[e24a]) (by decide) (by decide)
 rw [Qws] at e1
 have e2:=Qdk Qju (by decide) (es:=[e24b]) (by decide) (by decide)
 rw [Qtk] at e2
 have sz100:sz (Int.natAbs 100)<=100:=Z11 (sz_le (show Int.natAbs 100<10^3 by decide)) (by decide)
 have e3:=Qee Qju (z:=100) (by decide) sz100 (r:=[48]) (by decide +kernel) (n:=4) (by decide)
 rw [Qtx] at e3
 have e4:z26.F 100=some (lb (Int.natAbs 100),neg 100):=whole_From (by decide)
 have t25:itxt 25=[50,53]:=by decide +kernel
 have t25000:itxt 25000=[50,53,48,48,48]:=by decide +kernel
 have e5:z83.F (lb (Int.natAbs 25)) (neg 25)=some [50,53]:=by
  have h:=W3 (z:=25) (Z11 (sz_le (show Int.natAbs 25<10^2 by decide)) (by decide))
  rw [t25] at h;exact h
 have g0:(([r24a,r24b].map rwv).getD 0 [])=rwv r24a:=rfl
 have g1:(([r24a,r24b].map rwv).getD 1 [])=rwv r24b:=rfl
 unfold z134.F
 rw [e0,Zb]
 refine (congrArg (λo=>Option.bind o _) e1).trans ?_
 rw [Zb,Zb]
 refine (congrArg (λo=>Option.bind o _) e2).trans ?_
 rw [Zb,Zb,e4,Zb]
 refine (congrArg (λo=>Option.bind o _) e3).trans ?_
 rw [Zb]
 simp only
 rw [show ((([r24a,r24b].map rwv).length:Nat):Int)=2 from rfl,g0,g1]
 simp only [asW0,asW1,asW2,asW3,asW4,asW5,asW6,asW7]
 rw [show r24a.b=25000 from rfl,show r24b.b=25000 from rfl,t25000]
 simp only [decide_true,Zd]
 rw [if_pos (by decide),if_pos (by decide)]
 rw [e5,Zb]
 rfl
theorem Qqv {t t':Tm} (hb:t'.basis=t.basis) (hm:t'.mode=t.mode) {p:D3×D3} (h1:rightD p.1) (h2:rightD p.2) (h:numD p.1<numD p.2) {z:Int} (hz:0<=z/\z<=10^30):Q2 t' p.2 [⟨p.1,p.2,itxt z,t.r⟩]=intN t z p.1 p.2:=by
 unfold Q2 intN
 rw [hb,hm]
 congr 1
 have hmo:(mMoney (itxt z)).1=z:=by
  have e:itxt z=txt z.natAbs:=by unfold itxt;rw [if_neg (by omega)]
  have e10:(10:Int)^30=1000000000000000000000000000000:=by decide
  have e2:(10:Nat)^30=1000000000000000000000000000000:=by decide
  rw [e,Qf8 (by omega)]
  show ((z.natAbs:Nat):Int)=z
  omega
 have hmin:minD p.2 p.2=p.2:=by unfold minD;split<;>rfl
 unfold exL
 rw [if_neg (by rw [Yk h1 h2,Qcx];show ¬numD p.2<=numD p.1;omega)]
 unfold exL term intX
 simp only
 rw [hmo,hmin,Rat.zero_add]
theorem Qwq {kind one z n:Int} (last:Bool) (h1:0<=one) (hz:0<=z):Wd kind one z n last=if last then z else Yb kind one z n:=by
 unfold Wd Yb less
 cases last with
 |true=>simp
 |
  false=>
  simp only [Z24,false_or,if_false]
  by_cases hk:kind=0
  ·rw [if_pos hk,if_pos hk]
   split<;>split<;>(try split)<;>omega
  ·rw [if_neg hk,if_neg hk]
   split<;>split<;>(try split)<;>omega
def okSt (ps:List (D3×D3)):Prop:=∀p∈ps,rightD p.1/\rightD p.2/\numD p.1<numD p.2
theorem Qk4 {t t':Tm} (hb:t'.basis=t.basis) (hm:t'.mode=t.mode) (hk:t'.kind=t.kind) {p:D3×D3} (hp:rightD p.1/\rightD p.2/\numD p.1<numD p.2) {s:Ls} (hs:LsOK s) (hr:s.r=t.r) (last:Bool) :
  dueR t' p.2 [⟨p.1,p.2,itxt s.z,s.r⟩] last s=mRow t s.one s.z p last:=by
 unfold dueR mRow
 simp only
 rw [hr,Qqv hb hm hp.1 hp.2.1 hp.2.2 hs.z,hk,Qwq last hs.one.1 hs.z.1]
theorem Qja {t t':Tm} (hb:t'.basis=t.basis) (hm:t'.mode=t.mode) (hk:t'.kind=t.kind):∀(ps:List (D3×D3)) (s:Ls) (dn:Nat) (rows:List Rw),okSt ps->LsOK s->s.r=t.r->mPers t' ps [] s dn rows=(rows++Y1 t s.one s.z ps,0,0)
 |
  [],s,dn,rows,_,_,_=>by
  have e:Y1 t s.one s.z []=[]:=rfl
  rw [e,Z39];rfl
 |
  p::ps,s,dn,rows,ho,hs,hr=>by
  have hrow:=Qk4 hb hm hk (ho p (by simp)) hs hr (decide (ps=[]))
  have ih:=Qja hb hm hk ps (afterR t' p.2 [⟨p.1,p.2,itxt s.z,s.r⟩] (decide (ps=[])) s) dn (rows++[dueR t' p.2 [⟨p.1,p.2,itxt s.z,s.r⟩] (decide (ps=[])) s]) (λq h=>ho q (by simp [h])) (afterR_ok hs) hr
  show mPers t' ps [] (afterR t' p.2 [⟨p.1,p.2,itxt s.z,s.r⟩] (decide (ps=[])) s) dn (rows++[dueR t' p.2 [⟨p.1,p.2,itxt s.z,s.r⟩] (decide (ps=[])) s])=_
  rw [ih]
  have hz:(afterR t' p.2 [⟨p.1,p.2,itxt s.z,s.r⟩] (decide (ps=[])) s).z=(mRow t s.one s.z p (decide (ps=[]))).c:=congrArg Rw.c hrow
  rw [hz,hrow,Z90]
  rfl
theorem Qmv {t:Tm} (h:mCheck t=0):okSt t.periods:=λp hp=>by
 have d:=Qh7 h
 have h0:=Qgr h p hp
 refine ⟨h0.1,h0.2.1,?_⟩
 obtain ⟨i,hi,rfl⟩:=Z76 hp
 have hl:t.periods.length=t.dates.length:=Qc7 t.start t.dates
 have hi':i<t.dates.length:=by omega
 have e:t.periods[i]=((if h0:i=0 then t.start else t.dates[i-1]'(by omega)),t.dates[i]):=Qg0 t.start t.dates i hi hi'
 rw [e]
 by_cases c:i=0
 ·simp only [c,dif_pos]
  exact d.first 0 (by omega)
 ·rw [dif_neg c]
  exact d.lt (i-1) i (by omega) hi' (by omega)
theorem Qu5 {t:Tm} (h:mCheck t=0) (hc:t.count<=30):mBuildR t []=(mBuild t,0,0):=by
 rw [Qih rfl rfl,Qja rfl rfl rfl t.periods (firstR t) 0 [] (Qmv h) (Qgk h hc) rfl]
 rfl
theorem Qns {t:Tm} {r':J1} (h:mCheck t=0) (h':mCheck {t with r:=r'}=0) (hc:t.count<=30):mBuildR {t with r:=r'} [⟨2,t.y,t.m,t.d,t.r⟩]=(mBuild t,0,0):=by
 obtain ⟨i1,i2,_,_,i5,_⟩:=(mCheck_iff t).1 h
 have d:=Qh7 h
 have hlen:=Qfz t
 obtain ⟨_,hcc,hst,_⟩:=Yo h
 have hl:t.periods.length=t.dates.length:=Qc7 t.start t.dates
 have hchk:(mChk 0 0 0 0 [(⟨2,t.y,t.m,t.d,t.r⟩:Evt)]).2=0:=by
  have:eErr 0 0 0 (⟨2,t.y,t.m,t.d,t.r⟩:Evt)=0:=by
   unfold eErr mVal
   simp only
   rw [if_neg (by decide),if_neg (λhh=>hh i5),if_neg (Qv4 i5),if_neg (by decide),if_pos (by decide),i2]
  unfold mChk
  rw [if_neg (λhh=>hh this)];rfl
 have hpos:0<t.periods.length:=by omega
 have hlast:lastD {t with r:=r'}=t.dates[t.dates.length-1]:=by
  show lastD t=_
  rw [Qox hpos]
  have e:=Qg0 t.start t.dates (t.periods.length-1) (by show t.periods.length-1<t.periods.length;omega) (by omega)
  have e2:t.periods[t.periods.length-1]=(pairs t.start t.dates)[t.periods.length-1]'(by show t.periods.length-1<t.periods.length;omega):=rfl
  rw [e2,e]
  simp only [hl]
 have hsd:∀x:D3,rightD x->numD t.start<numD x->¬cmpD t.start x>=0:=λx hx hn=>by
  rw [Yk d.start hx,Qcx];omega
 have hself:¬cmpD t.start t.start<0:=by rw [Yk d.start d.start,We];omega
 have hwr:(mWrong {t with r:=r'} (lastD {t with r:=r'}) 0 [(⟨2,t.y,t.m,t.d,t.r⟩:Evt)]).2=0:=by
  rw [hlast]
  unfold mWrong
  rw [if_neg (by simp)]
  show (if cmpD t.start t.start<0 then ((0:Nat),(12:Int)) else if cmpD t.start t.dates[t.dates.length-1]>=0 then (0,17) else mWrong _ _ (0+1) []).2=0
  rw [if_neg hself,if_neg (hsd _ (d.right _ (by omega)) (d.first _ (by omega)))]
  rfl
 rw [Qih hchk hwr]
 have hps:∃p ps,t.periods=p::ps:=by
  cases hq:t.periods with
  |nil=>rw [hq] at hpos;simp at hpos
  |cons p ps=>exact ⟨p,ps,rfl⟩
 obtain ⟨p,ps,hq⟩:=hps
 have hch:Ch t.start t.periods:=Qgm t.start t.dates
 have hokS:=Qmv h
 have hfr:=Qgk h hc
 have hn:ps.length+1=t.count.toNat:=by rw [<-hlen,hq];rfl
 have hper:(Tm.periods {t with r:=r'})=p::ps:=hq
 rw [hper]
 rw [hq] at hch hokS
 have hp1:p.1=t.start:=hch.1
 have hpp:=hokS p (by simp)
 have hfrz:(firstR {t with r:=r'}).z=(firstR t).z:=rfl
 have hev:mEvs {t with r:=r'} p.2 (ps.length+1) [(⟨2,t.y,t.m,t.d,t.r⟩:Evt)] (firstR {t with r:=r'}) [⟨p.1,p.2,itxt (firstR {t with r:=r'}).z,(firstR {t with r:=r'}).r⟩]=(1,some (firstR t,[⟨p.1,p.2,itxt (firstR t).z,(firstR t).r⟩])):=by
  unfold mEvs
  rw [if_neg (show ¬cmpD (Evt.day ⟨2,t.y,t.m,t.d,t.r⟩) p.2>=0 from hsd p.2 hpp.2.1 (by rw [<-hp1];exact hpp.2.2))]
  have hh:mHap {t with r:=r'} (⟨2,t.y,t.m,t.d,t.r⟩:Evt) (firstR {t with r:=r'}) [⟨p.1,p.2,itxt (firstR {t with r:=r'}).z,(firstR {t with r:=r'}).r⟩] (ps.length+1)=some (firstR t,[⟨p.1,p.2,itxt (firstR t).z,(firstR t).r⟩]):=by
   unfold mHap
   rw [if_pos rfl]
   have hm:Ys [(⟨p.1,p.2,itxt (firstR {t with r:=r'}).z,(firstR {t with r:=r'}).r⟩:Lg)] (t.y,t.m,t.d) (itxt (firstR {t with r:=r'}).z) t.r=[⟨p.1,p.2,itxt (firstR t).z,(firstR t).r⟩]:=by
    unfold Ys chg
    exact if_pos hp1
   simp only
   rw [hm,hn]
   rfl
  rw [hh]
  rfl
 have hkey:mPers {t with r:=r'} (p::ps) [(⟨2,t.y,t.m,t.d,t.r⟩:Evt)] (firstR {t with r:=r'}) 0 []=mPers {t with r:=r'} ps [] (afterR {t with r:=r'} p.2 [⟨p.1,p.2,itxt (firstR t).z,(firstR t).r⟩] (decide (ps=[])) (firstR t)) 1 ([]++[dueR {t with r:=r'} p.2 [⟨p.1,p.2,itxt (firstR t).z,(firstR t).r⟩] (decide (ps=[])) (firstR t)]):=by
  rw [mPers,hev]
  rfl
 have hrow:=Qk4 (t:=t) (t':={t with r:=r'}) rfl rfl rfl hpp hfr rfl (decide (ps=[]))
 rw [hkey,Qja (t:=t) (t':={t with r:=r'}) rfl rfl rfl ps _ 1 _ (λq hh=>hokS q (by simp [hh])) (afterR_ok hfr) rfl]
 have hz:(afterR {t with r:=r'} p.2 [⟨p.1,p.2,itxt (firstR t).z,(firstR t).r⟩] (decide (ps=[])) (firstR t)).z=(mRow t (firstR t).one (firstR t).z p (decide (ps=[]))).c:=congrArg Rw.c hrow
 rw [hz,hrow]
 unfold mBuild
 rw [hq]
 rfl
theorem Qrk {t:Tm} {most:Int} (g:Good t most):t.r.length<=4096:=by
 obtain ⟨n,k,e,h1,h2,h3⟩:=g.rate
 have hd:(txt n).length<=6:=Qcd (Z14 h1 (by decide)) (by decide)
 have pl:=Qio n k
 rw [e]
 unfold decTxt
 rw [Z9,Z10,Z8,Z34]
 omega
theorem Qqc {a0 a1 a2 a3 a4 a5 a6 a7 a8 a9 a10 a11:Int} (h0:(Lit.int .u64 a0).wf=true) (h1:(Lit.int .u16 a1).wf=true) (h2:(Lit.int .u32 a2).wf=true) (h3:(Lit.int .u8 a3).wf=true) (h4:(Lit.int .u8 a4).wf=true) (h5:(Lit.int .u8 a5).wf=true)
  (h6:(Lit.int .u8 a6).wf=true) (h7:(Lit.int .u8 a7).wf=true) (h8:(Lit.int .u8 a8).wf=true):z147.F a0 a1 a2 a3 a4 a5 a6 a7 a8 a9 a10 a11=some true:=by
 obtain ⟨t,g,e⟩:=Qx2 (a9:=a9) (a10:=a10) (a11:=a11) (most:=10) (Qx5 h0) (Qwl h1) (Qst h2) (Qcy h3) (Qcy h4) (Qcy h5) (Qcy h6) (Qcy h7) (Qcy h8) (by decide)
 have hok:=Qtp g (by decide)
 have hc:t.count<=30:=by have:=g.count;omega
 have hrl:=Qrk g
 obtain ⟨i1,i2,i3,i4,i5,i6⟩:=(mCheck_iff t).1 hok
 have hok0:mCheck {t with r:=[48]}=0:=(mCheck_iff _).2 ⟨i1,show (mRate [48]).2=0 by decide +kernel,i3,i4,i5,i6⟩
 have hml:=Qr4 t
 have hv:∀x∈[(⟨2,t.y,t.m,t.d,t.r⟩:Evt)],x.v.length<=4096:=λx hx=>by
  simp only [List.mem_singleton] at hx;subst hx;exact hrl
 have e1:=Qdk hok hc (es:=[]) (by decide) (by simp)
 rw [Qu5 hok hc] at e1
 have e2:=plan_Build hok hc
 have e3:=Qdk hok hc (es:=[⟨2,t.y,t.m,t.d,t.r⟩]) (by simp) hv
 rw [show mBuildR t [⟨2,t.y,t.m,t.d,t.r⟩]=(mBuild t,0,0) from Qns (r':=t.r) hok hok hc] at e3
 have e4:=Qdk (t:={t with r:=[48]}) hok0 hc (es:=[⟨2,t.y,t.m,t.d,t.r⟩]) (by simp) hv
 rw [Qns hok hok0 hc] at e4
 have eq:=Quo (l:=mBuild t) (by omega)
 unfold z147.F
 rw [e,Zb]
 refine (congrArg (λo=>Option.bind o _) e1).trans ?_
 rw [Zb]
 refine (congrArg (λo=>Option.bind o _) e2).trans ?_
 rw [Zb]
 refine (congrArg (λo=>Option.bind o _) e3).trans ?_
 rw [Zb]
 refine (congrArg (λo=>Option.bind o _) e4).trans ?_
 rw [Zb,Qrq,Zb]
 simp only [decide_true,Zd]
 rw [eq]
 rfl
end Go.Proofs.YtihfdjkjpncjfaaGreatDoor.A
end
section
set_option linter.unusedVariables false
namespace Go.Proofs.YtihfdjkjpncjfaaGreatDoor.A
open Go
namespace ReplanPlain
theorem law (a0:Int) (a1:Int) (a2:Int) (a3:Int) (a4:Int) (a5:Int) (a6:Int) (a7:Int) (a8:Int) (a9:Int) (a10:Int) (a11:Int) (h0:(Lit.int .u64 a0).wf=true) (h1:(Lit.int .u16 a1).wf=true) (h2:(Lit.int .u32 a2).wf=true) (h3:(Lit.int .u8 a3).wf=true) (h4:(Lit.int .u8 a4).wf=true) (h5:(Lit.int .u8 a5).wf=true) (h6:(Lit.int .u8 a6).wf=true) (h7:(Lit.int .u8 a7).wf=true) (h8:(Lit.int .u8 a8).wf=true) (h9:(Lit.int .i64 a9).wf=true) (h10:(Lit.int .i64 a10).wf=true) (h11:(Lit.int .i64 a11).wf=true):z147.F a0 a1 a2 a3 a4 a5 a6 a7 a8 a9 a10 a11=some true:=
 Qqc h0 h1 h2 h3 h4 h5 h6 h7 h8
end ReplanPlain
end Go.Proofs.YtihfdjkjpncjfaaGreatDoor.A
end
section
set_option maxRecDepth 100000
namespace Go.Proofs.YtihfdjkjpncjfaaGreatDoor.A
open Go Go.RowKit Go.ChangeShapes Go.WideShapes Go.ChangeAt
noncomputable section
namespace ReplanPlain
theorem wide:Qbv Tryz.prog 8 Tryz.f9.params.toList=some [(.agg [.sc (.i .u64),.sc (.i .u16),.sc (.i .u32),.sc (.i .u8),.sc (.i .u8),.sc (.i .u8),.sc (.i .u8),.sc (.i .u8),.sc (.i .u8),.sc (.i .i64),.sc (.i .i64),.sc (.i .i64)])]:=by kernel_rfl
theorem readable:Tryz.f9.params.toList.all (λt=>Tryz.prog.readableRec t&&decide (t<Tryz.prog.types.size))=true:=by kernel_rfl
noncomputable def args0:Array Value:=#[.agg #[.int .u64 0,.int .u16 0,.int .u32 0,.int .u8 0,.int .u8 0,.int .u8 0,.int .u8 0,.int .u8 0,.int .u8 0,.int .i64 0,.int .i64 0,.int .i64 0]]
theorem laid_met (os:Os):laidMet Tryz.prog Rows.replanPlainRow.laid ((Qjr os).forCall (λ_ _=>0) ⟨#[],args0,[]⟩).memory:=
 laidMet_of_run' 12 (by kernel_rfl) (by kernel_rfl)
theorem reads (os:Os) {H:Type} (enc:TypeId×Value->H):∃ds places,DataW.whole enc Tryz.prog ((Qjr os).forCall (λ_ _=>0) ⟨#[],args0,[]⟩).memory Tryz.f9.params.toList Rows.replanPlainSpec.vars false args0.toList 12=some (ds,[],places):=
 ⟨[.agg [.lit (.int .u64 0),.lit (.int .u16 0),.lit (.int .u32 0),.lit (.int .u8 0),.lit (.int .u8 0),.lit (.int .u8 0),.lit (.int .u8 0),.lit (.int .u8 0),.lit (.int .u8 0),.agg [.lit (.int .i64 0),.lit (.int .i64 0),.lit (.int .i64 0)]]],[],by kernel_rfl⟩
theorem plainly (vs:List V) (h:okAL [(.agg [.sc (.i .u64),.sc (.i .u16),.sc (.i .u32),.sc (.i .u8),.sc (.i .u8),.sc (.i .u8),.sc (.i .u8),.sc (.i .u8),.sc (.i .u8),.sc (.i .i64),.sc (.i .i64),.sc (.i .i64)])] vs):∃p r,SoundC Tryz.prog 9 vs p/\p.m=some r/\p.enc r=.bool true:=by
 obtain ⟨_,_,rfl,⟨_,rfl,_,_,rfl,⟨a0,rfl,h0⟩,_,_,rfl,⟨a1,rfl,h1⟩,_,_,rfl,⟨a2,rfl,h2⟩,_,_,rfl,⟨a3,rfl,h3⟩,_,_,rfl,⟨a4,rfl,h4⟩,_,_,rfl,⟨a5,rfl,h5⟩,_,_,rfl,⟨a6,rfl,h6⟩,_,_,rfl,⟨a7,rfl,h7⟩,_,_,rfl,⟨a8,rfl,h8⟩,_,_,rfl,⟨a9,rfl,h9⟩,_,_,rfl,⟨a10,rfl,h10⟩,_,_,rfl,⟨a11,rfl,h11⟩,rfl⟩,rfl⟩:=h
 exact ⟨⟨Bool,z147.F a0 a1 a2 a3 a4 a5 a6 a7 a8 a9 a10 a11,z7.enc⟩,true,z147.sound _ _ (by kernel_rfl),law a0 a1 a2 a3 a4 a5 a6 a7 a8 a9 a10 a11 h0 h1 h2 h3 h4 h5 h6 h7 h8 h9 h10 h11,rfl⟩
theorem specFn {H:Type} (ds:List (DataW H)) (h:ds.length=Tryz.f9.params.toList.length):Rows.replanPlainSpec.fn H ds={results:=[.lit (.bool true)],args:=ds}:=by
 have h:ds.length=1:=h.trans (by kernel_rfl)
 match ds,h with
 |[d0],_=>rfl
theorem clos:Tryz.prog.closure 9=[9,30,62,133,202,64,111,35,103,112,179,180,14,71,104,25,86,153,198,89,27,92,159,124,93,160,217,216,218,220,295,219,222,296,328,259,315,268,316,261,272,317,332,274,273,221,33,108,107,161,223,297,138,68,139,75,32,16,156,213,293,155,132,81,12,69,140,206,283,207,284,141,184,250,309,329,197,275,318,310,260,37,251,311,252,253,312,313,239,254,255,174,237,243,306,142,143,208,285,286,324,209,287,288,289,290,291,325,172,234,304,235,276,319,333,320,278,334,321,241,335,277,181,183,248,249,211,87,154,148,210,212,292,88,31,105,170,200,171,233,236,238,305,240,173,242,106,90,13,70,144,117,185,256,119,157,42,41,158,214,294,45,116,326,327,336,199,279,280,281,39,114,182,282,322,323,215,61,129,130,131,201,26,91,29]:=by kernel_rfl
theorem inPlace:(Rows.replanPlainRow.inPlace == Tryz.prog.inPlace 9)=true:=by unfold Program.inPlace;rw [clos];kernel_rfl
theorem unfollowed:(Rows.replanPlainRow.unfollowed == Tryz.prog.unfollowed 9)=true:=by unfold Program.unfollowed;rw [clos];kernel_rfl
theorem recurses:(Rows.replanPlainRow.recurses == Tryz.prog.recurses 9)=true:=by unfold Program.recurses Program.unfollowed;rw [clos];kernel_rfl
theorem named:(Rows.replanPlainRow.named == Tryz.prog.varsNamed 9)=true:=by unfold Program.varsNamed;rw [clos];kernel_rfl
theorem number:Tryz.prog.funcNamed "chattel/chattellaw24.ReplanPlain" = some 9:=by kernel_rfl
theorem goes:false=Rows.replanPlainRow.goesBy Tryz.prog:=by
 have h:Tryz.prog.goes 9=false:=by unfold Program.goes Program.unfollowed;rw [clos];kernel_rfl
 have e:Rows.replanPlainRow.goesBy Tryz.prog=((Tryz.prog.funcNamed "chattel/chattellaw24.ReplanPlain").any Tryz.prog.goes||false):=by kernel_rfl
 rw [e,number]
 simp [h]
theorem j_wf:Rows.replanPlainRow.wf (OpenSpec.ofChange (OpenSpec.ofChange Rows.replanPlainSpec).bare)=true:=by kernel_rfl
theorem j_params:(Tryz.f9.params.all (Tryz.pinned.checked.prog.readableRec ·))=true:=by kernel_rfl
theorem j_vars:namedTie Tryz.pinned.checked.prog Rows.replanPlainRow.named (OpenSpec.ofChange Rows.replanPlainSpec).bare.vars=true:=by kernel_rfl
theorem j_stops:(Rows.replanPlainRow.stops == [])=true:=by kernel_rfl
theorem j_knobs:(Rows.replanPlainRow.knobs == [])=true:=by kernel_rfl
theorem j_maps:(Rows.replanPlainRow.maps == (Tryz.f9.params.toList++DataSpec.varTypes Tryz.pinned.checked.prog (OpenSpec.ofChange Rows.replanPlainSpec).bare.plain).any (Tryz.pinned.checked.prog.mapsRec ·))=true:=by kernel_rfl
theorem j_ifaces:(Rows.replanPlainRow.ifaces == (Tryz.f9.params.toList++DataSpec.varTypes Tryz.pinned.checked.prog (OpenSpec.ofChange Rows.replanPlainSpec).bare.plain).any (Tryz.pinned.checked.prog.ifacesRec ·))=true:=by kernel_rfl
theorem j_mapsOut:(Rows.replanPlainRow.mapsOut == Tryz.pinned.checked.prog.mapsAmong Tryz.f9.resultTypes.toList)=true:=by kernel_rfl
theorem j_loops:(Rows.replanPlainRow.loops == (Tryz.f9.params.toList++DataSpec.varTypes Tryz.pinned.checked.prog (OpenSpec.ofChange Rows.replanPlainSpec).bare.plain).any (Tryz.pinned.checked.prog.loopsFrom ·))=true:=by kernel_rfl
theorem j_wideKeys:(Rows.replanPlainRow.wideKeys == (Tryz.f9.params.toList++DataSpec.varTypes Tryz.pinned.checked.prog (OpenSpec.ofChange Rows.replanPlainSpec).bare.plain++Tryz.f9.resultTypes.toList).any (Tryz.pinned.checked.prog.wideKeysFrom ·))=true:=by kernel_rfl
theorem j_varsRead:(OpenSpec.ofChange Rows.replanPlainSpec).bare.vars.all (Tryz.pinned.checked.prog.varReadable ·)=true:=by kernel_rfl
theorem j_results:(Tryz.f9.resultTypes.all λt=>Tryz.pinned.checked.prog.readableRec t&&decide (t<Tryz.pinned.checked.prog.types.size))=true:=by kernel_rfl
theorem j_ifacesOut:(Rows.replanPlainRow.ifacesOut == Tryz.f9.resultTypes.toList.any (Tryz.pinned.checked.prog.ifacesRec ·))=true:=by kernel_rfl
theorem j_loopsOut:(Rows.replanPlainRow.loopsOut == Tryz.f9.resultTypes.toList.any (Tryz.pinned.checked.prog.loopsFrom ·))=true:=by kernel_rfl
theorem j_plainKeys:(Rows.replanPlainRow.plainKeys == Tryz.pinned.checked.prog.plainKeys)=true:=by kernel_rfl
theorem j_short:Rows.replanPlainRow.shortTexts.isNone=true:=by kernel_rfl
theorem j_lift:(Rows.replanPlainRow.lifted == Tryz.pinned.checked.prog.liftsFinal)=true:=by kernel_rfl
theorem j_make:(Tryz.pinned.checked.prog.make == some Rows.replanPlainRow.make)=true:=by kernel_rfl
theorem j_kinds:(Rows.replanPlainRow.kinds == (if Rows.replanPlainRow.domain.isEmpty then [] else Tryz.f9.params.toList.map λt=>match Tryz.pinned.checked.prog.underlying t with|some (.int k)=>some k|_=>none))=true:=by kernel_rfl
theorem j_pinned:(Rows.replanPlainRow.pinned == Rows.replanPlainRow.pinnedBy)=true:=by kernel_rfl
theorem j_veiled:(Rows.replanPlainRow.veiled == (Tryz.f9.params.toList++DataSpec.varTypes Tryz.pinned.checked.prog (OpenSpec.ofChange Rows.replanPlainSpec).bare.plain++Tryz.f9.resultTypes.toList).any (Tryz.pinned.checked.prog.veiledRec ·))=true:=by kernel_rfl
theorem j_veiledFits:Rows.replanPlainRow.veiledFits Tryz.pinned.checked.prog Tryz.f9.params.toList (Tryz.f9.params.toList++DataSpec.varTypes Tryz.pinned.checked.prog (OpenSpec.ofChange Rows.replanPlainSpec).bare.plain++Tryz.f9.resultTypes.toList)=true:=by kernel_rfl
theorem joined:joinedFacts Tryz.pinned.checked.prog 9 Tryz.f9 (OpenSpec.ofChange Rows.replanPlainSpec).bare Rows.replanPlainRow=true:=by
 unfold joinedFacts
 simp only [Z7]
 and_intros
 ·exact j_wf
 ·exact laidOut
 ·exact rowed
 ·exact j_params
 ·exact j_vars
 ·exact j_stops
 ·exact Qql
 ·exact j_knobs
 ·exact Qx9
 ·exact inPlace
 ·exact unfollowed
 ·exact recurses
 ·exact named
 ·exact j_maps
 ·exact j_ifaces
 ·exact j_mapsOut
 ·exact j_loops
 ·exact j_wideKeys
 ·exact j_varsRead
 ·exact j_results
 ·exact j_ifacesOut
 ·exact j_loopsOut
 ·exact j_plainKeys
 ·exact j_short
 ·exact Qr8
 ·exact Qqh
 ·exact j_lift
 ·exact j_make
 ·exact j_kinds
 ·exact j_pinned
 ·exact j_veiled
 ·exact j_veiledFits
theorem lifted (os:Os) (started:os.Started) (H:Type) (enc:TypeId×Value->H) (F:Stop.Interp) :
  ReturnsInHanded {} Tryz.checked os 9 .any ((OpenSpec.ofChange Rows.replanPlainSpec).preRow enc Tryz.prog Tryz.f9 Rows.replanPlainRow.domain false Rows.replanPlainRow.laid) (((OpenSpec.ofChange Rows.replanPlainSpec).at F).post enc Tryz.prog Tryz.f9 false true false false):=by
 obtain ⟨ds0,places,hx⟩:=reads os enc
 refine returnsInHanded_of_row (C:=Tryz.checked) (s:=OpenSpec.ofChange Rows.replanPlainSpec) own started (by kernel_rfl) Tryz.func9
  (witness_row_at (enc:=enc) (C:=Tryz.checked) false (Qjr os) args0 rfl (by kernel_rfl) (by kernel_rfl) (by kernel_rfl)
   (OpenSpec.preRow_of_cond 12 hx (by kernel_rfl) (λk hk=>by cases hk) (by kernel_rfl) (laid_met os))) ?_
 intro W base args ds gs before hval hW _ _ _ hL _ _
 exact Qxf fun9 laidOut readable wide (tb:=4) (by kernel_rfl) (by kernel_rfl) rfl specFn plainly W base args ds gs before hval hW
theorem wrapped:Tryz.f9.isWrapper Tryz.pinned.checked.prog Rows.replanPlainRow.wrapper Rows.replanPlainRow.mainSum:=by
 unfold Func.isWrapper;first|(rw [if_pos (by decide +kernel)];kernel_rfl)|(rw [if_neg (by decide +kernel)];exact ⟨rfl,rfl⟩)
theorem origin:Tryz.f9.isInstance Tryz.pinned.checked.prog Rows.replanPlainRow.origin Rows.replanPlainRow.targs:=of_decide_eq_true (by kernel_rfl)
theorem said:Rows.ReplanPlainSaid:=
 OpenClaim.holds_of_cond 9 Tryz.f9 rfl rfl rfl rfl rfl rfl rfl ⟨rfl,rfl,rfl,rfl,rfl⟩ rfl rfl rfl rfl rfl number Tryz.func9 joined origin wrapped
  (λos started H enc _ F=>by rw [OpenClaim.pre_eq_preRow];exact lifted os started H enc F)
theorem plainRow (f:FuncId) (fn:Func) (hf:Tryz.pinned.checked.prog.funcNamed "chattel/chattellaw24.ReplanPlain" = some f) (hfn:Tryz.pinned.checked.prog.funcs[f]? = some fn) :
  false=Tryz.pinned.checked.prog.looks []/\∀(j:Nat) t,fn.params[j]? = some t->Tryz.pinned.checked.prog.wantsStandIn t=false:=by
 obtain rfl:f=9:=Option.some.inj (number.symm.trans hf) |>.symm
 obtain rfl:fn=Tryz.f9:=(Option.some.inj (Tryz.func9.symm.trans hfn)).symm
 refine ⟨Qs1,λj t ht=>?_⟩
 have hall:Tryz.f9.params.toList.all (λt=>!Tryz.prog.wantsStandIn t)=true:=by kernel_rfl
 have:=Z23.1 hall t (by simpa using Array.mem_of_getElem? ht)
 exact Z77 _ |>.mp this
theorem card:Rows.ReplanPlainCardSaid:=
 Claim7.holds_tied_plain_at .later [] _ _ _ _ said (λ_ h=>by cases h) (by kernel_rfl) (λ_ h=>by cases h) replanPlain_row_tie rfl ⟨rfl,rfl⟩ main rfl plainRow goes
end ReplanPlain
end
end Go.Proofs.YtihfdjkjpncjfaaGreatDoor.A
end
