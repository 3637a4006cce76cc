/- Part 5 of the proof of ReplanWhole.card. -/
import Derived.Test.YtihfdjkjpncjfaaGreatDoorDc4
import Derived.Deep.DeepHandedRow
import Derived.Lib.LaidTab
set_option linter.unusedVariables false
set_option linter.unusedSimpArgs false
section
namespace Go.Proofs.YtihfdjkjpncjfaaGreatDoor.A
open Go
def Y5 (t:Tm) (z:Int) (r:J1) (n:Nat):Int:=if t.kind=0 then payN t.mode z r t.every n else if t.kind=1 then Qje t.mode z n else 0
theorem Qiv {t:Tm} (h:mCheck t=0) {z:Int} (hz:0<=z) (hs:sz z.natAbs<=100) {r:J1} {n:Nat} (hn:1<=n/\n<=30):0<=Y5 t z r n/\sz (Y5 t z r n).natAbs<=10000:=by
 obtain ⟨hk,_,_,_⟩:=Y0 h
 obtain ⟨k1,k2,k3,k4⟩:=Qhh hk
 have he:=Qe3 k4
 have hq:Sq 102 ((z:Int):Rat):=Sq.int (by omega) (by decide)
 unfold Y5
 by_cases c0:t.kind=0
 ·rw [if_pos c0]
  have hb:=Qph r he (n:=n) (by omega)
  refine ⟨Qg0 _ (Qry (Qw3 hz) (Qe2 r he.1) (by omega)),?_⟩
  have:=Qik t.mode (Qo5 (n:=n) hq (Qe2 r he.1) (Qim r he) (by omega) (by decide) hb)
  show sz (rnd t.mode (lvl (z:Rat) (perR r t.every) n)).natAbs<=10000
  omega
 ·rw [if_neg c0]
  by_cases c1:t.kind=1
  ·rw [if_pos c1]
   have sn:sz n<=4:=sz_le (by omega)
   refine ⟨Qg0 _ (divInt_nonneg hz (by omega)),?_⟩
   have:=Qik t.mode (Sq.div (k:=200) (n:=z) (d:=(n:Int)) (by omega) (by omega) (by rw [Z48];omega))
   show sz (rnd t.mode (Rat.divInt z n)).natAbs<=10000
   omega
  ·rw [if_neg c1]
   exact ⟨Z99 _,by show sz 0<=_;rw [Js];omega⟩
theorem Qec {t:Tm} (h:mCheck t=0) {z:Int} (hz:0<=z) (hs:sz z.natAbs<=100) {r:J1} (hr:(mRate r).2=0) {n:Nat} (hn:1<=n/\n<=30) :
  z99.F t.p t.r t.kind t.basis t.mode t.y t.m t.d t.every t.count (lb z.natAbs) (neg z) r (n:Int)=some (lb (Y5 t z r n).natAbs,neg (Y5 t z r n),0):=by
 obtain ⟨hk,_,_,_⟩:=Y0 h
 obtain ⟨k1,k2,k3,k4⟩:=Qhh hk
 have he:=Qe3 k4
 unfold z99.F Y5
 by_cases c0:t.kind=0
 ·rw [if_pos c0,bif_t c0,level_Payment hz (by omega) hr he hn k3,Zb]
 ·rw [if_neg c0,Qb c0]
  by_cases c1:t.kind=1
  ·rw [if_pos c1,bif_t c1,level_Part hz (by omega) (by omega) k3,Zb]
  ·rw [if_neg c1,Qb c1,bif_t (by omega),show Int.natAbs 0=0 from rfl,lb_zero];rfl
def chg (x:Lg) (d:D3) (o r:J1):List Lg:=if x.f=d then [⟨x.f,x.t,o,r⟩] else [⟨x.f,d,x.op,x.rt⟩,⟨d,x.t,o,r⟩]
def Jg:List Lg->D3->J1->J1->List Lg
 |[],_,_,_=>[]
 |[x],d,o,r=>chg x d o r
 |x::y::l,d,o,r=>x::Jg (y::l) d o r
theorem Qf2:∀(i:List Lg) (x:Lg) (d:D3) (o r:J1),Jg (i++[x]) d o r=i++chg x d o r
 |[],_,_,_,_=>rfl
 |[a],x,d,o,r=>rfl
 |
  a::b::i,x,d,o,r=>by
  show a::Jg ((b::i)++[x]) d o r=_
  rw [Qf2 (b::i) x d o r];rfl
theorem Qws (x:Lg) (d:D3) (o r:J1):1<=(chg x d o r).length/\(chg x d o r).length<=2:=by unfold chg;split<;>simp
theorem Qrc {α:Type} (a b:D3) (x y:α):(bif (decide (a.1=b.1)&&(decide (a.2.1=b.2.1)&&decide (a.2.2=b.2.2))) then x else y)=if a=b then x else y:=by
 have:=Qma a b x y
 by_cases h:a=b
 ·subst h;simp
 ·rw [if_neg h] at this ⊢
  cases hb:(decide (a.1=b.1)&&(decide (a.2.1=b.2.1)&&decide (a.2.2=b.2.2)))
  ·rfl
  ·simp only [Z7,decide_eq_true_eq] at hb
   exact absurd (Prod.ext hb.1 (Prod.ext hb.2.1 hb.2.2)) h
theorem Qpv {α:Type} (l:List α) (a b:α):(l++[a]).set l.length b=l++[b]:=by
 rw [List.set_append_right _ _ (Z4 _),Nat.sub_self];rfl
theorem Qmf (l:J2) (a:List V):(l++[a]).getD l.length []=a:=by
 rw [Zl,Z63 (Z4 _),Nat.sub_self];rfl
theorem Qxl (i:List Lg) (x:Lg) (hl:i.length<=20000) (d:D3) (o r:J1):z100.F ((i++[x]).map lgv) d.1 d.2.1 d.2.2 o r=some ((i++chg x d o r).map lgv):=by
 have hlen:((i++[x]).map lgv).length=i.length+1:=by simp
 have hw:wr .i64 (((((i++[x]).map lgv).length:Nat):Int)-1)=(i.length:Int):=by rw [hlen,Qc (by omega) (by omega)];omega
 have hm:(i++[x]).map lgv=i.map lgv++[lgv x]:=by rw [Z71];rfl
 have hil:(i.map lgv).length=i.length:=by simp
 have hg:((i++[x]).map lgv).getD i.length []=lgv x:=by rw [hm,<-hil,Qmf]
 have hset:∀v,((i++[x]).map lgv).set i.length v=i.map lgv++[v]:=λv=>by rw [hm,<-hil,Qpv]
 have hset2:∀u v,(i.map lgv++[u]).set i.length v=i.map lgv++[v]:=λu v=>by rw [<-hil,Qpv]
 have hg2:∀v,(i.map lgv++[v]).getD i.length []=v:=λv=>by rw [<-hil,Qmf]
 unfold z100.F
 rw [hw,if_pos (by rw [hlen];omega),if_pos (by rw [hlen];omega),Zi,if_pos (by rw [hlen];omega),hg,asL0,asL1,asL2]
 rw [Qrc x.f d]
 unfold chg
 by_cases he:x.f=d
 ·rw [if_pos he,if_pos he,if_pos (by rw [hlen];omega),hset,hset2,hg2,if_pos (by rw [Z10,hil];simp),Z71]
  rfl
 ·rw [if_neg he,if_neg he,if_pos (by rw [hlen];omega),asL3,asL4,asL5,if_pos (by rw [hlen];omega),hset,if_pos (by simp only [Z10,hil,Z9,Z54];omega),Z71,Z82]
  rfl
theorem Qp3 {α:Type} {l:List α} (h:l≠[]):∃i x,l=i++[x]:=⟨l.dropLast,l.getLast h,(List.dropLast_concat_getLast h).symm⟩
theorem Qyd {l:List Lg} (hne:l≠[]) (hl:l.length<=20000) (d:D3) (o r:J1):z100.F (l.map lgv) d.1 d.2.1 d.2.2 o r=some ((Jg l d o r).map lgv):=by
 obtain ⟨i,x,rfl⟩:=Qp3 hne
 rw [Qxl i x (by simp at hl;omega),Qf2]
def Jd (b f:D3) (l:List Lg):Prop:=∃i x,l=i++[x]/\mLegs none (i++[x])=0/\x.t=b/\x.f=f
theorem Qpo:∀(i:List Lg) (a:Option D3) (u v:Lg),mLegs a (i++[u])=0->u.t=v.f->mLeg (some v.f) v=0->mLegs a (i++[u,v])=0
 |
  [],a,u,v,h,h2,h3=>by
  simp only [Z107,mLegs] at h ⊢
  by_cases hu:mLeg a u=0
  ·rw [if_neg (λhh=>hh hu),h2,if_neg (λhh=>hh h3)]
  ·rw [if_pos hu] at h;exact absurd h hu
 |
  x::i,a,u,v,h,h2,h3=>by
  simp only [Z111,mLegs] at h ⊢
  by_cases hu:mLeg a x=0
  ·rw [if_neg (λhh=>hh hu)] at h ⊢;exact Qpo i _ u v h h2 h3
  ·rw [if_pos hu] at h;exact absurd h hu
theorem Qjr:∀(i:List Lg) (a:Option D3) (u v:Lg),mLegs a (i++[u])=0->(∀b,mLeg b u=0->mLeg b v=0)->mLegs a (i++[v])=0
 |
  [],a,u,v,h,h2=>by
  simp only [Z107,mLegs] at h ⊢
  by_cases hu:mLeg a u=0
  ·rw [if_neg (λhh=>hh (h2 a hu))]
  ·rw [if_pos hu] at h;exact absurd h hu
 |
  x::i,a,u,v,h,h2=>by
  simp only [Z111,mLegs] at h ⊢
  by_cases hu:mLeg a x=0
  ·rw [if_neg (λhh=>hh hu)] at h ⊢;exact Qjr i _ u v h h2
  ·rw [if_pos hu] at h;exact absurd h hu
theorem Ql6:∀(i:List Lg) (a:Option D3) (u:Lg),mLegs a (i++[u])=0->∃b,mLeg b u=0
 |
  [],a,u,h=>by
  simp only [Z107,mLegs] at h
  by_cases hu:mLeg a u=0
  ·exact ⟨a,hu⟩
  ·rw [if_pos hu] at h;exact absurd h hu
 |
  x::i,a,u,h=>by
  simp only [Z111,mLegs] at h
  by_cases hu:mLeg a x=0
  ·rw [if_neg (λhh=>hh hu)] at h;exact Ql6 i _ u h
  ·rw [if_pos hu] at h;exact absurd h hu
theorem Qfe {a:Option D3} {x:Lg} (h1:rightD x.f) (h2:rightD x.t) (h3:numD x.f<=numD x.t) (h4:∀d,a=some d->x.f=d) (h5:(mMoney x.op).2=0) (h6:(mRate x.rt).2=0):mLeg a x=0:=by
 unfold mLeg
 have hc:¬cmpD x.f x.t>0:=by
  rw [Yy h1 h2];unfold cmpI;split<;>(try split)<;>omega
 have ha:(a.all λd=>decide (x.f=d))=true:=by
  cases a with
  |none=>rfl
  |some d=>simp [h4 d rfl]
 rw [if_neg (λhh=>hh ⟨h1,h2⟩),if_neg (λhh=>hh.elim hc (λe=>by rw [ha] at e;simp at e)),if_neg (λhh=>hh h5),h6]
theorem Jd.change {b f:D3} {l:List Lg} (h:Jd b f l) {d:D3} (hd:rightD d) (h1:numD f<=numD d) (h2:numD d<=numD b) {o r:J1} (ho:(mMoney o).2=0) (hr:(mRate r).2=0) :
  Jd b d (Jg l d o r)/\(Jg l d o r).length<=l.length+1:=by
 obtain ⟨i,x,rfl,hok,hlast,hfrom⟩:=h
 obtain ⟨p,hx⟩:=Ql6 i none x hok
 obtain ⟨x1,x2,x3,x4,x5,x6⟩:=Qdz hx
 rw [Qf2]
 unfold chg
 by_cases he:x.f=d
 ·rw [if_pos he]
  refine ⟨⟨i,⟨x.f,x.t,o,r⟩,rfl,Qjr i none x ⟨x.f,x.t,o,r⟩ hok (λb0 h0=>?_),hlast,he⟩,by simp⟩
  obtain ⟨y1,y2,y3,y4,y5,y6⟩:=Qdz h0
  exact Qfe y1 y2 y3 y4 ho hr
 ·rw [if_neg he]
  have e2:i++[⟨x.f,d,x.op,x.rt⟩,⟨d,x.t,o,r⟩]=(i++[(⟨x.f,d,x.op,x.rt⟩:Lg)])++[⟨d,x.t,o,r⟩]:=by simp
  refine ⟨⟨i++[⟨x.f,d,x.op,x.rt⟩],⟨d,x.t,o,r⟩,e2,?_,hlast,rfl⟩,by simp⟩
  rw [<-e2]
  refine Qpo i none ⟨x.f,d,x.op,x.rt⟩ ⟨d,x.t,o,r⟩ (Qjr i none x _ hok (λb0 h0=>?_)) rfl (Qfe hd x2 (by rw [hlast];exact h2) (λd' e'=>by simpa using e') ho hr)
  obtain ⟨y1,y2,y3,y4,y5,y6⟩:=Qdz h0
  exact Qfe y1 hd (by rw [hfrom];exact h1) y4 y5 y6
theorem Jd.ok {b f:D3} {l:List Lg} (h:Jd b f l):mLegs none l=0:=by
 obtain ⟨i,x,rfl,h,_⟩:=h;exact h
structure Ls where
 z:Int
 r:List UInt8
 one:Int
structure LsOK (s:Ls):Prop where
 z:0<=s.z/\s.z<=10^30
 r:(mRate s.r).2=0
 one:0<=s.one/\sz s.one.natAbs<=10000
def mHap (t:Tm) (e:Evt) (s:Ls) (l:List Lg) (left:Nat):Option (Ls×List Lg):=
 if e.k=2 then some (⟨s.z,e.v,Y5 t s.z e.v left⟩,Jg l (e.y,e.m,e.d) (itxt s.z) e.v)
 else if (mMoney e.v).1>s.z then none
 else some (⟨s.z-(mMoney e.v).1,s.r,Y5 t (s.z-(mMoney e.v).1) s.r left⟩,Jg l (e.y,e.m,e.d) (itxt (s.z-(mMoney e.v).1)) s.r)
theorem Ys {z:Int} (h:0<=z/\z<=10^30):sz z.natAbs<=31:=Qzq h.1 h.2
theorem Qnf {t:Tm} (h:mCheck t=0) {e:Evt} (he:EvtOK e) (hk:e.k=1\/e.k=2) {s:Ls} (hs:LsOK s) {l:List Lg} {left:Nat} (hn:1<=left/\left<=30) {s':Ls} {l':List Lg} (hh:mHap t e s l left=some (s',l')):LsOK s':=by
 unfold mHap at hh
 have hv:=he.v
 unfold mVal at hv
 rcases hk with hk|hk
 ·rw [if_neg (by omega)] at hh
  split at hh
  ·simp at hh
  ·rename_i hm
   simp only [Zs,Z2] at hh
   obtain ⟨rfl,_⟩:=hh
   have hz:=J6 e.v
   have h0:0<=s.z-(mMoney e.v).1/\s.z-(mMoney e.v).1<=10^30:=by have:=hs.z;omega
   have hz':=Ys h0
   have hp:=Qiv h h0.1 (by omega) (r:=s.r) hn
   exact ⟨h0,hs.r,hp⟩
 ·rw [if_pos hk] at hh
  simp only [Zs,Z2] at hh
  obtain ⟨rfl,_⟩:=hh
  have hz':=Ys hs.z
  rw [if_neg (by omega),if_pos hk] at hv
  exact ⟨hs.z,hv,Qiv h hs.z.1 (by omega) hn⟩
theorem Qyo (v:J1):(lb (mMoney v).1.natAbs).length<=40:=by
 have:=Qk (mMoney v).1.natAbs
 have h:=Ys (J6 v)
 omega
theorem Qrh {t:Tm} (h:mCheck t=0) {e:Evt} (he:EvtOK e) (hk:e.k=1\/e.k=2) {s:Ls} (hs:LsOK s) {l:List Lg} (hne:l≠[]) (hl:l.length<=20000) {left:Nat} (hn:1<=left/\left<=30) (rows:J2) :
  z101.F t.p t.r t.kind t.basis t.mode t.y t.m t.d t.every t.count (lb s.z.natAbs) (neg s.z) s.r (lb s.one.natAbs) (neg s.one) rows e.k e.y e.m e.d e.v (l.map lgv) (left:Int) =
  some (match mHap t e s l left with
   |none=>([],16,t.p,t.r,t.kind,t.basis,t.mode,t.y,t.m,t.d,t.every,t.count,lb s.z.natAbs,neg s.z,s.r,lb s.one.natAbs,neg s.one,rows)
   |some (s',l')=>(l'.map lgv,0,t.p,t.r,t.kind,t.basis,t.mode,t.y,t.m,t.d,t.every,t.count,lb s'.z.natAbs,neg s'.z,s'.r,lb s'.one.natAbs,neg s'.one,rows)):=by
 have hv:=he.v
 unfold mVal at hv
 have hz':=Ys hs.z
 have hl1:=Qk s.z.natAbs
 have hch:=λo r=>Qyd hne hl (e.y,e.m,e.d) o r
 unfold z101.F mHap
 rcases hk with hk|hk
 ·have hm:=Qyo e.v
  have hz:=J6 e.v
  rw [Qb (by omega),if_neg (by omega),terms_Money,Zb]
  simp only
  rw [Qdg (by omega),Zb]
  by_cases hc:(mMoney e.v).1>s.z
  ·rw [bif_t (by unfold cmpI;rw [if_neg (by omega),if_neg (by omega)];decide),if_pos hc]
  ·have h0:0<=s.z-(mMoney e.v).1/\s.z-(mMoney e.v).1<=10^30:=by have:=hs.z;omega
   have hz2:=Ys h0
   rw [Qb (by unfold cmpI;split<;>(try split)<;>omega),if_neg hc,Qga (by omega),Zb]
   simp only
   rw [Qec h h0.1 (by omega) hs.r hn,Zb]
   simp only
   rw [Jj (by omega),Zb]
   have:=hch (itxt (s.z-(mMoney e.v).1)) s.r
   simp only at this
   rw [this,Zb]
 ·rw [if_neg (by omega),if_pos hk] at hv
  rw [bif_t hk,if_pos hk,Qec h hs.z.1 (by omega) hv hn,Zb]
  simp only
  rw [Jj (by omega),Zb]
  have:=hch (itxt s.z) e.v
  simp only at this
  rw [this,Zb]
abbrev Evt.day (e:Evt):D3:=(e.y,e.m,e.d)
abbrev bT (t:Tm) (s:Ls):J1×J1×Int×Int×Int×Int×Int×Int×Int×Int×J0×Bool×J1×J0×Bool:=
 (t.p,t.r,t.kind,t.basis,t.mode,t.y,t.m,t.d,t.every,t.count,lb s.z.natAbs,neg s.z,s.r,lb s.one.natAbs,neg s.one)
def mEvs (t:Tm) (tu:D3) (left:Nat):List Evt->Ls->List Lg->Nat×Option (Ls×List Lg)
 |[],s,l=>(0,some (s,l))
 |
  e::es,s,l=>if cmpD e.day tu>=0 then (0,some (s,l)) else
  match mHap t e s l left with
  |none=>(0,none)
  |some x=>((mEvs t tu left es x.1 x.2).1+1,(mEvs t tu left es x.1 x.2).2)
def inK (e:Evt):Prop:=EvtOK e/\(e.k=1\/e.k=2)
def Asc:D3->List Evt->Prop
 |_,[]=>True
 |f,e::es=>numD f<=numD e.day/\Asc e.day es
theorem Qva {t:Tm} (h:mCheck t=0) {e:Evt} (he:inK e) {s:Ls} (hs:LsOK s) {l:List Lg} {left:Nat} {b f:D3} (hl:Jd b f l) (h1:numD f<=numD e.day) (h2:numD e.day<=numD b) {x:Ls×List Lg} (hh:mHap t e s l left=some x) :
  Jd b e.day x.2/\x.2.length<=l.length+1:=by
 have hv:=he.1.v
 have money:∀z:Int,0<=z->z<=10^30->(mMoney (itxt z)).2=0:=λz h0 h30=>by
  have:itxt z=txt z.natAbs:=by unfold itxt;rw [if_neg (by omega)]
  have e:(10:Int)^30=1000000000000000000000000000000:=by decide
  have e2:(10:Nat)^30=1000000000000000000000000000000:=by decide
  rw [this,Qc1 (by omega)]
 unfold mHap at hh
 rcases he.2 with hk|hk
 ·rw [if_neg (by omega)] at hh
  split at hh
  ·simp at hh
  ·simp only [Zs] at hh
   subst hh
   have hz:=J6 e.v
   have hz2:=hs.z
   exact hl.change he.1.d h1 h2 (money _ (by omega) (by omega)) hs.r
 ·rw [if_pos hk] at hh
  simp only [Zs] at hh
  subst hh
  unfold mVal at hv
  rw [if_neg (by omega),if_pos hk] at hv
  exact hl.change he.1.d h1 h2 (money _ hs.z.1 hs.z.2) hv
theorem Qnx (t:Tm) (tu:D3) (left:Nat):∀(es:List Evt) (s:Ls) (l:List Lg),(mEvs t tu left es s l).1<=es.length
 |[],_,_=>Z4 _
 |
  e::es,s,l=>by
  unfold mEvs
  split
  ·simp
  ·split
   ·simp
   ·rename_i x _
    have:=Qnx t tu left es x.1 x.2
    simp only [Z9];omega
theorem Qhk {t:Tm} (h:mCheck t=0) {b:D3} (hb:rightD b) {left:Nat} (hn:1<=left/\left<=30):∀(es:List Evt) (s:Ls) (l:List Lg) (f:D3),(∀e∈es,inK e)->LsOK s->Jd b f l->Asc f es->∀x,(mEvs t b left es s l).2=some x ->
  LsOK x.1/\(∃f',Jd b f' x.2)/\x.2.length<=l.length+es.length/\Asc b (es.drop (mEvs t b left es s l).1)
 |
  [],s,l,f,hin,hs,hl,ha,x,hx=>by
  simp only [mEvs,Zs] at hx
  subst hx
  exact ⟨hs,⟨f,hl⟩,by simp,trivial⟩
 |
  e::es,s,l,f,hin,hs,hl,ha,x,hx=>by
  have he:=hin e (by simp)
  unfold mEvs at hx ⊢
  by_cases hc:cmpD e.day b>=0
  ·rw [if_pos hc] at hx ⊢
   simp only [Zs] at hx
   subst hx
   refine ⟨hs,⟨f,hl⟩,by simp,?_⟩
   rw [Yy he.1.d hb,Qb7] at hc
   exact ⟨hc,ha.2⟩
  ·rw [if_neg hc] at hx ⊢
   rw [Yy he.1.d hb,Qb7] at hc
   cases hh:mHap t e s l left with
   |none=>rw [hh] at hx;simp at hx
   |
    some y=>
    rw [hh] at hx
    simp only at hx ⊢
    have h1:=Qnf h he.1 he.2 hs hn (s':=y.1) (l':=y.2) hh
    obtain ⟨h2,h3⟩:=Qva h he hs hl ha.1 (by omega) hh
    obtain ⟨g1,g2,g3,g4⟩:=Qhk h hb hn es y.1 y.2 e.day (λe' h'=>hin e' (by simp [h'])) h1 h2 ha.2 x hx
    exact ⟨g1,g2,by simp only [Z9];omega,by simpa using g4⟩
theorem Qpg {t:Tm} (h:mCheck t=0) {L:List Evt} (hL:L.length<=20) (hin:∀e∈L,inK e) {tu:D3} {left:Nat} (hn:1<=left/\left<=30) (rows:J2):∀(f i:Nat) (s:Ls) (l:List Lg),i+f=L.length->LsOK s->l≠[]->l.length<=i+1 ->
  ∃
   o,Runs (λrec x=>z134.l0aP (left:Int) (L.map Evt.r) (L.length:Int) tu.1 tu.2.1 tu.2.2 rec some x) (l.map lgv,(i:Int),(i:Int),rows,bT t s) o /\
   match (mEvs t tu left (L.drop i) s l).2 with
   |some x=>o=.inl (x.2.map lgv,((i+(mEvs t tu left (L.drop i) s l).1:Nat):Int),((i+(mEvs t tu left (L.drop i) s l).1:Nat):Int),rows,bT t x.1)
   |none=>∃s',o=.inr (((i+(mEvs t tu left (L.drop i) s l).1:Nat):Int),16,rows,bT t s')
 |
  0,i,s,l,hf,hs,hne,hl=>by
  have e1:L.drop i=[]:=Z68 (by omega)
  rw [e1]
  refine ⟨_,.done λrec=>?_,rfl⟩
  unfold z134.l0aP
  simp only
  rw [Qb (by omega)];rfl
 |
  f+1,i,s,l,hf,hs,hne,hl=>by
  have hi:i<L.length:=by omega
  have l2:(L.map Evt.r).length=L.length:=by simp
  have he:=hin L[i] (Z15 hi)
  have w:wr .i64 ((i:Int)+1)=((i+1:Nat):Int):=by rw [Qc (by omega) (by omega)];rfl
  rw [Z30 hi]
  have hst:∀rec,z134.l0aP (left:Int) (L.map Evt.r) (L.length:Int) tu.1 tu.2.1 tu.2.2 rec some (l.map lgv,(i:Int),(i:Int),rows,bT t s) =
    if cmpD L[i].day tu>=0 then some (.inl (l.map lgv,(i:Int),(i:Int),rows,bT t s)) else
    match mHap t L[i] s l left with
    |none=>some (.inr ((i:Int),16,rows,bT t s))
    |some x=>rec (x.2.map lgv,((i+1:Nat):Int),((i+1:Nat):Int),rows,bT t x.1):=λrec=>by
   unfold z134.l0aP
   simp only
   rw [bif_t (by omega),if_pos (by omega),Zi,Qao hi]
   simp only [eK,eY,eM,eD,eV]
   rw [date_Cmp,Zb]
   by_cases hc:cmpD L[i].day tu>=0
   ·rw [if_pos hc,bif_t hc]
   ·rw [if_neg hc,Qb hc,Qrh h he.1 he.2 hs hne (by omega) hn,Zb]
    cases hh:mHap t L[i] s l left with
    |none=>rfl
    |
     some x=>
     simp only [decide_true,Zn,Zc]
     rw [w]
  unfold mEvs
  by_cases hc:cmpD L[i].day tu>=0
  ·rw [if_pos hc]
   exact ⟨_,.done λrec=>by rw [hst,if_pos hc];rfl,rfl⟩
  ·rw [if_neg hc]
   cases hh:mHap t L[i] s l left with
   |none=>exact ⟨_,.done λrec=>by rw [hst,if_neg hc,hh];rfl,s,rfl⟩
   |
    some x=>
    have h1:=Qnf h he.1 he.2 hs hn (s':=x.1) (l':=x.2) hh
    have hx2:x.2≠[]/\x.2.length<=l.length+1:=by
     obtain ⟨q,y,rfl⟩:=Qp3 hne
     unfold mHap at hh
     have key:∀d o r,Jg (q++[y]) d o r≠[]/\(Jg (q++[y]) d o r).length<=(q++[y]).length+1:=λd o r=>by
      rw [Qf2]
      have hcl:=Qws y d o r
      refine ⟨λe0=>?_,by simp;omega⟩
      have hq:=(List.append_eq_nil_iff.1 e0).2
      rw [hq] at hcl;simp at hcl
     split at hh
     ·simp only [Zs] at hh;subst hh;exact key _ _ _
     ·split at hh
      ·simp at hh
      ·simp only [Zs] at hh;subst hh;exact key _ _ _
    obtain ⟨o,ho,hm⟩:=Qpg h hL hin (tu:=tu) hn rows f (i+1) x.1 x.2 (by omega) h1 hx2.1 (by omega)
    refine ⟨o,.step (λrec=>by rw [hst,if_neg hc,hh]) ho,?_⟩
    simp only
    have ea:i+((mEvs t tu left (L.drop (i+1)) x.1 x.2).1+1)=i+1+(mEvs t tu left (L.drop (i+1)) x.1 x.2).1:=by omega
    rw [ea]
    exact hm
def partR (kind one z n:Int) (last:Bool):Int:=
 let o:=if kind=0 then one-n else one
 if last=true\/o>z then z else if o<0 then 0 else o
theorem Qg2 {kind one z n:Int} (last:Bool) (hz:0<=z):0<=partR kind one z n last/\partR kind one z n last<=z:=by
 unfold partR
 simp only
 generalize (if kind=0 then one-n else one)=o
 by_cases h:last=true\/o>z
 ·rw [if_pos h];omega
 ·rw [if_neg h]
  have:¬o>z:=λhh=>h (.inr hh)
  split<;>omega
theorem Quf (t:Tm) {s:Ls} (hz:0<=s.z) (hs:sz s.z.natAbs<=100) (ho:sz s.one.natAbs<=10000) {n:Int} (hn:sz n.natAbs<=10000000) (last:Bool) (rows:J2) :
  z102.F t.p t.r t.kind t.basis t.mode t.y t.m t.d t.every t.count (lb s.z.natAbs) (neg s.z) s.r (lb s.one.natAbs) (neg s.one) rows (lb n.natAbs) (neg n) last =
  some (lb (partR t.kind s.one s.z n last).natAbs,neg (partR t.kind s.one s.z n last),t.p,t.r,t.kind,t.basis,t.mode,t.y,t.m,t.d,t.every,t.count,lb s.z.natAbs,neg s.z,s.r,lb s.one.natAbs,neg s.one,rows):=by
 have l1:=Qk s.z.natAbs
 have l2:=Qk s.one.natAbs
 have l3:=Qk n.natAbs
 have hd:sz (s.one-n).natAbs<=10000001:=by
  have h:=Q5 (show (s.one-n).natAbs<=s.one.natAbs+n.natAbs by omega)
  have:=Qax s.one.natAbs n.natAbs
  omega
 have l4:=Qk (s.one-n).natAbs
 have zero:([]:J0)=lb (Int.natAbs 0):=by rw [show Int.natAbs 0=0 from rfl,lb_zero]
 have gt:∀a b:Int,decide (cmpI a b>0)=decide (a>b):=λa b=>by
  unfold cmpI
  split
  ·rw [Zf (by omega),Zf (by omega)]
  ·split
   ·rw [Zf (by omega),Zf (by omega)]
   ·rw [Zt (by omega),Zt (by omega)]
 unfold z102.F partR
 by_cases hk:t.kind=0
 ·rw [bif_t hk,if_pos hk,Qga (by omega),Zb]
  simp only
  cases last with
  |true=>rfl
  |
   false=>
   simp only [Zc,Z25,false_or]
   rw [Qdg (by omega),Zb,gt]
   unfold z102.j8
   simp only
   by_cases hc:s.one-n>s.z
   ·rw [Zt hc,if_pos hc];rfl
   ·rw [Zf hc,if_neg hc]
    simp only [Zc]
    rw [W6,Zb]
    by_cases h0:s.one-n<0
    ·rw [bif_t (Wm.2 h0),if_pos h0,zero];rfl
    ·rw [Qb (λe=>h0 (Wm.1 e)),if_neg h0]
 ·rw [Qb hk,if_neg hk]
  cases last with
  |true=>rfl
  |
   false=>
   simp only [Zc,Z25,false_or]
   rw [Qdg (by omega),Zb,gt]
   unfold z102.j11
   by_cases hc:s.one>s.z
   ·rw [Zt hc,if_pos hc];rfl
   ·rw [Zf hc,if_neg hc]
    simp only [Zc]
    rw [W6,Zb]
    by_cases h0:s.one<0
    ·rw [bif_t (Wm.2 h0),if_pos h0,zero];rfl
    ·rw [Qb (λe=>h0 (Wm.1 e)),if_neg h0]
def Qz (t:Tm) (tu:D3) (l:List Lg):Int:=rnd t.mode (exL t.basis tu 0 l)
def dueR (t:Tm) (tu:D3) (l:List Lg) (last:Bool) (s:Ls):Rw:=
 ⟨tu,s.z,Qz t tu l,partR t.kind s.one s.z (Qz t tu l) last,Qz t tu l+partR t.kind s.one s.z (Qz t tu l) last,s.z-partR t.kind s.one s.z (Qz t tu l) last⟩
theorem Qzj (t:Tm) {tu:D3} (hr:rightD tu) {l:List Lg} (hg:mLegs none l=0) (hl:l.length<=40):sz (Qz t tu l).natAbs<=20000:=by
 have h1:=Qi9 (b:=t.basis) hr l 0 1 (Qfh hg) (Sq.zero (by decide))
 have h2:=Qik t.mode h1
 show sz (rnd t.mode (exL t.basis tu 0 l)).natAbs<=20000
 omega
theorem Qyb {t:Tm} (h:mCheck t=0) {s:Ls} (hs:LsOK s) {tu:D3} (hr:rightD tu) {l:List Lg} (hg:mLegs none l=0) (hl:l.length<=40) (last:Bool) (rows:J2) (hrows:rows.length<=10000) (a b c:Int) :
  z122.F t.p t.r t.kind t.basis t.mode t.y t.m t.d t.every t.count (lb s.z.natAbs) (neg s.z) s.r (lb s.one.natAbs) (neg s.one) rows a b c tu.1 tu.2.1 tu.2.2 (l.map lgv) last =
  some (t.p,t.r,t.kind,t.basis,t.mode,t.y,t.m,t.d,t.every,t.count,lb (dueR t tu l last s).c.natAbs,neg (dueR t tu l last s).c,s.r,lb s.one.natAbs,neg s.one,rows++[rwv (dueR t tu l last s)]):=by
 obtain ⟨hk,_,_,_⟩:=Y0 h
 obtain ⟨k1,k2,k3,k4⟩:=Qhh hk
 have hz:=Ys hs.z
 have hn:=Qzj t hr hg hl
 have hp:=Qg2 (kind:=t.kind) (one:=s.one) (n:=Qz t tu l) last hs.z.1
 have hps:=Q5 (show (partR t.kind s.one s.z (Qz t tu l) last).natAbs<=s.z.natAbs by omega)
 have hc:=Q5 (show (s.z-partR t.kind s.one s.z (Qz t tu l) last).natAbs<=s.z.natAbs by omega)
 have hpay:sz (Qz t tu l+partR t.kind s.one s.z (Qz t tu l) last).natAbs<=20001:=by
  have h1:=Q5 (show (Qz t tu l+partR t.kind s.one s.z (Qz t tu l) last).natAbs<=(Qz t tu l).natAbs+(partR t.kind s.one s.z (Qz t tu l) last).natAbs by omega)
  have:=Qax (Qz t tu l).natAbs (partR t.kind s.one s.z (Qz t tu l) last).natAbs
  omega
 have q1:=Qk s.z.natAbs
 have q2:=Qk (Qz t tu l).natAbs
 have q3:=Qk (partR t.kind s.one s.z (Qz t tu l) last).natAbs
 unfold z122.F
 rw [accrue_Posted (by omega),Zb,if_pos (Qxw k2 hr hg),if_pos k3]
 simp only
 rw [show rnd t.mode (exL t.basis tu 0 l)=Qz t tu l from rfl,Quf t hs.z.1 (by omega) hs.one.2 (by omega) last rows,Zb]
 simp only
 rw [Qga (by omega),Zb]
 simp only
 rw [Jj (by omega),Zb,Jj (by omega),Zb,Jj (by omega),Zb,Qdo (by omega),Zb]
 simp only
 rw [Jj (by omega),Zb,Jj (by omega),Zb,if_pos (by simp only [Z9,Z54];omega)]
 rfl
def Qdy (t:Tm) (tu:D3) (l:List Lg) (last:Bool) (s:Ls):Ls:=⟨(dueR t tu l last s).c,s.r,s.one⟩
theorem Qp1 {t:Tm} {tu:D3} {l:List Lg} {last:Bool} {s:Ls} (hs:LsOK s):LsOK (Qdy t tu l last s):=by
 have hp:=Qg2 (kind:=t.kind) (one:=s.one) (n:=Qz t tu l) last hs.z.1
 have hz:=hs.z
 exact ⟨⟨show 0<=s.z-partR t.kind s.one s.z (Qz t tu l) last by omega,show s.z-partR t.kind s.one s.z (Qz t tu l) last<=10^30 by omega⟩,hs.r,hs.one⟩
def W4 (t:Tm):List (D3×D3)->List Evt->Ls->Nat->List Rw->List Rw×Nat×Int
 |[],_,_,_,rows=>(rows,0,0)
 |
  p::ps,es,s,dn,rows=>
  match (mEvs t p.2 (ps.length+1) es s [⟨p.1,p.2,itxt s.z,s.r⟩]).2 with
  |none=>([],dn+(mEvs t p.2 (ps.length+1) es s [⟨p.1,p.2,itxt s.z,s.r⟩]).1,16)
  |some x=>W4 t ps (es.drop (mEvs t p.2 (ps.length+1) es s [⟨p.1,p.2,itxt s.z,s.r⟩]).1) (Qdy t p.2 x.2 (decide (ps=[])) x.1) (dn+(mEvs t p.2 (ps.length+1) es s [⟨p.1,p.2,itxt s.z,s.r⟩]).1)
    (rows++[dueR t p.2 x.2 (decide (ps=[])) x.1])
def Ch:D3->List (D3×D3)->Prop
 |_,[]=>True
 |a,p::ps=>p.1=a/\Ch p.2 ps
theorem Qo8 {p:D3×D3} (hp:rightD p.1/\rightD p.2/\numD p.1<=numD p.2) {s:Ls} (hs:LsOK s):Jd p.2 p.1 [⟨p.1,p.2,itxt s.z,s.r⟩]:=by
 have:itxt s.z=txt s.z.natAbs:=by unfold itxt;rw [if_neg (by have:=hs.z;omega)]
 have hm:(mMoney (itxt s.z)).2=0:=by
  have e:(10:Int)^30=1000000000000000000000000000000:=by decide
  have e2:(10:Nat)^30=1000000000000000000000000000000:=by decide
  have hz:=hs.z
  rw [this,Qc1 (by omega)]
 refine ⟨[],_,rfl,?_,rfl,rfl⟩
 show mLegs none [_]=0
 have hx:=Qfe (a:=none) (x:=⟨p.1,p.2,itxt s.z,s.r⟩) hp.1 hp.2.1 hp.2.2 (λd h=>by simp at h) hm hs.r
 unfold mLegs
 rw [if_neg (λhh=>hh hx)];rfl
abbrev PR:=(Int×Int×J2×J1×J1×Int×Int×Int×Int×Int×Int×Int×Int×J0×Bool×J1×J0×Bool)⊕(J2×Int×Int×J2×J1×J1×Int×Int×Int×Int×Int×Int×Int×Int×J0×Bool×J1×J0×Bool)
def Qre:PR->J2×Int×Int
 |.inl p=>(p.2.2.1,0,0)
 |.inr q=>(q.1,q.2.1,q.2.2.1)
theorem Qo0 {t:Tm} (h:mCheck t=0) {ps:List (D3×D3)} (hp:okP ps) (hps:ps.length<=30) {es:List Evt} (hes:es.length<=20) (hin:∀e∈es,inK e):∀(f i dn:Nat) (s:Ls) (rows:List Rw) (a:D3),i+f=ps.length->dn<=es.length->LsOK s->rows.length=i->Ch a (ps.drop i)->Asc a (es.drop dn) ->
  ∃
   o,Runs (λrec x=>z134.l0P (es.map Evt.r) (ps.map pv) (ps.map pv) (((ps.map pv).length:Nat):Int) rec some x) ((dn:Int),(i:Int),rows.map rwv,bT t s) o /\
   Qre o=((W4 t (ps.drop i) (es.drop dn) s dn rows).1.map rwv,((W4 t (ps.drop i) (es.drop dn) s dn rows).2.1:Int),(W4 t (ps.drop i) (es.drop dn) s dn rows).2.2)
 |
  0,i,dn,s,rows,a,hf,hd,hs,hr,hch,ha=>by
  have e1:ps.drop i=[]:=Z68 (by omega)
  rw [e1]
  refine ⟨.inl ((dn:Int),(i:Int),rows.map rwv,bT t s),.done λrec=>?_,rfl⟩
  unfold z134.l0P
  simp only
  rw [Qb (by rw [Z13];omega)]
 |
  f+1,i,dn,s,rows,a,hf,hd,hs,hr,hch,ha=>by
  have hi:i<ps.length:=by omega
  have hpi:=hp ps[i] (Z15 hi)
  have l2:(ps.map pv).length=ps.length:=by simp
  have l3:(es.map Evt.r).length=es.length:=by simp
  have w:wr .i64 ((i:Int)+1)=((i+1:Nat):Int):=by rw [Qc (by omega) (by omega)];rfl
  have wl:wr .i64 ((((ps.map pv).length:Nat):Int)-(i:Int))=((ps.length-i:Nat):Int):=by rw [l2,Qc (by omega) (by omega)];omega
  have hlen:(ps.drop (i+1)).length+1=ps.length-i:=by rw [Z35];omega
  rw [Z30 hi] at hch ⊢
  obtain ⟨hc1,hc2⟩:=hch
  obtain ⟨L,hLe⟩:∃L,L=es.drop dn:=⟨_,rfl⟩
  have hLl:L.length=es.length-dn:=by rw [hLe,Z35]
  have hLin:∀e∈L,inK e:=λe he=>hin e (by rw [hLe] at he;exact Z67 he)
  have hdr:(es.map Evt.r).drop dn=L.map Evt.r:=by rw [hLe,List.map_drop]
  have hleg:=Qo8 hpi hs
  have hz:=Ys hs.z
  obtain ⟨o1,r1,hm⟩:=Qpg h (L:=L) (by omega) hLin (tu:=ps[i].2) (left:=ps.length-i) (by omega) (rows.map rwv) L.length 0 s [⟨ps[i].1,ps[i].2,itxt s.z,s.r⟩] (by omega) hs (by simp) (by simp)
  rw [Z34] at hm
  simp only [Z18] at hm
  have el:z134.l0a ((ps.length-i:Nat):Int) (L.map Evt.r) (L.length:Int) ps[i].2.1 ps[i].2.2.1 ps[i].2.2.2 ([lgv ⟨ps[i].1,ps[i].2,itxt s.z,s.r⟩],0,0,rows.map rwv,bT t s)=some o1:=r1.lfp
  have hleg0:([[(.int .i64 ps[i].1.1),(.int .i64 ps[i].1.2.1),(.int .i64 ps[i].1.2.2),(.int .i64 ps[i].2.1),(.int .i64 ps[i].2.2.1),(.int .i64 ps[i].2.2.2),(.str (itxt s.z)),(.str s.r)]]:J2)=[lgv ⟨ps[i].1,ps[i].2,itxt s.z,s.r⟩]:=rfl
  have hL0:((((es.map Evt.r).drop dn).length:Nat):Int)=(L.length:Int):=by rw [hdr,Z13]
  have hst:∀rec,z134.l0P (es.map Evt.r) (ps.map pv) (ps.map pv) (((ps.map pv).length:Nat):Int) rec some ((dn:Int),(i:Int),rows.map rwv,bT t s) =
    match o1 with
    |.inl p1034=>((z122.F p1034.2.2.2.2.1 p1034.2.2.2.2.2.1 p1034.2.2.2.2.2.2.1 p1034.2.2.2.2.2.2.2.1 p1034.2.2.2.2.2.2.2.2.1 p1034.2.2.2.2.2.2.2.2.2.1 p1034.2.2.2.2.2.2.2.2.2.2.1 p1034.2.2.2.2.2.2.2.2.2.2.2.1 p1034.2.2.2.2.2.2.2.2.2.2.2.2.1 p1034.2.2.2.2.2.2.2.2.2.2.2.2.2.1 p1034.2.2.2.2.2.2.2.2.2.2.2.2.2.2.1 p1034.2.2.2.2.2.2.2.2.2.2.2.2.2.2.2.1 p1034.2.2.2.2.2.2.2.2.2.2.2.2.2.2.2.2.1 p1034.2.2.2.2.2.2.2.2.2.2.2.2.2.2.2.2.2.1 p1034.2.2.2.2.2.2.2.2.2.2.2.2.2.2.2.2.2.2 p1034.2.2.2.1 ps[i].1.1 ps[i].1.2.1 ps[i].1.2.2 ps[i].2.1 ps[i].2.2.1 ps[i].2.2.2 p1034.1 (decide (((ps.length-i:Nat):Int)=(1:Int)))).bind λr1036=>(rec ((wr .i64 ((dn:Int)+p1034.2.1)),((i+1:Nat):Int),r1036.2.2.2.2.2.2.2.2.2.2.2.2.2.2.2,r1036.1,r1036.2.1,r1036.2.2.1,r1036.2.2.2.1,r1036.2.2.2.2.1,r1036.2.2.2.2.2.1,r1036.2.2.2.2.2.2.1,r1036.2.2.2.2.2.2.2.1,r1036.2.2.2.2.2.2.2.2.1,r1036.2.2.2.2.2.2.2.2.2.1,r1036.2.2.2.2.2.2.2.2.2.2.1,r1036.2.2.2.2.2.2.2.2.2.2.2.1,r1036.2.2.2.2.2.2.2.2.2.2.2.2.1,r1036.2.2.2.2.2.2.2.2.2.2.2.2.2.1,r1036.2.2.2.2.2.2.2.2.2.2.2.2.2.2.1)))
    |.inr q1035=>(bif (!decide (q1035.2.1=(0:Int))) then some (.inr ([],(wr .i64 ((dn:Int)+q1035.1)),q1035.2.1,q1035.2.2)) else (rec ((wr .i64 ((dn:Int)+q1035.1)),((i+1:Nat):Int),q1035.2.2))):=λrec=>by
   unfold z134.l0P
   simp only
   rw [bif_t (by omega),if_pos (by omega),Zi,Qal pv hi]
   simp only [asP0,asP1,asP2,asP3,asP4,asP5]
   rw [if_pos (by omega),Jj (by omega),Zb,wl,Zi,hleg0,hL0,hdr]
   refine (congrArg (λo=>Option.bind o _) el).trans ?_
   rw [Zb,w]
   cases o1<;>rfl
  have hlast:decide (((ps.length-i:Nat):Int)=1)=decide (ps.drop (i+1)=[]):=by
   by_cases hh:i+1=ps.length
   ·rw [Zt (by omega),Zt (Z68 (by omega))]
   ·rw [Zf (by omega),Zf (λe0=>by have:=congrArg List.length e0;rw [Z35] at this;simp at this;omega)]
  have hel:=Qnx t ps[i].2 (ps.length-i) L s [⟨ps[i].1,ps[i].2,itxt s.z,s.r⟩]
  have hok:=Qhk h hpi.2.1 (left:=ps.length-i) (by omega) L s [⟨ps[i].1,ps[i].2,itxt s.z,s.r⟩] ps[i].1 hLin hs hleg (by rw [hc1,hLe];exact ha)
  unfold W4
  rw [hlen,<-hLe]
  obtain ⟨k,hk⟩:∃k,k=(mEvs t ps[i].2 (ps.length-i) L s [⟨ps[i].1,ps[i].2,itxt s.z,s.r⟩]).1:=⟨_,rfl⟩
  rw [<-hk] at hm hel hok ⊢
  have wk:wr .i64 ((dn:Int)+(k:Int))=((dn+k:Nat):Int):=by rw [Qc (by omega) (by omega)];omega
  cases hq:(mEvs t ps[i].2 (ps.length-i) L s [⟨ps[i].1,ps[i].2,itxt s.z,s.r⟩]).2 with
  |
   none=>
   rw [hq] at hm
   obtain ⟨s',rfl⟩:=hm
   refine ⟨_,.done λrec=>by rw [hst];simp only;rw [wk];rfl,?_⟩
   rfl
  |
   some x=>
   rw [hq] at hm hok
   simp only at hm
   subst hm
   obtain ⟨g1,⟨f',g2⟩,g3,g4⟩:=hok x rfl
   have hdue:=Qyb h g1 hpi.2.1 g2.ok (by simp at g3;omega) (decide (ps.drop (i+1)=[])) (rows.map rwv) (by simp;omega) ps[i].1.1 ps[i].1.2.1 ps[i].1.2.2
   have hdd:L.drop k=es.drop (dn+k):=by rw [hLe,Z104]
   obtain ⟨o,r2,ho⟩:=Qo0 h hp hps hes hin f (i+1) (dn+k) (Qdy t ps[i].2 x.2 (decide (ps.drop (i+1)=[])) x.1) (rows++[dueR t ps[i].2 x.2 (decide (ps.drop (i+1)=[])) x.1]) ps[i].2 (by omega) (by omega) (Qp1 g1) (by simp;omega) hc2 (by rw [<-hdd];exact g4)
   refine ⟨o,.step (λrec=>?_) r2,?_⟩
   ·rw [hst]
    simp only
    rw [hlast,hdue,Zb,wk,Z71]
    rfl
   ·simp only
    rw [hdd];exact ho
def mWrong (t:Tm) (last:D3):Nat->List Evt->Nat×Int
 |_,[]=>(0,0)
 |i,e::es=>if e.k≠1/\e.k≠2 then (i,2) else if cmpD e.day t.start<0 then (i,12) else if cmpD e.day last>=0 then (i,17) else mWrong t last (i+1) es
def outW:Int⊕(Int×Int)->Int×Int
 |.inl _=>(0,0)
 |.inr q=>q
theorem Qn1 (t:Tm) (last:D3) {L:List Evt} (hL:L.length<=10000):∀(f i:Nat),i+f=L.length->∃o,Runs (λrec x=>z133.l0P (L.map Evt.r) (L.length:Int) t.y t.m t.d last.1 last.2.1 last.2.2 rec some x) (i:Int) o /\
  outW o=(((mWrong t last i (L.drop i)).1:Int),(mWrong t last i (L.drop i)).2)
 |
  0,i,hf=>by
  have e1:L.drop i=[]:=Z68 (by omega)
  rw [e1]
  refine ⟨.inl (i:Int),.done λrec=>?_,rfl⟩
  unfold z133.l0P
  rw [Qb (by omega)]
 |
  f+1,i,hf=>by
  have hi:i<L.length:=by omega
  have l2:(L.map Evt.r).length=L.length:=by simp
  have w:wr .i64 ((i:Int)+1)=((i+1:Nat):Int):=by rw [Qc (by omega) (by omega)];rfl
  rw [Z30 hi]
  have hst:∀rec:Int->Option (Int⊕(Int×Int)),z133.l0P (L.map Evt.r) (L.length:Int) t.y t.m t.d last.1 last.2.1 last.2.2 rec some (i:Int) =
    if L[i].k≠1/\L[i].k≠2 then some (.inr ((i:Int),2)) else if cmpD L[i].day t.start<0 then some (.inr ((i:Int),12)) else if cmpD L[i].day last>=0 then some (.inr ((i:Int),17)) else rec ((i+1:Nat):Int):=λrec=>by
   unfold z133.l0P
   rw [bif_t (by omega),if_pos (by omega),Zi,Qao hi]
   simp only [eK,eY,eM,eD,eV]
   have tail:((z18.F L[i].y L[i].m L[i].d t.y t.m t.d).bind λr1026=>bif decide (r1026<(0:Int)) then (some (.inr ((i:Int),(12:Int))):Option (Int⊕(Int×Int))) else ((z18.F L[i].y L[i].m L[i].d last.1 last.2.1 last.2.2).bind λr1027=>bif decide (r1027>=(0:Int)) then (some (.inr ((i:Int),(17:Int)))) else (rec (wr .i64 ((i:Int)+(1:Int)))))) =
     if cmpD L[i].day t.start<0 then some (.inr ((i:Int),12)) else if cmpD L[i].day last>=0 then some (.inr ((i:Int),17)) else rec ((i+1:Nat):Int):=by
    rw [date_Cmp,Zb]
    by_cases c1:cmpD L[i].day t.start<0
    ·rw [if_pos c1,bif_t (show dcmp L[i].y L[i].m L[i].d t.y t.m t.d<0 from c1)]
    ·rw [if_neg c1,Qb (show ¬dcmp L[i].y L[i].m L[i].d t.y t.m t.d<0 from c1),date_Cmp,Zb,w]
     by_cases c2:cmpD L[i].day last>=0
     ·rw [if_pos c2,bif_t (show dcmp L[i].y L[i].m L[i].d last.1 last.2.1 last.2.2>=0 from c2)]
     ·rw [if_neg c2,Qb (show ¬dcmp L[i].y L[i].m L[i].d last.1 last.2.1 last.2.2>=0 from c2)]
   by_cases k1:L[i].k=1
   ·rw [Zt k1,if_neg (λhh=>hh.1 k1),<-tail];rfl
   ·by_cases k2:L[i].k=2
    ·rw [Zf k1,Zt k2,if_neg (λhh=>hh.2 k2),<-tail];rfl
    ·rw [Zf k1,Zf k2,if_pos ⟨k1,k2⟩];rfl
  unfold mWrong
  by_cases c0:L[i].k≠1/\L[i].k≠2
  ·rw [if_pos c0]
   exact ⟨.inr ((i:Int),2),.done λrec=>by rw [hst,if_pos c0],rfl⟩
  ·rw [if_neg c0]
   by_cases c1:cmpD L[i].day t.start<0
   ·rw [if_pos c1]
    exact ⟨.inr ((i:Int),12),.done λrec=>by rw [hst,if_neg c0,if_pos c1],rfl⟩
   ·rw [if_neg c1]
    by_cases c2:cmpD L[i].day last>=0
    ·rw [if_pos c2]
     exact ⟨.inr ((i:Int),17),.done λrec=>by rw [hst,if_neg c0,if_neg c1,if_pos c2],rfl⟩
    ·rw [if_neg c2]
     obtain ⟨o,h1,h2⟩:=Qn1 t last hL f (i+1) (by omega)
     exact ⟨o,.step (λrec=>by rw [hst,if_neg c0,if_neg c1,if_neg c2]) h1,h2⟩
theorem Qsm (t:Tm) (last:D3) {L:List Evt} (hL:L.length<=10000):z133.F t.p t.r t.kind t.basis t.mode t.y t.m t.d t.every t.count last.1 last.2.1 last.2.2 (L.map Evt.r)=some (((mWrong t last 0 L).1:Int),(mWrong t last 0 L).2):=by
 have l2:(L.map Evt.r).length=L.length:=by simp
 obtain ⟨o,h1,h2⟩:=Qn1 t last hL L.length 0 (by omega)
 rw [Z34] at h2
 have e:z133.l0 (L.map Evt.r) (L.length:Int) t.y t.m t.d last.1 last.2.1 last.2.2 0=some o:=h1.lfp
 unfold z133.F
 rw [l2,e,Zb,<-h2]
 cases o<;>rfl
def lastD (t:Tm):D3:=(t.periods.getLast?.getD (t.start,t.start)).2
def Yj (t:Tm):Ls:=⟨(mMoney t.p).1,t.r,Y5 t (mMoney t.p).1 t.r t.count.toNat⟩
def mBuildR (t:Tm) (es:List Evt):List Rw×Int×Int:=
 if (mChk 0 0 0 0 es).2≠0 then ([],(mChk 0 0 0 0 es).1,(mChk 0 0 0 0 es).2)
 else if (mWrong t (lastD t) 0 es).2≠0 then ([],((mWrong t (lastD t) 0 es).1:Int),(mWrong t (lastD t) 0 es).2)
 else ((W4 t t.periods es (Yj t) 0 []).1,((W4 t t.periods es (Yj t) 0 []).2.1:Int),(W4 t t.periods es (Yj t) 0 []).2.2)
theorem Qlk {t:Tm} (h:mCheck t=0) (hc:t.count<=30):LsOK (Yj t):=by
 obtain ⟨i1,i2,_⟩:=(Qpl t).1 h
 obtain ⟨_,hcc,_,_⟩:=Y0 h
 have hz:=J6 t.p
 have hs:=Ys hz
 exact ⟨hz,i2,Qiv h hz.1 (by omega) (by omega)⟩
theorem Qjo:∀(a:D3) (l:List D3),Ch a (pairs a l)
 |_,[]=>trivial
 |_,b::l=>⟨rfl,Qjo b l⟩
theorem Qha {t:Tm} {last:D3}:∀(es:List Evt) (i:Nat),(mWrong t last i es).2=0->∀e∈es,(e.k=1\/e.k=2)/\¬cmpD e.day t.start<0/\¬cmpD e.day last>=0
 |[],_,_=>by simp
 |
  e::es,i,h=>by
  unfold mWrong at h
  by_cases c0:e.k≠1/\e.k≠2
  ·rw [if_pos c0] at h;simp at h
  ·rw [if_neg c0] at h
   by_cases c1:cmpD e.day t.start<0
   ·rw [if_pos c1] at h;simp at h
   ·rw [if_neg c1] at h
    by_cases c2:cmpD e.day last>=0
    ·rw [if_pos c2] at h;simp at h
    ·rw [if_neg c2] at h
     intro x hx
     rcases Z103.1 hx with rfl|hx
     ·exact ⟨by omega,c1,c2⟩
     ·exact Qha es (i+1) h x hx
theorem Qqb:∀(es:List Evt) (y m d:Int),right y m d->Seq y m d es->Asc (y,m,d) es
 |[],_,_,_,_,_=>trivial
 |
  e::es,y,m,d,hr,h=>by
  refine ⟨?_,Qqb es e.y e.m e.d h.2.1.d h.2.2⟩
  have:=h.1
  rw [Qmy h.2.1.d hr,Wm] at this
  show num y m d<=num e.y e.m e.d
  omega
theorem Qny:∀(es:List Evt) (a:D3),rightD a->Seq 0 0 0 es->(∀e∈es,¬cmpD e.day a<0)->Asc a es
 |[],_,_,_,_=>trivial
 |
  e::es,a,hr,h,hc=>by
  refine ⟨?_,Qqb es e.y e.m e.d h.2.1.d h.2.2⟩
  have:=hc e (by simp)
  rw [Yy h.2.1.d hr,Wm] at this
  omega
theorem Qu1 {n:Nat} (h:1<=n) (h2:n<=1000000):wr .i64 (((n:Nat):Int)-1)=((n-1:Nat):Int):=by rw [Qc (by omega) (by omega)];omega
theorem Qz2 {t:Tm} (h:0<t.periods.length):lastD t=t.periods[t.periods.length-1].2:=by
 unfold lastD
 rw [List.getLast?_eq_getElem?,Z1 (by omega)];rfl
theorem Qlr {t:Tm} {es:List Evt} (hk:(mChk 0 0 0 0 es).2≠0):mBuildR t es=([],(mChk 0 0 0 0 es).1,(mChk 0 0 0 0 es).2):=by unfold mBuildR;rw [if_pos hk]
theorem Qnw {t:Tm} {es:List Evt} (hk:(mChk 0 0 0 0 es).2=0) (hw:(mWrong t (lastD t) 0 es).2≠0):mBuildR t es=([],((mWrong t (lastD t) 0 es).1:Int),(mWrong t (lastD t) 0 es).2):=by
 unfold mBuildR;rw [if_neg (λhh=>hh hk),if_pos hw]
theorem Qkb {t:Tm} {es:List Evt} (hk:(mChk 0 0 0 0 es).2=0) (hw:(mWrong t (lastD t) 0 es).2=0):mBuildR t es=((W4 t t.periods es (Yj t) 0 []).1,((W4 t t.periods es (Yj t) 0 []).2.1:Int),(W4 t t.periods es (Yj t) 0 []).2.2):=by
 unfold mBuildR;rw [if_neg (λhh=>hh hk),if_neg (λhh=>hh hw)]
theorem Qh4 {t:Tm} (h:mCheck t=0) (hc:t.count<=30) {es:List Evt} (hes:es.length<=20) (hv:∀e∈es,e.v.length<=4096) :
  z134.F t.p t.r t.kind t.basis t.mode t.y t.m t.d t.every t.count (es.map Evt.r)=some ((mBuildR t es).1.map rwv,(mBuildR t es).2.1,(mBuildR t es).2.2):=by
 obtain ⟨_,hcc,hst,_⟩:=Y0 h
 have hpl:=Qk7 t
 have l2:(t.periods.map pv).length=t.periods.length:=by simp
 have hpos:0<t.periods.length:=by omega
 have hi:t.periods.length-1<t.periods.length:=by omega
 obtain ⟨n,hn⟩:=Yr (show 0<=t.count by omega)
 have hfr:=Qlk h hc
 have hz:=J6 t.p
 have hs:=Ys hz
 obtain ⟨i1,i2,_⟩:=(Qpl t).1 h
 unfold z134.F
 rw [dues_Periods,if_pos h,Zb]
 simp only [decide_true,Zn,Zc]
 rw [Qwo (by omega),Zb]
 by_cases hk:(mChk 0 0 0 0 es).2=0
 ·rw [Zt hk]
  simp only [Zn,Zc]
  rw [l2,Qu1 (by omega) (by omega),if_pos (show (0:Int)<=((t.periods.length-1:Nat):Int)/\((t.periods.length-1:Nat):Int)<(t.periods.length:Int) by omega),Zi,Qal pv hi]
  simp only [asP0,asP1,asP2,asP3,asP4,asP5]
  rw [<-Qz2 hpos,Qsm t (lastD t) (by omega),Zb]
  by_cases hw:(mWrong t (lastD t) 0 es).2=0
  ·rw [Qkb hk hw,Zt hw]
   simp only [Zn,Zc]
   have hw':=Qha es 0 hw
   have hseq:=(Qiq es 0 0 0 0 hv hk).1
   have hin:∀e∈es,inK e:=λe he=>⟨Qg5 hseq e he,(hw' e he).1⟩
   have hasc:=Qny es t.start hst hseq λe he=>(hw' e he).2.1
   have heach:=Qec h hz.1 (by omega) i2 (n:=n) (by omega)
   rw [<-hn] at heach
   rw [terms_Money,Zb]
   simp only
   rw [heach,Zb]
   obtain ⟨o,r,ho⟩:=Qo0 h (Qjp h) (by omega) hes hin t.periods.length 0 0 (Yj t) [] t.start (by omega) (by omega) hfr rfl (Qjo t.start t.dates) hasc
   rw [Z34,Z34] at ho
   have el:z134.l0 (es.map Evt.r) (t.periods.map pv) (t.periods.map pv) (((t.periods.map pv).length:Nat):Int) (0,0,[],bT t (Yj t))=some o:=r.lfp
   rw [l2] at el
   simp only
   have e3:Y5 t (mMoney t.p).1 t.r n=(Yj t).one:=by unfold Yj;rw [hn,Zi]
   rw [e3]
   refine (congrArg (λo=>Option.bind o _) el).trans ?_
   rw [Zb,<-ho]
   cases o<;>rfl
  ·rw [Qnw hk hw,Zf hw];rfl
 ·rw [Qlr hk,Zf hk];rfl
def s24:Tm:=⟨[49,48,48,48,48,48],[48],1,0,2,2024,1,1,1,2⟩
def e24a:Evt:=⟨1,2024,1,9,[53,48,48,48,48]⟩
def e24b:Evt:=⟨1,2024,1,9,[49,48,48,48,48,49]⟩
def r24a:Rw:=⟨(2024,2,1),50000,0,25000,25000,25000⟩
def r24b:Rw:=⟨(2024,3,1),25000,0,25000,25000,0⟩
theorem Qhu:mCheck s24=0:=by decide +kernel
theorem Qx5:mBuildR s24 [e24a]=([r24a,r24b],0,0):=by decide +kernel
theorem Qwz:mBuildR s24 [e24b]=([],0,16):=by decide +kernel
theorem Qw0:Y5 s24 100 [48] 4=25:=by decide +kernel
theorem Qsn:z136.F=some true:=by
 have e0:z135.F=some (s24.p,s24.r,s24.kind,s24.basis,s24.mode,s24.y,s24.m,s24.d,s24.every,s24.count):=rfl
 have e1:=Qh4 Qhu (by decide) (es:=[e24a]) (by decide) (by decide)
 rw [Qx5] at e1
 have e2:=Qh4 Qhu (by decide) (es:=[e24b]) (by decide) (by decide)
 rw [Qwz] at e2
 have sz100:sz (Int.natAbs 100)<=100:=Z11 (sz_le (show Int.natAbs 100<10^3 by decide)) (by decide)
 have e3:=Qec Qhu (z:=100) (by decide) sz100 (r:=[48]) (by decide +kernel) (n:=4) (by decide)
 rw [Qw0] at e3
 have e4:z28.F 100=some (lb (Int.natAbs 100),neg 100):=whole_From (by decide)
 have t25:itxt 25=[50,53]:=by decide +kernel
 have t25000:itxt 25000=[50,53,48,48,48]:=by decide +kernel
 have e5:z85.F (lb (Int.natAbs 25)) (neg 25)=some [50,53]:=by
  have h:=Jj (z:=25) (Z11 (sz_le (show Int.natAbs 25<10^2 by decide)) (by decide))
  rw [t25] at h;exact h
 have g0:(([r24a,r24b].map rwv).getD 0 [])=rwv r24a:=rfl
 have g1:(([r24a,r24b].map rwv).getD 1 [])=rwv r24b:=rfl
 unfold z136.F
 rw [e0,Zb]
 refine (congrArg (λo=>Option.bind o _) e1).trans ?_
 rw [Zb,Zb]
 refine (congrArg (λo=>Option.bind o _) e2).trans ?_
 rw [Zb,Zb,e4,Zb]
 refine (congrArg (λo=>Option.bind o _) e3).trans ?_
 rw [Zb]
 simp only
 rw [show ((([r24a,r24b].map rwv).length:Nat):Int)=2 from rfl,g0,g1]
 simp only [asW0,asW1,asW2,asW3,asW4,asW5,asW6,asW7]
 rw [show r24a.b=25000 from rfl,show r24b.b=25000 from rfl,t25000]
 simp only [decide_true,Zd]
 rw [if_pos (by decide),if_pos (by decide)]
 rw [e5,Zb]
 rfl
theorem Qlg (e:Evt):z143.F e.k e.y e.m e.d e.v=some (decide (e.k≠1/\e.k≠2)):=by
 unfold z143.F
 by_cases h1:e.k=1
 ·rw [Zt h1,Zf (show ¬(e.k≠1/\e.k≠2) from λh=>h.1 h1)];rfl
 ·rw [Zf h1]
  by_cases h2:e.k=2
  ·rw [Zt h2,Zf (show ¬(e.k≠1/\e.k≠2) from λh=>h.2 h2)];rfl
  ·rw [Zf h2,Zt (show e.k≠1/\e.k≠2 from ⟨h1,h2⟩)];rfl
theorem Qj6 {E:List Evt} (hE:E.length<=16):∀(f i:Nat),i+f=E.length ->
  ∃o,Runs (λrec x=>z144.l0P (E.length:Int) (E.map Evt.r) rec some x) (i:Int) o/\∀q,o=.inr q->∃j:Nat,q=(j:Int)/\j<E.length
 |
  0,i,hf=>by
  refine ⟨.inl (i:Int),.done λrec=>?_,λq h=>by cases h⟩
  unfold z144.l0P
  rw [Qb (by omega)]
 |
  f+1,i,hf=>by
  have hi:i<E.length:=by omega
  have hb:((0:Int)<=(i:Int)/\(i:Int)<(((E.map Evt.r).length:Nat):Int)):=by rw [Z13];omega
  have w:wr .i64 ((i:Int)+1)=((i+1:Nat):Int):=by rw [Qc (by omega) (by omega)];rfl
  have hst:∀rec:Int->Option (Int⊕Int),z144.l0P (E.length:Int) (E.map Evt.r) rec some (i:Int)=if E[i].k≠1/\E[i].k≠2 then some (.inr (i:Int)) else rec ((i+1:Nat):Int):=λrec=>by
   unfold z144.l0P
   rw [bif_t (by omega),if_pos hb,Zi,if_pos (by rw [Z13];omega),Qao hi]
   simp only [eK,eY,eM,eD,eV]
   rw [Qlg,Zb,w]
   by_cases h:E[i].k≠1/\E[i].k≠2
   ·rw [Zt h,if_pos h];rfl
   ·rw [Zf h,if_neg h];rfl
  by_cases h:E[i].k≠1/\E[i].k≠2
  ·exact ⟨.inr (i:Int),.done λrec=>by rw [hst,if_pos h],λq hq=>⟨i,by cases hq;rfl,hi⟩⟩
  ·obtain ⟨o,r,ho⟩:=Qj6 hE f (i+1) (by omega)
   exact ⟨o,.step (λrec=>by rw [hst,if_neg h]) r,ho⟩
theorem Qg1:∀(f i j:Nat) (M:List Evt),j+f=M.length->i<j->M.length<=16 ->
  ∃(i' j':Nat) (M':List Evt),Runs (λrec x=>z144.l0aP rec some x) ((i:Int),(j:Int),M.map Evt.r) ((i':Int),(j':Int),M'.map Evt.r)/\i'<M'.length/\M'.length=M.length/\∀e∈M',e∈M
 |
  0,i,j,M,hf,hij,hM=>by
  refine ⟨i,j,M,.done λrec=>?_,by omega,rfl,λe h=>h⟩
  unfold z144.l0aP
  simp only
  rw [Qb (by rw [Z13];omega)]
 |
  f+1,i,j,M,hf,hij,hM=>by
  have hj:j<M.length:=by omega
  have hi:i<M.length:=by omega
  have hb:((0:Int)<=(j:Int)/\(j:Int)<(((M.map Evt.r).length:Nat):Int)):=by rw [Z13];omega
  have hb2:((0:Int)<=(i:Int)/\(i:Int)<(((M.map Evt.r).length:Nat):Int)):=by rw [Z13];omega
  have w:wr .i64 ((j:Int)+1)=((j+1:Nat):Int):=by rw [Qc (by omega) (by omega)];rfl
  have w2:wr .i64 ((i:Int)+1)=((i+1:Nat):Int):=by rw [Qc (by omega) (by omega)];rfl
  have hst:∀rec:(Int×Int×J2)->Option (Int×Int×J2),z144.l0aP rec some ((i:Int),(j:Int),M.map Evt.r)=if M[j].k≠1/\M[j].k≠2 then rec ((i:Int),((j+1:Nat):Int),M.map Evt.r) else rec (((i+1:Nat):Int),((j+1:Nat):Int),(M.set i M[j]).map Evt.r):=λrec=>by
   unfold z144.l0aP
   simp only
   rw [bif_t (by rw [Z13];omega),if_pos hb,Zi,if_pos (by rw [Z13];omega),Qao hj]
   simp only [eK,eY,eM,eD,eV]
   rw [Qlg,Zb,w,w2]
   by_cases h:M[j].k≠1/\M[j].k≠2
   ·rw [Zt h,if_pos h];rfl
   ·rw [Zf h,if_neg h]
    simp only [Zo,Zd]
    rw [if_pos hb2,Zi,if_pos (by rw [Z13];omega),Qao hi,List.map_set]
    rfl
  by_cases h:M[j].k≠1/\M[j].k≠2
  ·obtain ⟨i',j',M',r,h1,h2,h3⟩:=Qg1 f i (j+1) M (by omega) (by omega) hM
   exact ⟨i',j',M',.step (λrec=>by rw [hst,if_pos h]) r,h1,h2,h3⟩
  ·obtain ⟨i',j',M',r,h1,h2,h3⟩:=Qg1 f (i+1) (j+1) (M.set i M[j]) (by rw [Z21];omega) (by omega) (by rw [Z21];omega)
   refine ⟨i',j',M',.step (λrec=>by rw [hst,if_neg h]) r,h1,by rw [h2,Z21],λe he=>?_⟩
   rcases List.mem_or_eq_of_mem_set (h3 e he) with h'|rfl
   ·exact h'
   ·exact Z15 hj
theorem Qss {a0 a1 a2 a3 a4 a5 a6 a7 a8 a9 a10 a11 a12 a13 a14:Int} {a15 a16 a17:J0} (a18:Bool) (h0:(Lit.int .u64 a0).wf=true) (h1:(Lit.int .u16 a1).wf=true) (h2:(Lit.int .u32 a2).wf=true) (h3:(Lit.int .u8 a3).wf=true) (h4:(Lit.int .u8 a4).wf=true) (h5:(Lit.int .u8 a5).wf=true)
  (h6:(Lit.int .u8 a6).wf=true) (h7:(Lit.int .u8 a7).wf=true) (h8:(Lit.int .u8 a8).wf=true) (hD:∀n∈a15,0<=n/\n<256) (hK:∀n∈a16,0<=n/\n<256) (hU:∀n∈a17,0<=n/\n<4294967296) :
  ∃
   (t:Tm) (E:List Evt),Good t 8/\E.length<=16/\(∀e∈E,e.v.length<=4096) /\
   z144.F a0 a1 a2 a3 a4 a5 a6 a7 a8 a9 a10 a11 a12 a13 a14 a15 a16 a17 a18=some (t.p,t.r,t.kind,t.basis,t.mode,t.y,t.m,t.d,t.every,t.count,E.map Evt.r):=by
 obtain ⟨t,g,e⟩:=Qrk (a9:=a9) (a10:=a10) (a11:=a11) (most:=8) (Qv3 h0) (Qzu h1) (Qpc h2) (Qaw h3) (Qaw h4) (Qaw h5) (Qaw h6) (Qaw h7) (Qaw h8) (by decide)
 obtain ⟨E,eE,hl,y',m',d',hM⟩:=Qs4 hD hK hU (a:=a12) (b:=a13) (c:=a14) g.date
 have hv:∀x∈E,x.v.length<=4096:=λx hx=>by have:=hM.len x hx;omega
 have l2:(E.map Evt.r).length=E.length:=by simp
 unfold z144.F
 rw [e,Zb]
 simp only
 rw [eE,Zb]
 cases a18 with
 |false=>exact ⟨t,E,g,hl,hv,rfl⟩
 |
  true=>
  simp only [Zn,Zc]
  obtain ⟨o,r,ho⟩:=Qj6 hl E.length 0 (by omega)
  have el:z144.l0 (E.length:Int) (E.map Evt.r) 0=some o:=r.lfp
  rw [l2,el,Zb]
  cases o with
  |inl p=>exact ⟨t,E,g,hl,hv,rfl⟩
  |
   inr q=>
   obtain ⟨j,rfl,hj⟩:=ho q rfl
   have w:wr .i64 ((j:Int)+1)=((j+1:Nat):Int):=by rw [Qc (by omega) (by omega)];rfl
   obtain ⟨i',j',M',r2,h1,h2,h3⟩:=Qg1 (E.length-(j+1)) j (j+1) E (by omega) (by omega) hl
   have el2:z144.l0a ((j:Int),((j+1:Nat):Int),E.map Evt.r)=some ((i':Int),(j':Int),M'.map Evt.r):=r2.lfp
   have l3:(M'.map Evt.r).length=M'.length:=by simp
   have lt:((M'.map Evt.r).take i').length=i':=by rw [Z8];omega
   simp only
   rw [Qb (by omega),w,el2,Zb]
   simp only
   rw [if_pos (by omega),if_pos (by rw [Zi];omega)]
   simp only [Zi]
   rw [if_pos (by
    simp only [Z10,Z8,Z73,Z35,l3]
    omega)]
   refine ⟨t,M'.take i',g,by rw [Z8];omega,λx hx=>hv x (h3 x (Z56 hx)),?_⟩
   rw [Z34,Z82,List.take_append_of_le_length (by omega),List.take_take,Nat.min_self,List.map_take]
def Pd:List Evt->Int
 |[]=>0
 |e::es=>(if e.k=1 then (mMoney e.v).1 else 0)+Pd es
theorem Qlc:∀(a b:List Evt),Pd (a++b)=Pd a+Pd b
 |[],b=>by simp [Pd]
 |e::a,b=>by simp only [Z111,Pd];rw [Qlc a b];omega
theorem Qof {t:Tm} {b:D3} {left:Nat}:∀(es:List Evt) (s:Ls) (l:List Lg),(∀e∈es,inK e)->∀x,(mEvs t b left es s l).2=some x->x.1.z=s.z-Pd (es.take (mEvs t b left es s l).1)
 |
  [],s,l,_,x,hx=>by
  simp only [mEvs,Zs] at hx
  subst hx
  simp [mEvs,Pd]
 |
  a::es,s,l,hin,x,hx=>by
  unfold mEvs at hx ⊢
  by_cases hc:cmpD a.day b>=0
  ·rw [if_pos hc] at hx ⊢
   simp only [Zs] at hx
   subst hx
   simp [Pd]
  ·rw [if_neg hc] at hx ⊢
   cases hh:mHap t a s l left with
   |none=>rw [hh] at hx;simp at hx
   |
    some y=>
    rw [hh] at hx
    have hz:y.1.z=s.z-(if a.k=1 then (mMoney a.v).1 else 0):=by
     unfold mHap at hh
     rcases (hin a (by simp)).2 with hk|hk
     ·rw [if_neg (by omega)] at hh
      split at hh
      ·simp at hh
      ·simp only [Zs] at hh;subst hh;rw [if_pos hk]
     ·rw [if_pos hk] at hh
      simp only [Zs] at hh;subst hh;rw [if_neg (by omega)];simp
    have ih:=Qof es y.1 y.2 (λe h=>hin e (by simp [h])) x hx
    simp only [List.take_succ_cons,Pd]
    rw [ih,hz];omega
structure Qd8 (r:Rw):Prop where
 b:0<=r.b/\r.b<=10^30
 n:0<=r.n/\sz r.n.natAbs<=4000
def sumB:List Rw->Int
 |[]=>0
 |r::l=>r.b+sumB l
theorem Qyp {q:Rat} (h:0<=q):q<=((q.num:Int):Rat):=by
 have er:=Qcy q
 have hd0:((q.den:Nat):Rat)≠0:=Qar (by have:=q.den_pos;omega)
 have hd1:(1:Rat)<=((q.den:Nat):Rat):=Rat.natCast_le_natCast.2 q.den_pos
 have e:(q.num:Rat)=q*((q.den:Nat):Rat):=by
  have:=Rat.div_mul_cancel (a:=(q.num:Rat)) hd0
  rw [er] at this
  exact this.symm
 rw [e]
 have h2:=Z115 h (show 0<=((q.den:Nat):Rat)-1 by grind)
 generalize ((q.den:Nat):Rat)=d at *
 grind
theorem Qqw (m:Int) {q:Rat} {B:Nat} (h0:0<=q) (h:q<=((B:Nat):Rat)):(rnd m q).natAbs<=B+1:=by
 have hn:=Z119.2 h0
 have er:=Qcy q
 have hd0:((q.den:Nat):Rat)≠0:=Qar (by have:=q.den_pos;omega)
 have e:(q.num:Rat)=q*((q.den:Nat):Rat):=by
  have:=Rat.div_mul_cancel (a:=(q.num:Rat)) hd0
  rw [er] at this
  exact this.symm
 have hmul:(q.num:Rat)<=((B:Nat):Rat)*((q.den:Nat):Rat):=by
  rw [e]
  exact Rat.mul_le_mul_of_nonneg_right h (Rat.natCast_nonneg)
 rw [<-Rat.natCast_mul] at hmul
 have hi:q.num<=((B*q.den:Nat):Int):=Z80.1 hmul
 have hq:q.num.natAbs<=B*q.den:=by omega
 have hdiv:q.num.natAbs/q.den<=B:=Nat.div_le_of_le_mul (by rw [Z24];exact hq)
 obtain ⟨a1,_⟩:=Qjv m q
 rw [a1]
 unfold rndN
 split<;>omega
theorem Qn8 {b:Int} {tu:D3} {B:Rat} (hB:0<=B):∀(l:List Lg) (s:Rat),(∀x∈l,term b tu x<=B)->exL b tu s l<=s+((l.length:Nat):Rat)*B
 |
  [],s,_=>by
  have e:exL b tu s []=s:=rfl
  rw [e]
  show s<=s+((0:Nat):Rat)*B
  have:((0:Nat):Rat)=0:=rfl
  grind
 |
  x::l,s,h=>by
  have hx:=h x (by simp)
  have hl:((((x::l).length:Nat)):Rat)=((l.length:Nat):Rat)+1:=by rw [Z9,Rat.natCast_add];rfl
  have hnn:0<=((l.length:Nat):Rat)*B:=Z115 Rat.natCast_nonneg hB
  rw [hl]
  unfold exL
  split
  ·generalize ((l.length:Nat):Rat)=n at *
   grind
  ·have ih:=Qn8 hB l (s+term b tu x) λy hy=>h y (by simp [hy])
   generalize ((l.length:Nat):Rat)=n at *
   grind
theorem Qsd (t:Tm) {tu:D3} (hr:rightD tu) {l:List Lg} (hg:mLegs none l=0) (hl:l.length<=17):0<=Qz t tu l/\sz (Qz t tu l).natAbs<=4000:=by
 have hk:=Qfh hg
 have h0:=Qlx (b:=t.basis) hr l 0 λx hx=>by
  obtain ⟨a1,a2,a3⟩:=hk x hx
  exact ⟨a1,a2,a3,(J6 x.op).1,Qp0 x.rt⟩
 obtain ⟨k,hk0⟩:∃k:Nat,k=296:=⟨_,rfl⟩
 obtain ⟨M,hM⟩:∃M:Nat,M=10^k:=⟨_,rfl⟩
 have sM:sz M<=592:=by
  have h10:sz 10<=2:=sz_le (by decide)
  have h1:=Z43 k h10
  have h2:=Qiu 10 (show k≠0 by omega)
  rw [hM]
  omega
 have ht:∀x∈l,term t.basis tu x<=((M:Nat):Rat):=λx hx=>by
  obtain ⟨a1,a2,a3⟩:=hk x hx
  have hS:=Qg7 (b:=t.basis) a1 a2 hr
  by_cases hn:0<=term t.basis tu x
  ·have h1:=Qyp hn
   have h2:=Jo (term t.basis tu x).num.natAbs
   have h3:(10:Nat)^sz (term t.basis tu x).num.natAbs<=M:=by
    rw [hM];exact Z33 (by decide) (by have:=hS.1;omega)
   have h4:(term t.basis tu x).num<=((M:Nat):Int):=by omega
   exact Rat.le_trans h1 (Z80.2 h4)
  ·have:(0:Rat)<=((M:Nat):Rat):=Rat.natCast_nonneg
   generalize ((M:Nat):Rat)=w at *
   grind
 have hle:=Qn8 (b:=t.basis) (tu:=tu) (B:=((M:Nat):Rat)) Rat.natCast_nonneg l 0 ht
 have hB:exL t.basis tu 0 l<=((17*M:Nat):Rat):=by
  refine Rat.le_trans hle ?_
  have e:(0:Rat)+((l.length:Nat):Rat)*((M:Nat):Rat)=((l.length*M:Nat):Rat):=by rw [Rat.natCast_mul,Rat.zero_add]
  rw [e]
  exact Rat.natCast_le_natCast.2 (Z3 _ hl)
 have hr2:=Qqw t.mode h0 hB
 refine ⟨Qg0 _ h0,?_⟩
 show sz (rnd t.mode (exL t.basis tu 0 l)).natAbs<=4000
 have q1:=Q5 hr2
 have q2:=Qax (17*M) 1
 have q3:=W3 17 M
 have q4:sz 1<=1:=sz_le (by decide)
 have q5:sz 17<=2:=sz_le (by decide)
 omega
theorem Ql2 {t:Tm} (h:mCheck t=0):∀(ps:List (D3×D3)) (es:List Evt) (s:Ls) (dn:Nat) (rows:List Rw) (a:D3),okP ps->ps.length<=30->Ch a ps->es.length<=16->(∀e∈es,inK e)->(∀q,ps.getLast? = some q->∀e∈es,numD e.day<numD q.2) ->
  LsOK s->Asc a es->ps≠[]->(W4 t ps es s dn rows).2.2=0 ->
  ∃R,(W4 t ps es s dn rows).1=rows++R/\R.length=ps.length/\(∀r∈R,Qd8 r)/\sumB R+Pd es=s.z/\∃r,R.getLast? = some r/\r.c=0
 |[],es,s,dn,rows,a,_,_,_,_,_,_,_,_,hne,_=>absurd rfl hne
 |
  p::ps,es,s,dn,rows,a,hp,hps,hch,hes,hin,hlast,hs,ha,_,hcode=>by
  obtain ⟨hc1,hc2⟩:=hch
  have hpi:=hp p (by simp)
  have hleg:=Qo8 hpi hs
  have hn:1<=ps.length+1/\ps.length+1<=30:=by simp at hps;omega
  have hok:=Qhk h hpi.2.1 hn es s [⟨p.1,p.2,itxt s.z,s.r⟩] p.1 hin hs hleg (by rw [hc1];exact ha)
  have hpaid:=Qof (t:=t) (b:=p.2) (left:=ps.length+1) es s [⟨p.1,p.2,itxt s.z,s.r⟩] hin
  unfold W4 at hcode ⊢
  obtain ⟨k,hkk⟩:∃k,k=(mEvs t p.2 (ps.length+1) es s [⟨p.1,p.2,itxt s.z,s.r⟩]).1:=⟨_,rfl⟩
  rw [<-hkk] at hcode hok hpaid ⊢
  cases hq:(mEvs t p.2 (ps.length+1) es s [⟨p.1,p.2,itxt s.z,s.r⟩]).2 with
  |none=>rw [hq] at hcode;simp at hcode
  |
   some x=>
   rw [hq] at hcode hok hpaid
   simp only at hcode ⊢
   obtain ⟨g1,⟨f',g2⟩,g3,g4⟩:=hok x rfl
   have hz:=hpaid x rfl
   have hlg:x.2.length<=17:=by simp at g3;omega
   have hpo:=Qsd t hpi.2.1 g2.ok hlg
   have hpr:=Qg2 (kind:=t.kind) (one:=x.1.one) (n:=Qz t p.2 x.2) (decide (ps=[])) g1.z.1
   have hg1:=g1.z
   have hrow:Qd8 (dueR t p.2 x.2 (decide (ps=[])) x.1):=⟨⟨hpr.1,by show partR t.kind x.1.one x.1.z (Qz t p.2 x.2) (decide (ps=[]))<=10^30;omega⟩,hpo⟩
   have hsplit:Pd es=Pd (es.take k)+Pd (es.drop k):=by rw [<-Qlc,List.take_append_drop]
   by_cases hps0:ps=[]
   ·subst hps0
    have hdr:es.drop k=[]:=by
     cases hd:es.drop k with
     |nil=>rfl
     |
      cons e r=>
      rw [hd] at g4
      have h1:=g4.1
      have h2:=hlast p rfl e (Z67 (by rw [hd];simp:e∈es.drop k))
      omega
    have hb:(dueR t p.2 x.2 true x.1).b=x.1.z:=by
     show partR t.kind x.1.one x.1.z (Qz t p.2 x.2) true=x.1.z
     unfold partR;simp
    have hc:(dueR t p.2 x.2 true x.1).c=0:=by
     show x.1.z-partR t.kind x.1.one x.1.z (Qz t p.2 x.2) true=0
     have:partR t.kind x.1.one x.1.z (Qz t p.2 x.2) true=x.1.z:=hb
     omega
    refine ⟨[dueR t p.2 x.2 true x.1],rfl,rfl,λr hr=>?_,?_,_,rfl,hc⟩
    ·simp only [Z113] at hr;subst hr;exact hrow
    ·rw [hsplit,hdr]
     simp only [sumB,Pd]
     rw [hb,hz];omega
   ·have hl2:∀q,ps.getLast? = some q->∀e∈es.drop k,numD e.day<numD q.2:=λq hq e he=>hlast q (by
     cases ps with
     |nil=>exact absurd rfl hps0
     |cons p2 ps2=>rw [List.getLast?_cons_cons];exact hq) e (Z67 he)
    obtain ⟨R,r1,r2,r3,r4,r5⟩:=Ql2 h ps (es.drop k) (Qdy t p.2 x.2 (decide (ps=[])) x.1) (dn+k) (rows++[dueR t p.2 x.2 (decide (ps=[])) x.1]) p.2 (λq hq=>hp q (by simp [hq])) (by simp at hps;omega) hc2 (by rw [Z35];omega) (λe he=>hin e (Z67 he)) hl2 (Qp1 g1) g4 hps0 hcode
    refine ⟨dueR t p.2 x.2 (decide (ps=[])) x.1::R,by rw [r1,Z82];rfl,by simp [r2],λr hr=>?_,?_,?_⟩
    ·rcases Z103.1 hr with rfl|hr
     ·exact hrow
     ·exact r3 r hr
    ·have haz:(Qdy t p.2 x.2 (decide (ps=[])) x.1).z=x.1.z-(dueR t p.2 x.2 (decide (ps=[])) x.1).b:=rfl
     simp only [sumB]
     omega
    ·obtain ⟨r,e1,e2⟩:=r5
     refine ⟨r,?_,e2⟩
     cases R with
     |nil=>simp at e1
     |cons u R=>rw [List.getLast?_cons_cons];exact e1
theorem Qo7 {z:Int} (h:0<=z) (hs:sz z.natAbs<=4000):mWhole (itxt z)=(z,0):=by
 have e:itxt z=txt z.natAbs:=by unfold itxt;rw [if_neg (by omega)]
 have:=Qe0 z.natAbs
 rw [e,Qll (by omega)]
 show (((z.natAbs:Nat):Int),(0:Int))=(z,0)
 rw [show ((z.natAbs:Nat):Int)=z by omega]
theorem Qme {R:List Rw} (hR:∀r∈R,Qd8 r) (hl:R.length<=30):∀(f i:Nat) (z:Int),i+f=R.length->0<=z->sz z.natAbs<=31+i ->
  Runs (λrec x=>z145.l0P (R.map rwv) (((R.map rwv).length:Nat):Int) rec some x) ((i:Int),lb z.natAbs,neg z) (.inl ((R.length:Int),lb (z+sumB (R.drop i)).natAbs,neg (z+sumB (R.drop i))))
 |
  0,i,z,hf,h0,h1=>by
  have e1:R.drop i=[]:=Z68 (by omega)
  have e2:i=R.length:=by omega
  rw [e1]
  refine .done λrec=>?_
  unfold z145.l0P
  simp only
  rw [Qb (by rw [Z13];omega),e2,show z+sumB []=z from Z114 z]
 |
  f+1,i,z,hf,h0,h1=>by
  have hi:i<R.length:=by omega
  have hr:=hR _ (Z15 hi)
  have w:wr .i64 ((i:Int)+1)=((i+1:Nat):Int):=by rw [Qc (by omega) (by omega)];rfl
  have hb:=hr.b
  have hn:=hr.n
  have s1:=Ys hb
  have sa:=Qdq z R[i].b
  have l1:=Qk z.natAbs
  have l2:=Qk R[i].b.natAbs
  have ih:=Qme hR hl f (i+1) (z+R[i].b) (by omega) (by omega) (by omega)
  have e:z+sumB (R.drop i)=z+R[i].b+sumB (R.drop (i+1)):=by
   rw [Z30 hi]
   simp only [sumB];omega
  rw [e]
  refine .step (λrec=>?_) ih
  unfold z145.l0P
  simp only
  rw [bif_t (by rw [Z13];omega),if_pos (by rw [Z13];omega),Zi,Qal rwv hi]
  simp only [asW0,asW1,asW2,asW3,asW4,asW5,asW6,asW7]
  rw [whole_Parse,Zb,whole_Parse,Zb,Qo7 hb.1 (by omega),Qo7 hn.1 (by omega)]
  simp only [decide_true,Zn,Zc]
  rw [W6,Zb,Qb (λhh=>by have:=Wm.1 hh;omega),W6,Zb,Qb (λhh=>by have:=Wm.1 hh;omega),Qdo (by omega),Zb,w]
theorem Qwt {v:J1} (h:Qab v=0):(mMoney v).1=(mWhole v).1:=by
 obtain ⟨h1,h2,h3⟩:=Quc h
 unfold mMoney
 rw [if_neg (λhh=>hh h1),if_neg (by omega)]
theorem Qib {E:List Evt} (hE:∀e∈E,inK e) (hl:E.length<=16):∀(f i:Nat) (z:Int),i+f=E.length->0<=z->sz z.natAbs<=62+i ->
  Runs (λrec x=>z145.l2P (E.map Evt.r) (((E.map Evt.r).length:Nat):Int) rec some x) ((i:Int),lb z.natAbs,neg z) ((E.length:Int),lb (z+Pd (E.drop i)).natAbs,neg (z+Pd (E.drop i)))
 |
  0,i,z,hf,h0,h1=>by
  have e1:E.drop i=[]:=Z68 (by omega)
  have e2:i=E.length:=by omega
  rw [e1]
  refine .done λrec=>?_
  unfold z145.l2P
  simp only
  rw [Qb (by rw [Z13];omega),e2,show z+Pd []=z from Z114 z]
 |
  f+1,i,z,hf,h0,h1=>by
  have hi:i<E.length:=by omega
  have he:=hE _ (Z15 hi)
  have w:wr .i64 ((i:Int)+1)=((i+1:Nat):Int):=by rw [Qc (by omega) (by omega)];rfl
  have hm:=J6 E[i].v
  have sm:=Qgq E[i].v
  have sa:=Qdq z (mMoney E[i].v).1
  have l1:=Qk z.natAbs
  by_cases hk:E[i].k=1
  ·have hv:=he.1.v
   unfold mVal at hv
   rw [if_neg (by omega),if_neg (by omega),if_neg (by omega)] at hv
   have hmw:=Qwt hv
   have s1:=Ys hm
   have l2:=Qk (mWhole E[i].v).1.natAbs
   rw [<-hmw] at l2
   have ih:=Qib hE hl f (i+1) (z+(mMoney E[i].v).1) (by omega) (by omega) (by omega)
   have e:z+Pd (E.drop i)=z+(mMoney E[i].v).1+Pd (E.drop (i+1)):=by
    rw [Z30 hi]
    simp only [Pd];rw [if_pos hk];omega
   rw [e]
   refine .step (λrec=>?_) ih
   unfold z145.l2P
   simp only
   rw [bif_t (by rw [Z13];omega),if_pos (by rw [Z13];omega),Zi,Qao hi]
   simp only [eK,eY,eM,eD,eV]
   rw [bif_t hk,whole_Parse,Zb,<-hmw]
   simp only
   rw [Qdo (by omega),Zb,w]
  ·have ih:=Qib hE hl f (i+1) z (by omega) h0 (by omega)
   have e:z+Pd (E.drop i)=z+Pd (E.drop (i+1)):=by
    rw [Z30 hi]
    simp only [Pd];rw [if_neg hk];omega
   rw [e]
   refine .step (λrec=>?_) ih
   unfold z145.l2P
   simp only
   rw [bif_t (by rw [Z13];omega),if_pos (by rw [Z13];omega),Zi,Qao hi]
   simp only [eK,eY,eM,eD,eV]
   rw [Qb hk,w]
theorem Qo1:∀(R:List Rw),(∀r∈R,Qd8 r)->0<=sumB R/\sz (sumB R).natAbs<=31+R.length
 |[],_=>⟨Z99 _,by show sz 0<=_;rw [Js];omega⟩
 |
  r::R,h=>by
  have h1:=(h r (by simp)).b
  have s1:=Ys h1
  obtain ⟨h2,h3⟩:=Qo1 R λx hx=>h x (by simp [hx])
  have sa:=Qdq r.b (sumB R)
  simp only [sumB,Z9]
  omega
theorem Qv4 {t:Tm} (h:mCheck t=0) (hc:t.count<=30) {E:List Evt} (hE:E.length<=16) (hv:∀e∈E,e.v.length<=4096) (hcode:(mBuildR t E).2.2=0) :
  (mBuildR t E).1.length=t.count.toNat/\(∀r∈(mBuildR t E).1,Qd8 r)/\sumB (mBuildR t E).1+Pd E=(mMoney t.p).1/\(∀e∈E,inK e)/\∃r,(mBuildR t E).1.getLast? = some r/\r.c=0:=by
 obtain ⟨_,hcc,hst,_⟩:=Y0 h
 have hplen:=Qk7 t
 have hk:(mChk 0 0 0 0 E).2=0:=Classical.byContradiction λhk=>by
  rw [Qlr hk] at hcode;exact hk hcode
 have hw:(mWrong t (lastD t) 0 E).2=0:=Classical.byContradiction λhw=>by
  rw [Qnw hk hw] at hcode;exact hw hcode
 rw [Qkb hk hw] at hcode ⊢
 have hw':=Qha E 0 hw
 have hseq:=(Qiq E 0 0 0 0 hv hk).1
 have hin:∀e∈E,inK e:=λe he=>⟨Qg5 hseq e he,(hw' e he).1⟩
 have hasc:=Qny E t.start hst hseq λe he=>(hw' e he).2.1
 have hlast:∀q,t.periods.getLast? = some q->∀e∈E,numD e.day<numD q.2:=λq hq e he=>by
  have h1:=(hw' e he).2.2
  have e1:lastD t=q.2:=by unfold lastD;rw [hq];rfl
  have hqr:=Qjp h q (List.mem_of_getLast? hq)
  rw [e1,Yy (hin e he).1.d hqr.2.1,Qb7] at h1
  omega
 obtain ⟨R,r1,r2,r3,r4,r5⟩:=Ql2 h t.periods E (Yj t) 0 [] t.start (Qjp h) (by omega) (Qjo t.start t.dates) hE hin hlast (Qlk h hc) hasc (λe0=>by rw [e0] at hplen;simp at hplen;omega) hcode
 rw [Z107] at r1
 simp only
 rw [r1]
 exact ⟨by rw [r2,hplen],r3,r4,hin,r5⟩
theorem Qt6 {t:Tm} {most:Int} (g:Good t most) (h:mCheck t=0) (hc:t.count<=30) {E:List Evt} (hE:E.length<=16) (hv:∀e∈E,e.v.length<=4096) (hcode:(mBuildR t E).2.2=0) (u v:Int) :
  z145.j7 ((mBuildR t E).1.map rwv,u,v) (t.p,t.r,t.kind,t.basis,t.mode,t.y,t.m,t.d,t.every,t.count,E.map Evt.r)=some true:=by
 obtain ⟨w1,w2,w3,w4,r,w5,w6⟩:=Qv4 h hc hE hv hcode
 obtain ⟨_,hcc,_,_⟩:=Y0 h
 obtain ⟨R,hR⟩:∃R,R=(mBuildR t E).1:=⟨_,rfl⟩
 rw [<-hR] at w1 w2 w3 w5 ⊢
 have hs:=Qo1 R w2
 have s0:sz (Int.natAbs 0)<=31:=by show sz 0<=_;rw [Js];omega
 have k1:=(Qme w2 (by omega) R.length 0 0 (by omega) (Z99 _) (by omega)).lfp
 rw [Z34,Int.zero_add,show Int.natAbs 0=0 from rfl,lb_zero] at k1
 have k2:=(Qib w4 hE E.length 0 (sumB R) (by omega) hs.1 (by omega)).lfp
 rw [Z34,w3] at k2
 have l2:(R.map rwv).length=R.length:=by simp
 have hw:wr .i64 ((((R.map rwv).length:Nat):Int)-1)=((R.length-1:Nat):Int):=by rw [l2,Qc (by omega) (by omega)];omega
 have hi:R.length-1<R.length:=by omega
 have hlast:R[R.length-1]=r:=by
  rw [List.getLast?_eq_getElem?,Z1 hi] at w5
  exact Option.some.inj w5
 have hz:=J6 t.p
 have hsz:=Qgq t.p
 have hp:itxt (mMoney t.p).1=t.p:=by
  obtain ⟨n,e,_,hn⟩:=g.money
  rw [e,Qc1 hn]
  unfold itxt
  rw [if_neg (by show ¬((n:Nat):Int)<0;omega)]
  rfl
 have t0:itxt 0=[48]:=by decide +kernel
 unfold z145.j7
 simp only
 refine (congrArg (λo=>Option.bind o _) k1).trans ?_
 rw [Zb]
 simp only
 refine (congrArg (λo=>Option.bind o _) k2).trans ?_
 rw [Zb]
 simp only
 rw [bif_t (by rw [l2];omega),Jj (by omega),Zb,hp]
 simp only [decide_true,Zd]
 rw [hw,if_pos (by rw [l2];omega),Zi,Qal rwv hi,hlast]
 simp only [asW0,asW1,asW2,asW3,asW4,asW5,asW6,asW7]
 rw [w6,t0]
 rfl
theorem Qy8 {a0 a1 a2 a3 a4 a5 a6 a7 a8 a9 a10 a11 a12 a13 a14:Int} {a15 a16 a17:J0} {a18:Bool} (h0:(Lit.int .u64 a0).wf=true) (h1:(Lit.int .u16 a1).wf=true) (h2:(Lit.int .u32 a2).wf=true) (h3:(Lit.int .u8 a3).wf=true) (h4:(Lit.int .u8 a4).wf=true) (h5:(Lit.int .u8 a5).wf=true)
  (h6:(Lit.int .u8 a6).wf=true) (h7:(Lit.int .u8 a7).wf=true) (h8:(Lit.int .u8 a8).wf=true) (h15:∀n∈a15,(Lit.int .u8 n).wf=true) (h16:∀n∈a16,(Lit.int .u8 n).wf=true) (h17:∀n∈a17,(Lit.int .u32 n).wf=true) :
  z145.F a0 a1 a2 a3 a4 a5 a6 a7 a8 a9 a10 a11 a12 a13 a14 a15 a16 a17 a18=some true:=by
 obtain ⟨t,E,g,hl,hv,e⟩:=Qss (a9:=a9) (a10:=a10) (a11:=a11) (a12:=a12) (a13:=a13) (a14:=a14) true h0 h1 h2 h3 h4 h5 h6 h7 h8 (λn hn=>Qaw (h15 n hn)) (λn hn=>Qaw (h16 n hn)) (λn hn=>Qpc (h17 n hn))
 have hok:=Qxp g (by decide)
 have hc:t.count<=30:=by have:=g.count;omega
 have e1:=Qh4 hok hc (es:=E) (by omega) hv
 unfold z145.F
 rw [e,Zb]
 refine (congrArg (λo=>Option.bind o _) e1).trans ?_
 rw [Zb,Qsn,Zb]
 simp only [Zn,Zc]
 by_cases hcode:(mBuildR t E).2.2=0
 ·rw [Zt hcode]
  exact Qt6 g hok hc hl hv hcode _ _
 ·rw [Zf hcode];rfl
end Go.Proofs.YtihfdjkjpncjfaaGreatDoor.A
end
section
set_option linter.unusedVariables false
namespace Go.Proofs.YtihfdjkjpncjfaaGreatDoor.A
open Go
namespace ReplanWhole
theorem law (a0:Int) (a1:Int) (a2:Int) (a3:Int) (a4:Int) (a5:Int) (a6:Int) (a7:Int) (a8:Int) (a9:Int) (a10:Int) (a11:Int) (a12:Int) (a13:Int) (a14:Int) (a15:J0) (a16:J0) (a17:J0) (a18:Bool) (h0:(Lit.int .u64 a0).wf=true) (h1:(Lit.int .u16 a1).wf=true) (h2:(Lit.int .u32 a2).wf=true) (h3:(Lit.int .u8 a3).wf=true) (h4:(Lit.int .u8 a4).wf=true) (h5:(Lit.int .u8 a5).wf=true) (h6:(Lit.int .u8 a6).wf=true) (h7:(Lit.int .u8 a7).wf=true) (h8:(Lit.int .u8 a8).wf=true) (h9:(Lit.int .i64 a9).wf=true) (h10:(Lit.int .i64 a10).wf=true) (h11:(Lit.int .i64 a11).wf=true) (h12:(Lit.int .i64 a12).wf=true) (h13:(Lit.int .i64 a13).wf=true) (h14:(Lit.int .i64 a14).wf=true) (h15:(∀n∈a15,(Lit.int .u8 n).wf=true)/\a15.length<=maxLen) (h16:(∀n∈a16,(Lit.int .u8 n).wf=true)/\a16.length<=maxLen) (h17:(∀n∈a17,(Lit.int .u32 n).wf=true)/\a17.length<=maxLen):z145.F a0 a1 a2 a3 a4 a5 a6 a7 a8 a9 a10 a11 a12 a13 a14 a15 a16 a17 a18=some true:=
 Qy8 h0 h1 h2 h3 h4 h5 h6 h7 h8 h15.1 h16.1 h17.1
end ReplanWhole
end Go.Proofs.YtihfdjkjpncjfaaGreatDoor.A
end
section
set_option maxRecDepth 100000
namespace Go.Proofs.YtihfdjkjpncjfaaGreatDoor.A
open Go Go.RowKit Go.ChangeShapes Go.WideShapes Go.ChangeAt
noncomputable section
namespace ReplanWhole
theorem wide:Qb0 Tryz.prog 8 Tryz.f5.params.toList=some [(.agg [.sc (.i .u64),.sc (.i .u16),.sc (.i .u32),.sc (.i .u8),.sc (.i .u8),.sc (.i .u8),.sc (.i .u8),.sc (.i .u8),.sc (.i .u8),.sc (.i .i64),.sc (.i .i64),.sc (.i .i64),.sc (.i .i64),.sc (.i .i64),.sc (.i .i64),.sl [(.i .u8)],.sl [(.i .u8)],.sl [(.i .u32)],.sc .b])]:=by kernel_rfl
theorem readable:Tryz.f5.params.toList.all (λt=>Tryz.prog.readableRec t&&decide (t<Tryz.prog.types.size))=true:=by kernel_rfl
noncomputable def args0:Array Value:=#[.agg #[.int .u64 0,.int .u16 0,.int .u32 0,.int .u8 0,.int .u8 0,.int .u8 0,.int .u8 0,.int .u8 0,.int .u8 0,.int .i64 0,.int .i64 0,.int .i64 0,.int .i64 0,.int .i64 0,.int .i64 0,.slice none 0 0,.slice none 0 0,.slice none 0 0,.bool false]]
theorem laid_met (os:Os):laidMet Tryz.prog Rows.replanWholeRow.laid ((Qhf os).forCall (λ_ _=>0) ⟨#[],args0,[]⟩).memory:=
 laidMet_of_run' 12 (by kernel_rfl) (by kernel_rfl)
theorem reads (os:Os) {H:Type} (enc:TypeId×Value->H):∃ds places,DataW.whole enc Tryz.prog ((Qhf os).forCall (λ_ _=>0) ⟨#[],args0,[]⟩).memory Tryz.f5.params.toList Rows.replanWholeSpec.vars false args0.toList 12=some (ds,[],places):=
 ⟨[.agg [.agg [.lit (.int .u64 0),.lit (.int .u16 0),.lit (.int .u32 0),.lit (.int .u8 0),.lit (.int .u8 0),.lit (.int .u8 0),.lit (.int .u8 0),.lit (.int .u8 0),.lit (.int .u8 0),.agg [.lit (.int .i64 0),.lit (.int .i64 0),.lit (.int .i64 0)]],.agg [.agg [.lit (.int .i64 0),.lit (.int .i64 0),.lit (.int .i64 0)],.nil,.nil,.nil],.lit (.bool false)]],[],by kernel_rfl⟩
theorem plainly (vs:List V) (h:okAL [(.agg [.sc (.i .u64),.sc (.i .u16),.sc (.i .u32),.sc (.i .u8),.sc (.i .u8),.sc (.i .u8),.sc (.i .u8),.sc (.i .u8),.sc (.i .u8),.sc (.i .i64),.sc (.i .i64),.sc (.i .i64),.sc (.i .i64),.sc (.i .i64),.sc (.i .i64),.sl [(.i .u8)],.sl [(.i .u8)],.sl [(.i .u32)],.sc .b])] vs):∃p r,SoundC Tryz.prog 5 vs p/\p.m=some r/\p.enc r=.bool true:=by
 obtain ⟨_,_,rfl,⟨_,rfl,_,_,rfl,⟨a0,rfl,h0⟩,_,_,rfl,⟨a1,rfl,h1⟩,_,_,rfl,⟨a2,rfl,h2⟩,_,_,rfl,⟨a3,rfl,h3⟩,_,_,rfl,⟨a4,rfl,h4⟩,_,_,rfl,⟨a5,rfl,h5⟩,_,_,rfl,⟨a6,rfl,h6⟩,_,_,rfl,⟨a7,rfl,h7⟩,_,_,rfl,⟨a8,rfl,h8⟩,_,_,rfl,⟨a9,rfl,h9⟩,_,_,rfl,⟨a10,rfl,h10⟩,_,_,rfl,⟨a11,rfl,h11⟩,_,_,rfl,⟨a12,rfl,h12⟩,_,_,rfl,⟨a13,rfl,h13⟩,_,_,rfl,⟨a14,rfl,h14⟩,_,_,rfl,⟨a15,rfl,h15⟩,_,_,rfl,⟨a16,rfl,h16⟩,_,_,rfl,⟨a17,rfl,h17⟩,_,_,rfl,⟨a18,rfl⟩,rfl⟩,rfl⟩:=h
 exact ⟨⟨Bool,z145.F a0 a1 a2 a3 a4 a5 a6 a7 a8 a9 a10 a11 a12 a13 a14 a15 a16 a17 a18,z7.enc⟩,true,z145.sound _ _ (by kernel_rfl),law a0 a1 a2 a3 a4 a5 a6 a7 a8 a9 a10 a11 a12 a13 a14 a15 a16 a17 a18 h0 h1 h2 h3 h4 h5 h6 h7 h8 h9 h10 h11 h12 h13 h14 h15 h16 h17,rfl⟩
theorem specFn {H:Type} (ds:List (DataW H)) (h:ds.length=Tryz.f5.params.toList.length):Rows.replanWholeSpec.fn H ds={results:=[.lit (.bool true)],args:=ds}:=by
 have h:ds.length=1:=h.trans (by kernel_rfl)
 match ds,h with
 |[d0],_=>rfl
theorem clos:Tryz.prog.closure 5=[5,24,30,62,133,202,64,111,35,103,112,179,180,14,71,104,46,63,84,152,85,25,86,153,198,89,27,92,159,124,93,160,217,216,218,220,295,219,222,296,328,259,315,268,316,261,272,317,332,274,273,221,33,108,107,161,223,297,138,68,139,75,32,16,156,213,293,155,132,81,12,69,140,206,283,207,284,141,184,250,309,329,197,275,318,310,260,37,251,311,252,253,312,313,239,254,255,174,237,243,306,142,143,208,285,286,324,209,287,288,289,290,291,325,172,234,304,235,276,319,333,320,278,334,321,241,335,277,181,183,248,249,211,87,154,148,210,212,292,88,31,105,170,200,171,233,236,238,305,240,173,242,106,90,13,70,144,117,185,256,119,157,42,41,158,214,294,45,116,326,327,336,199,279,280,281,39,114,182,282,322,323,215,26,91]:=by kernel_rfl
theorem inPlace:(Rows.replanWholeRow.inPlace == Tryz.prog.inPlace 5)=true:=by unfold Program.inPlace;rw [clos];kernel_rfl
theorem unfollowed:(Rows.replanWholeRow.unfollowed == Tryz.prog.unfollowed 5)=true:=by unfold Program.unfollowed;rw [clos];kernel_rfl
theorem recurses:(Rows.replanWholeRow.recurses == Tryz.prog.recurses 5)=true:=by unfold Program.recurses Program.unfollowed;rw [clos];kernel_rfl
theorem named:(Rows.replanWholeRow.named == Tryz.prog.varsNamed 5)=true:=by unfold Program.varsNamed;rw [clos];kernel_rfl
theorem number:Tryz.prog.funcNamed "chattel/chattellaw24.ReplanWhole" = some 5:=by kernel_rfl
theorem goes:false=Rows.replanWholeRow.goesBy Tryz.prog:=by
 have h:Tryz.prog.goes 5=false:=by unfold Program.goes Program.unfollowed;rw [clos];kernel_rfl
 have e:Rows.replanWholeRow.goesBy Tryz.prog=((Tryz.prog.funcNamed "chattel/chattellaw24.ReplanWhole").any Tryz.prog.goes||false):=by kernel_rfl
 rw [e,number]
 simp [h]
theorem j_wf:Rows.replanWholeRow.wf (OpenSpec.ofChange (OpenSpec.ofChange Rows.replanWholeSpec).bare)=true:=by kernel_rfl
theorem j_params:(Tryz.f5.params.all (Tryz.pinned.checked.prog.readableRec ·))=true:=by kernel_rfl
theorem j_vars:namedTie Tryz.pinned.checked.prog Rows.replanWholeRow.named (OpenSpec.ofChange Rows.replanWholeSpec).bare.vars=true:=by kernel_rfl
theorem j_stops:(Rows.replanWholeRow.stops == [])=true:=by kernel_rfl
theorem j_knobs:(Rows.replanWholeRow.knobs == [])=true:=by kernel_rfl
theorem j_maps:(Rows.replanWholeRow.maps == (Tryz.f5.params.toList++DataSpec.varTypes Tryz.pinned.checked.prog (OpenSpec.ofChange Rows.replanWholeSpec).bare.plain).any (Tryz.pinned.checked.prog.mapsRec ·))=true:=by kernel_rfl
theorem j_ifaces:(Rows.replanWholeRow.ifaces == (Tryz.f5.params.toList++DataSpec.varTypes Tryz.pinned.checked.prog (OpenSpec.ofChange Rows.replanWholeSpec).bare.plain).any (Tryz.pinned.checked.prog.ifacesRec ·))=true:=by kernel_rfl
theorem j_mapsOut:(Rows.replanWholeRow.mapsOut == Tryz.pinned.checked.prog.mapsAmong Tryz.f5.resultTypes.toList)=true:=by kernel_rfl
theorem j_loops:(Rows.replanWholeRow.loops == (Tryz.f5.params.toList++DataSpec.varTypes Tryz.pinned.checked.prog (OpenSpec.ofChange Rows.replanWholeSpec).bare.plain).any (Tryz.pinned.checked.prog.loopsFrom ·))=true:=by kernel_rfl
theorem j_wideKeys:(Rows.replanWholeRow.wideKeys == (Tryz.f5.params.toList++DataSpec.varTypes Tryz.pinned.checked.prog (OpenSpec.ofChange Rows.replanWholeSpec).bare.plain++Tryz.f5.resultTypes.toList).any (Tryz.pinned.checked.prog.wideKeysFrom ·))=true:=by kernel_rfl
theorem j_varsRead:(OpenSpec.ofChange Rows.replanWholeSpec).bare.vars.all (Tryz.pinned.checked.prog.varReadable ·)=true:=by kernel_rfl
theorem j_results:(Tryz.f5.resultTypes.all λt=>Tryz.pinned.checked.prog.readableRec t&&decide (t<Tryz.pinned.checked.prog.types.size))=true:=by kernel_rfl
theorem j_ifacesOut:(Rows.replanWholeRow.ifacesOut == Tryz.f5.resultTypes.toList.any (Tryz.pinned.checked.prog.ifacesRec ·))=true:=by kernel_rfl
theorem j_loopsOut:(Rows.replanWholeRow.loopsOut == Tryz.f5.resultTypes.toList.any (Tryz.pinned.checked.prog.loopsFrom ·))=true:=by kernel_rfl
theorem j_plainKeys:(Rows.replanWholeRow.plainKeys == Tryz.pinned.checked.prog.plainKeys)=true:=by kernel_rfl
theorem j_short:Rows.replanWholeRow.shortTexts.isNone=true:=by kernel_rfl
theorem j_lift:(Rows.replanWholeRow.lifted == Tryz.pinned.checked.prog.liftsFinal)=true:=by kernel_rfl
theorem j_make:(Tryz.pinned.checked.prog.make == some Rows.replanWholeRow.make)=true:=by kernel_rfl
theorem j_kinds:(Rows.replanWholeRow.kinds == (if Rows.replanWholeRow.domain.isEmpty then [] else Tryz.f5.params.toList.map λt=>match Tryz.pinned.checked.prog.underlying t with|some (.int k)=>some k|_=>none))=true:=by kernel_rfl
theorem j_pinned:(Rows.replanWholeRow.pinned == Rows.replanWholeRow.pinnedBy)=true:=by kernel_rfl
theorem j_veiled:(Rows.replanWholeRow.veiled == (Tryz.f5.params.toList++DataSpec.varTypes Tryz.pinned.checked.prog (OpenSpec.ofChange Rows.replanWholeSpec).bare.plain++Tryz.f5.resultTypes.toList).any (Tryz.pinned.checked.prog.veiledRec ·))=true:=by kernel_rfl
theorem j_veiledFits:Rows.replanWholeRow.veiledFits Tryz.pinned.checked.prog Tryz.f5.params.toList (Tryz.f5.params.toList++DataSpec.varTypes Tryz.pinned.checked.prog (OpenSpec.ofChange Rows.replanWholeSpec).bare.plain++Tryz.f5.resultTypes.toList)=true:=by kernel_rfl
theorem joined:joinedFacts Tryz.pinned.checked.prog 5 Tryz.f5 (OpenSpec.ofChange Rows.replanWholeSpec).bare Rows.replanWholeRow=true:=by
 unfold joinedFacts
 simp only [Z7]
 and_intros
 ·exact j_wf
 ·exact laidOut
 ·exact rowed
 ·exact j_params
 ·exact j_vars
 ·exact j_stops
 ·exact Qw2
 ·exact j_knobs
 ·exact Qxy
 ·exact inPlace
 ·exact unfollowed
 ·exact recurses
 ·exact named
 ·exact j_maps
 ·exact j_ifaces
 ·exact j_mapsOut
 ·exact j_loops
 ·exact j_wideKeys
 ·exact j_varsRead
 ·exact j_results
 ·exact j_ifacesOut
 ·exact j_loopsOut
 ·exact j_plainKeys
 ·exact j_short
 ·exact Qv5
 ·exact Qt5
 ·exact j_lift
 ·exact j_make
 ·exact j_kinds
 ·exact j_pinned
 ·exact j_veiled
 ·exact j_veiledFits
theorem lifted (os:Os) (started:os.Started) (H:Type) (enc:TypeId×Value->H) (F:Stop.Interp) :
  ReturnsInHanded {} Tryz.checked os 5 .any ((OpenSpec.ofChange Rows.replanWholeSpec).preRow enc Tryz.prog Tryz.f5 Rows.replanWholeRow.domain false Rows.replanWholeRow.laid) (((OpenSpec.ofChange Rows.replanWholeSpec).at F).post enc Tryz.prog Tryz.f5 false true false false):=by
 obtain ⟨ds0,places,hx⟩:=reads os enc
 refine returnsInHanded_of_row (C:=Tryz.checked) (s:=OpenSpec.ofChange Rows.replanWholeSpec) own started (by kernel_rfl) Tryz.func5
  (witness_row_at (enc:=enc) (C:=Tryz.checked) false (Qhf os) args0 rfl (by kernel_rfl) (by kernel_rfl) (by kernel_rfl)
   (OpenSpec.preRow_of_cond 12 hx (by kernel_rfl) (λk hk=>by cases hk) (by kernel_rfl) (laid_met os))) ?_
 intro W base args ds gs before hval hW _ _ _ hL _ _
 exact Qvm fun5 laidOut readable wide (tb:=4) (by kernel_rfl) (by kernel_rfl) rfl specFn plainly W base args ds gs before hval hW
theorem wrapped:Tryz.f5.isWrapper Tryz.pinned.checked.prog Rows.replanWholeRow.wrapper Rows.replanWholeRow.mainSum:=by
 unfold Func.isWrapper;first|(rw [if_pos (by decide +kernel)];kernel_rfl)|(rw [if_neg (by decide +kernel)];exact ⟨rfl,rfl⟩)
theorem origin:Tryz.f5.isInstance Tryz.pinned.checked.prog Rows.replanWholeRow.origin Rows.replanWholeRow.targs:=of_decide_eq_true (by kernel_rfl)
theorem said:Rows.ReplanWholeSaid:=
 OpenClaim.holds_of_cond 5 Tryz.f5 rfl rfl rfl rfl rfl rfl rfl ⟨rfl,rfl,rfl,rfl,rfl⟩ rfl rfl rfl rfl rfl number Tryz.func5 joined origin wrapped
  (λos started H enc _ F=>by rw [OpenClaim.pre_eq_preRow];exact lifted os started H enc F)
theorem plainRow (f:FuncId) (fn:Func) (hf:Tryz.pinned.checked.prog.funcNamed "chattel/chattellaw24.ReplanWhole" = some f) (hfn:Tryz.pinned.checked.prog.funcs[f]? = some fn) :
  false=Tryz.pinned.checked.prog.looks []/\∀(j:Nat) t,fn.params[j]? = some t->Tryz.pinned.checked.prog.wantsStandIn t=false:=by
 obtain rfl:f=5:=Option.some.inj (number.symm.trans hf) |>.symm
 obtain rfl:fn=Tryz.f5:=(Option.some.inj (Tryz.func5.symm.trans hfn)).symm
 refine ⟨Qv7,λj t ht=>?_⟩
 have hall:Tryz.f5.params.toList.all (λt=>!Tryz.prog.wantsStandIn t)=true:=by kernel_rfl
 have:=Z23.1 hall t (by simpa using Array.mem_of_getElem? ht)
 exact Z75 _ |>.mp this
theorem card:Rows.ReplanWholeCardSaid:=
 Claim7.holds_tied_plain_at .later [] _ _ _ _ said (λ_ h=>by cases h) (by kernel_rfl) (λ_ h=>by cases h) replanWhole_row_tie rfl ⟨rfl,rfl⟩ main rfl plainRow goes
end ReplanWhole
end
end Go.Proofs.YtihfdjkjpncjfaaGreatDoor.A
end
