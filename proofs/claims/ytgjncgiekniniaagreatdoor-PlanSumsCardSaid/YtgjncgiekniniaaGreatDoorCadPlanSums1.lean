/- PlanSums: part 1 of what is its own. -/
import Derived.Test.YtgjncgiekniniaaGreatDoorCadPlanSums0
import Derived.Deep.DeepHandedRow
import Derived.Lib.LaidTab
set_option linter.unusedVariables false
set_option linter.unusedSimpArgs false
section
namespace Go.Proofs.YtgjncgiekniniaaGreatDoor.A
open Go
theorem Qdm (m:Int) {q:Rat} (h:0<=q):0<=rnd m q:=by
 have:=Rat.num_nonneg.2 h
 unfold rnd
 rw [if_neg (by omega)]
 omega
theorem divInt_nonneg {a b:Int} (h:0<=a) (h':0<b):0<=Rat.divInt a b:=by
 rw [Rat.divInt_eq_div,Rat.div_def]
 have e1:((0:Int):Rat)<=(a:Rat):=Rat.intCast_le_intCast.2 h
 have e2:((0:Int):Rat)<(b:Rat):=Rat.intCast_lt_intCast.2 h'
 exact Rat.mul_nonneg e1 (Rat.le_of_lt (Rat.inv_pos.2 e2))
theorem Qhv {a r:Rat} {n:Nat} (ha:0<=a) (hr:0<=r) (hn:1<=n):0<=lvl a r n:=by
 by_cases h0:r=0
 ·unfold lvl
  rw [if_pos h0,Rat.div_def]
  have e:((0:Nat):Rat)<=((n:Nat):Rat):=Rat.natCast_le_natCast.2 (Nat.zero_le n)
  have hn0:((0:Nat):Rat)<((n:Nat):Rat):=Rat.natCast_lt_natCast.2 (by omega)
  exact Rat.mul_nonneg ha (Rat.le_of_lt (Rat.inv_pos.2 hn0))
 ·have hpos:0<r:=by grind
  rw [<-Qd5 hpos (by omega)]
  have hnum:0<=r.num:=Rat.num_nonneg.2 hr
  have hne:r.num≠0:=λe=>h0 (Rat.num_eq_zero.1 e)
  have hna:0<=a.num:=Rat.num_nonneg.2 ha
  have hlt:r.den^n<(r.num.natAbs+r.den)^n:=Nat.pow_lt_pow_left (by omega) (by omega)
  have h2:0<a.den*r.den:=Nat.mul_pos a.den_pos r.den_pos
  have h3:0<a.den*r.den*((r.num.natAbs+r.den)^n-r.den^n):=Nat.mul_pos h2 (by omega)
  exact divInt_nonneg (Int.mul_nonneg (Int.mul_nonneg hna hnum) (by omega)) (by omega)
def eachN (t:Tm):Int:=if t.kind=0 then payN t.mode (mMoney t.p).1 t.r t.every t.count.toNat else if t.kind=1 then Qei t.mode (mMoney t.p).1 t.count.toNat else 0
theorem Qfb {z:Int} (h:0<=z):(0:Rat)<=(z:Rat):=by
 have e1:((0:Int):Rat)<=(z:Rat):=Rat.intCast_le_intCast.2 h
 exact e1
theorem Qla {t:Tm} (h:mCheck t=0) (hc:t.count<=30):0<=eachN t/\sz (eachN t).natAbs<=10000/\z195.F t.p t.r t.kind t.basis t.mode t.y t.m t.d t.every t.count=some (lb (eachN t).natAbs,neg (eachN t),0):=by
 obtain ⟨hk,hcc,_,_⟩:=W6 h
 obtain ⟨k1,k2,k3,k4⟩:=Y6 hk
 have he:=J5 k4
 obtain ⟨i1,i2,_⟩:=(Qj0 t).1 h
 obtain ⟨n,hn⟩:=Wc (show 0<=t.count by omega)
 have hz:=Ji t.p
 have hsz:=Qaa t.p
 have hq:Sq 102 (((mMoney t.p).1:Int):Rat):=Sq.int (by omega) (by decide)
 unfold z195.F
 rw [terms_Money,Zb]
 simp only
 unfold eachN
 by_cases c0:t.kind=0
 ·rw [if_pos c0,bif_t c0,hn,Zi,level_Payment hz.1 (by omega) i2 he (by omega) k3,Zb]
  have hb:=Qe1 t.r he (n:=n) (by omega)
  refine ⟨Qdm _ (Qhv (Qfb hz.1) (Qa3 t.r he.1) (by omega)),?_,rfl⟩
  have:=Qaf t.mode (Qik (n:=n) hq (Qa3 t.r he.1) (Qbs t.r he) (by omega) (by decide) hb)
  show sz (rnd t.mode (lvl ((mMoney t.p).1:Rat) (perR t.r t.every) n)).natAbs<=10000
  omega
 ·rw [if_neg c0,Qa c0]
  by_cases c1:t.kind=1
  ·rw [if_pos c1,bif_t c1,hn,Zi,level_Part hz.1 (by omega) (by omega) k3,Zb]
   have sn:sz n<=4:=sz_le (by omega)
   refine ⟨Qdm _ (divInt_nonneg hz.1 (by omega)),?_,rfl⟩
   have:=Qaf t.mode (Sq.div (k:=200) (n:=(mMoney t.p).1) (d:=(n:Int)) (by omega) (by omega) (by rw [Int.natAbs_natCast];omega))
   show sz (rnd t.mode (Rat.divInt (mMoney t.p).1 n)).natAbs<=10000
   omega
  ·rw [if_neg c1,Qa c1]
   refine ⟨Int.le_refl _,by show sz 0<=_;rw [Qai];omega,?_⟩
   rw [show Int.natAbs 0=0 from rfl,lb_zero];rfl
theorem Qo1:∀(a:D3) (l:List D3),rightD a->(∀x∈l,rightD x)->(∀j (h:j<l.length),numD (if h0:j=0 then a else l[j-1]'(by omega))<=numD l[j])->okP (pairs a l)
 |a,[],_,_,_=>λp hp=>by simp [pairs] at hp
 |
  a,b::l,ha,hl,hn=>by
  intro p hp
  have hb:=hl b (List.mem_cons_self ..)
  rcases List.mem_cons.1 (show p∈(a,b)::pairs b l from hp) with rfl|hp
  ·exact ⟨ha,hb,hn 0 (by simp)⟩
  ·refine Qo1 b l hb (λx hx=>hl x (List.mem_cons_of_mem _ hx)) (λj hj=>?_) p hp
   have:=hn (j+1) (by simp only [List.length_cons];omega)
   rw [dif_neg (by omega)] at this
   by_cases h0:j=0
   ·subst h0;exact this
   ·rw [dif_neg h0]
    obtain ⟨i,rfl⟩:∃i,j=i+1:=⟨j-1,by omega⟩
    exact this
theorem Qga {t:Tm} (h:mCheck t=0):okP t.periods:=by
 have d:=Qwn h
 refine Qo1 t.start t.dates d.start (λx hx=>?_) (λj hj=>?_)
 ·obtain ⟨i,hi,rfl⟩:=List.getElem_of_mem hx
  exact d.right i hi
 ·by_cases h0:j=0
  ·subst h0
   rw [dif_pos rfl]
   exact Int.le_of_lt (d.first 0 hj)
  ·rw [dif_neg h0]
   exact Int.le_of_lt (d.lt (j-1) j (by omega) hj (by omega))
theorem Qdv (t:Tm):t.periods.length=t.count.toNat:=by
 show (pairs t.start t.dates).length=_
 rw [Qfh,t.dates_len]
def mBuild (t:Tm):List Rw:=mRows t (eachN t) (mMoney t.p).1 t.periods
theorem plan_Build {t:Tm} (h:mCheck t=0) (hc:t.count<=30):z198.F t.p t.r t.kind t.basis t.mode t.y t.m t.d t.every t.count=some ((mBuild t).map rwv,0):=by
 obtain ⟨e1,e2,e3⟩:=Qla h hc
 have hz:=Ji t.p
 have hl:=Qdv t
 obtain ⟨st,r⟩:=Qi2 h e1 (by omega) (Qga h) (by omega) t.periods.length 0 (mMoney t.p).1 [] (Nat.zero_add _) hz.1 hz.2 rfl
 rw [List.drop_zero,List.nil_append] at r
 have er:=r.lfp
 unfold z198.F
 rw [dues_Periods,if_pos h,Zb]
 simp only [decide_true,Zn,Zc]
 rw [e3,Zb]
 simp only [decide_true,Zn,Zc]
 rw [terms_Money,Zb]
 simp only
 refine (congrArg (λo=>Option.bind o _) er).trans ?_
 rfl
theorem Qm4 {t:Tm} (h:mCheck t≠0):z198.F t.p t.r t.kind t.basis t.mode t.y t.m t.d t.every t.count=some ([],mCheck t):=by
 unfold z198.F
 rw [dues_Periods,if_neg h,Zb]
 simp only
 rw [Zf h,Zo,Zd]
structure Ro where
 due:D3
 o:List UInt8
 n:List UInt8
 b:List UInt8
 pay:List UInt8
 c:List UInt8
def rov (x:Ro):List V:=[.int .i64 x.due.1,.int .i64 x.due.2.1,.int .i64 x.due.2.2,.str x.o,.str x.n,.str x.b,.str x.pay,.str x.c]
def Rw.ro (x:Rw):Ro:=⟨x.due,itxt x.o,itxt x.n,itxt x.b,itxt x.pay,itxt x.c⟩
theorem Q2g (l:List Rw):l.map rwv=(l.map Rw.ro).map rov:=by rw [List.map_map];rfl
theorem asO0 {R:Type} (x:Ro) (K:Int->Option R):V.asInt .i64 ((rov x).getD 0 .undef) K=K x.due.1:=by simp [rov,V.asInt]
theorem asO1 {R:Type} (x:Ro) (K:Int->Option R):V.asInt .i64 ((rov x).getD 1 .undef) K=K x.due.2.1:=by simp [rov,V.asInt]
theorem asO2 {R:Type} (x:Ro) (K:Int->Option R):V.asInt .i64 ((rov x).getD 2 .undef) K=K x.due.2.2:=by simp [rov,V.asInt]
theorem asO3 {R:Type} (x:Ro) (K:List UInt8->Option R):V.asStr ((rov x).getD 3 .undef) K=K x.o:=by simp [rov,V.asStr]
theorem asO4 {R:Type} (x:Ro) (K:List UInt8->Option R):V.asStr ((rov x).getD 4 .undef) K=K x.n:=by simp [rov,V.asStr]
theorem asO5 {R:Type} (x:Ro) (K:List UInt8->Option R):V.asStr ((rov x).getD 5 .undef) K=K x.b:=by simp [rov,V.asStr]
theorem asO6 {R:Type} (x:Ro) (K:List UInt8->Option R):V.asStr ((rov x).getD 6 .undef) K=K x.pay:=by simp [rov,V.asStr]
theorem asO7 {R:Type} (x:Ro) (K:List UInt8->Option R):V.asStr ((rov x).getD 7 .undef) K=K x.c:=by simp [rov,V.asStr]
def mSum:Int->Int->List Ro->Int×Int×Int
 |a,b,[]=>(a,b,0)
 |a,b,r::l=>if (mMoney r.n).2≠0 then (0,0,(mMoney r.n).2) else if (mMoney r.b).2≠0 then (0,0,(mMoney r.b).2) else mSum (a+(mMoney r.n).1) (b+(mMoney r.b).1) l
abbrev sumO (S:Int×Int×Int) (x:Int×(List Int)×Bool×(List Int)×Bool):(Int×(List Int)×Bool×(List Int)×Bool)⊕(Int×(List Int)×Bool×(List Int)×Bool×(List Int)×Bool×(List Int)×Bool):=
 if S.2.2=0 then .inl (x.1,lb S.1.natAbs,neg S.1,lb S.2.1.natAbs,neg S.2.1) else .inr (S.2.2,[],false,[],false,x.2)
theorem Qg4 {a b:Int} {i:Nat} (h0:0<=a) (h1:a<=10^30*i) (hb0:0<=b) (hb:b<=10^30):0<=a+b/\a+b<=10^30*((i+1:Nat):Int):=by
 have e:(10:Int)^30=1000000000000000000000000000000:=by decide
 rw [e] at *
 omega
theorem Qcs {a:Int} {i:Nat} (h0:0<=a) (h1:a<=10^30*i) (hi:i<=1000000):sz a.natAbs<=40:=sz_le (by
 have e:(10:Int)^30=1000000000000000000000000000000:=by decide
 rw [e] at h1
 have e2:(10:Nat)^40=10000000000000000000000000000000000000000:=by decide
 omega)
theorem Qp0 {l:List Ro} (hl:l.length<=1000000):∀(f i:Nat) (a b:Int),i+f=l.length->0<=a->a<=10^30*i->0<=b->b<=10^30*i ->
  ∃x,Runs (λrec x=>z187.l0P (l.map rov) (((l.map rov).length:Nat):Int) rec some x) ((i:Int),lb a.natAbs,neg a,lb b.natAbs,neg b) (sumO (mSum a b (l.drop i)) x)
 |
  0,i,a,b,hf,_,_,_,_=>by
  refine ⟨((i:Int),[],false,[],false),.done λrec=>?_⟩
  rw [List.drop_eq_nil_of_le (by omega)]
  unfold z187.l0P
  simp only
  rw [Qa (by rw [List.length_map];omega)]
  rfl
 |
  f+1,i,a,b,hf,ha0,ha,hb0,hb=>by
  have hi:i<l.length:=by omega
  have ek:wr .i64 ((i:Int)+1)=((i+1:Nat):Int):=by rw [Qc (by omega) (by omega)];rfl
  have hm1:=Ji l[i].n
  have hm2:=Ji l[i].b
  have z1:=Qaa l[i].n
  have z2:=Qaa l[i].b
  have za:=Qcs ha0 ha (by omega)
  have zb:=Qcs hb0 hb (by omega)
  have la:=Qj a.natAbs
  have lb':=Qj b.natAbs
  have l1:=Qj (mMoney l[i].n).1.natAbs
  have l2:=Qj (mMoney l[i].b).1.natAbs
  rw [List.drop_eq_getElem_cons hi]
  have hstep:∀rec:(Int×(List Int)×Bool×(List Int)×Bool)->Option ((Int×(List Int)×Bool×(List Int)×Bool)⊕(Int×(List Int)×Bool×(List Int)×Bool×(List Int)×Bool×(List Int)×Bool)),
    z187.l0P (l.map rov) (((l.map rov).length:Nat):Int) rec some ((i:Int),lb a.natAbs,neg a,lb b.natAbs,neg b) =
     if (mMoney l[i].n).2≠0 then some (.inr ((mMoney l[i].n).2,[],false,[],false,lb a.natAbs,neg a,lb b.natAbs,neg b)) else if (mMoney l[i].b).2≠0 then some (.inr ((mMoney l[i].b).2,[],false,[],false,lb a.natAbs,neg a,lb b.natAbs,neg b))
     else rec (((i+1:Nat):Int),lb (a+(mMoney l[i].n).1).natAbs,neg (a+(mMoney l[i].n).1),lb (b+(mMoney l[i].b).1).natAbs,neg (b+(mMoney l[i].b).1)):=λrec=>by
   unfold z187.l0P
   simp only
   rw [bif_t (by rw [List.length_map];omega),if_pos (by rw [List.length_map];omega),Zi,Q1 rov hi]
   simp only [asO0,asO1,asO2,asO3,asO4,asO5,asO6,asO7]
   rw [terms_Money,Zb]
   simp only
   by_cases c1:(mMoney l[i].n).2=0
   ·rw [Zt c1,Zn,Zc,if_neg (λe=>e c1),terms_Money,Zb]
    simp only
    by_cases c2:(mMoney l[i].b).2=0
    ·rw [Zt c2,Zn,Zc,if_neg (λe=>e c2),Qbd (by omega),Zb,Qbd (by omega),Zb,ek]
    ·rw [Zf c2,Zo,Zd,if_pos c2]
   ·rw [Zf c1,Zo,Zd,if_pos c1]
  unfold mSum
  by_cases c1:(mMoney l[i].n).2≠0
  ·refine ⟨((i:Int),lb a.natAbs,neg a,lb b.natAbs,neg b),.done λrec=>?_⟩
   rw [hstep,if_pos c1,if_pos c1]
   show _=some (if (mMoney l[i].n).2=0 then _ else _)
   rw [if_neg c1]
  ·by_cases c2:(mMoney l[i].b).2≠0
   ·refine ⟨((i:Int),lb a.natAbs,neg a,lb b.natAbs,neg b),.done λrec=>?_⟩
    rw [hstep,if_neg c1,if_pos c2,if_neg c1,if_pos c2]
    show _=some (if (mMoney l[i].b).2=0 then _ else _)
    rw [if_neg c2]
   ·obtain ⟨p1,p2⟩:=Qg4 ha0 ha hm1.1 hm1.2
    obtain ⟨p3,p4⟩:=Qg4 hb0 hb hm2.1 hm2.2
    obtain ⟨x,r⟩:=Qp0 hl f (i+1) (a+(mMoney l[i].n).1) (b+(mMoney l[i].b).1) (by omega) p1 p2 p3 p4
    refine ⟨x,?_⟩
    rw [if_neg c1,if_neg c2]
    exact .step (λrec=>by rw [hstep,if_neg c1,if_neg c2]) r
theorem plan_Sum {l:List Ro} (hl:l.length<=1000000):z187.F (l.map rov)=some (lb (mSum 0 0 l).1.natAbs,neg (mSum 0 0 l).1,lb (mSum 0 0 l).2.1.natAbs,neg (mSum 0 0 l).2.1,(mSum 0 0 l).2.2):=by
 obtain ⟨x,r⟩:=Qp0 hl l.length 0 0 0 (Nat.zero_add _) (Int.le_refl _) (by decide) (Int.le_refl _) (by decide)
 rw [List.drop_zero] at r
 have er:=r.lfp
 rw [show Int.natAbs 0=0 from rfl,lb_zero] at er
 unfold z187.F
 refine (congrArg (λo=>Option.bind o _) er).trans ?_
 rw [Zb]
 by_cases h:(mSum 0 0 l).2.2=0
 ·unfold sumO
  rw [if_pos h,h]
 ·have hz:∀(l:List Ro) (a b:Int),(mSum a b l).2.2≠0->(mSum a b l).1=0/\(mSum a b l).2.1=0:=by
   intro l
   induction l with
   |nil=>intro a b h;exact absurd rfl h
   |
    cons r l ih=>
    intro a b h
    unfold mSum at h ⊢
    split
    ·exact ⟨rfl,rfl⟩
    ·rename_i c1
     rw [if_neg c1] at h
     split
     ·exact ⟨rfl,rfl⟩
     ·rename_i c2
      rw [if_neg c2] at h
      exact ih _ _ h
  obtain ⟨z1,z2⟩:=hz l 0 0 h
  unfold sumO
  rw [if_neg h,z1,z2,show Int.natAbs 0=0 from rfl,lb_zero]
  rfl
def s17:Tm:=⟨[49,48,48,48,48,48],[49,50],0,0,2,2024,1,1,1,2⟩
theorem Qx8:mCheck s17=0:=by decide +kernel
def r17a:Rw:=⟨(2024,2,1),100000,1000,49751,50751,50249⟩
def r17b:Rw:=⟨(2024,3,1),50249,502,50249,50751,0⟩
theorem Q0w:mBuild s17=[r17a,r17b]:=by decide +kernel
theorem Qvi:mSum 0 0 ([r17a,r17b].map Rw.ro)=(1502,100000,0):=by decide +kernel
theorem Qcc:z200.F=some true:=by
 have e1:z199.F=some (s17.p,s17.r,s17.kind,s17.basis,s17.mode,s17.y,s17.m,s17.d,s17.every,s17.count):=rfl
 have e2:=plan_Build Qx8 (by decide)
 rw [Q0w] at e2
 have e3:=Qm4 (t:=Qet) (by rw [Qe8];decide)
 rw [Qe8] at e3
 have e4:z187.F ([r17a,r17b].map rwv)=some (lb 1502,neg 1502,lb 100000,neg 100000,0):=by
  rw [Q2g,plan_Sum (by decide),Qvi];rfl
 have t0:itxt 50751=[53,48,55,53,49]:=by decide +kernel
 have t1:itxt 1000=[49,48,48,48]:=by decide +kernel
 have t2:itxt 0=[48]:=by decide +kernel
 have t3:itxt 100000=[49,48,48,48,48,48]:=by decide +kernel
 have g0:(([r17a,r17b].map rwv).getD 0 [])=rwv r17a:=rfl
 have g1:(([r17a,r17b].map rwv).getD 1 [])=rwv r17b:=rfl
 have p1:z135.F (lb 100000) (neg 100000)=some [49,48,48,48,48,48]:=by
  have h:=W4 (z:=100000) (Nat.le_trans (sz_le (show Int.natAbs 100000<10^6 by decide)) (by decide))
  rw [t3] at h;exact h
 have p2:z20.F (lb 1502) (neg 1502)=some (cmpI 1502 0):=W0 1502
 unfold z200.F
 rw [e1,Zb]
 simp only
 rw [e2,Zb]
 refine (congrArg (λo=>Option.bind o _) e3).trans ?_
 rw [Zb]
 simp only [decide_true,Zn,Zc]
 rw [show ((([r17a,r17b].map rwv).length:Nat):Int)=2 from rfl]
 simp only [decide_true,Zn,Zc]
 unfold z200.j4
 simp only
 rw [e4,Zb,if_pos (by decide),g0,g1]
 simp only [asW0,asW1,asW2,asW3,asW4,asW5,asW6,asW7]
 rw [show r17a.pay=50751 from rfl,show r17a.n=1000 from rfl,show r17b.c=0 from rfl,t0,t1,t2]
 simp only [decide_true,Zd]
 rw [if_pos (by decide),if_pos (by decide)]
 rw [p1,Zb]
 simp only [decide_true,Zd]
 rw [p2,Zb]
 rfl
theorem Q0s (s:List UInt8):((0:Int)<=(if (200:Int)<(s.length:Int) then (200:Int) else (s.length:Int))/\(if (200:Int)<(s.length:Int) then (200:Int) else (s.length:Int))<=((s).length:Int)) /\
  (s.take ((if (200:Int)<(s.length:Int) then (200:Int) else (s.length:Int))).toNat).length<=200/\(s.length<=200->s.take ((if (200:Int)<(s.length:Int) then (200:Int) else (s.length:Int))).toNat=s):=by
 refine ⟨by split<;>omega,by rw [List.length_take];split<;>omega,λh=>?_⟩
 rw [if_neg (by omega),Zi,List.take_length]
theorem sums_text {S:Int×Int×Int} (T:List (List UInt8)) (hT:T.length=2) {k:Nat} (hk:k<2) {x y:Int} (hx:sz x.natAbs<=1000) (hy:sz y.natAbs<=1000) (rec:(Int×(List Int)×Bool×(List Int)×Bool)->Option ((Int×(List Int)×Bool×(List Int)×Bool)⊕(Bool×(List Int)×Bool×(List Int)×Bool)))
  (hS:(T.getD k []).length<=200->(mMoney (T.getD k [])).2≠0->S=(0,0,(mMoney (T.getD k [])).2)) :
  (∃w,∀rec,z202.l2b3P S.2.2 T ((T.length:Nat):Int) (lb S.1.natAbs) (neg S.1) (lb S.2.1.natAbs) (neg S.2.1) rec some ((k:Int),dg x.natAbs,neg x,dg y.natAbs,neg y)=some (.inr (true,w))) \/
  ((T.getD k []).length<=200/\(mMoney (T.getD k [])).2=0/\∀rec,z202.l2b3P S.2.2 T ((T.length:Nat):Int) (lb S.1.natAbs) (neg S.1) (lb S.2.1.natAbs) (neg S.2.1) rec some ((k:Int),dg x.natAbs,neg x,dg y.natAbs,neg y) =
   rec (((k+1:Nat):Int),dg (if k=0 then x+(mMoney (T.getD k [])).1 else x).natAbs,neg (if k=0 then x+(mMoney (T.getD k [])).1 else x),dg (if k=0 then y else y+(mMoney (T.getD k [])).1).natAbs,neg (if k=0 then y else y+(mMoney (T.getD k [])).1))):=by
 obtain ⟨c1,c2,c3⟩:=Q0s (T.getD k [])
 have ek:wr .i64 ((k:Int)+1)=((k+1:Nat):Int):=by rw [Qc (by omega) (by omega)];rfl
 have hm:=Qeu ((T.getD k []).take ((if (200:Int)<((T.getD k []).length:Int) then (200:Int) else ((T.getD k []).length:Int))).toNat) (by omega)
 have z1:=Qaa ((T.getD k []).take ((if (200:Int)<((T.getD k []).length:Int) then (200:Int) else ((T.getD k []).length:Int))).toNat)
 have dx:=Qp x.natAbs
 have dy:=Qp y.natAbs
 have dm:=Qp (mMoney ((T.getD k []).take ((if (200:Int)<((T.getD k []).length:Int) then (200:Int) else ((T.getD k []).length:Int))).toNat)).1.natAbs
 have head:∀rec:(Int×(List Int)×Bool×(List Int)×Bool)->Option ((Int×(List Int)×Bool×(List Int)×Bool)⊕(Bool×(List Int)×Bool×(List Int)×Bool)),
   z202.l2b3P S.2.2 T ((T.length:Nat):Int) (lb S.1.natAbs) (neg S.1) (lb S.2.1.natAbs) (neg S.2.1) rec some ((k:Int),dg x.natAbs,neg x,dg y.natAbs,neg y) =
    if (mMoney ((T.getD k []).take ((if (200:Int)<((T.getD k []).length:Int) then (200:Int) else ((T.getD k []).length:Int))).toNat)).2≠0/\(T.getD k []).length<=200 then
     (if S.2.2=(mMoney ((T.getD k []).take ((if (200:Int)<((T.getD k []).length:Int) then (200:Int) else ((T.getD k []).length:Int))).toNat)).2 then (if cmpI S.1 0=0 then some (.inr (decide (cmpI S.2.1 0=0),dg x.natAbs,neg x,dg y.natAbs,neg y)) else some (.inr (false,dg x.natAbs,neg x,dg y.natAbs,neg y))) else some (.inr (false,dg x.natAbs,neg x,dg y.natAbs,neg y)))
    else if 200<(T.getD k []).length then some (.inr (true,dg x.natAbs,neg x,dg y.natAbs,neg y))
    else if k=0 then rec (((k+1:Nat):Int),dg (x+(mMoney ((T.getD k []).take ((if (200:Int)<((T.getD k []).length:Int) then (200:Int) else ((T.getD k []).length:Int))).toNat)).1).natAbs,neg (x+(mMoney ((T.getD k []).take ((if (200:Int)<((T.getD k []).length:Int) then (200:Int) else ((T.getD k []).length:Int))).toNat)).1),dg y.natAbs,neg y)
    else rec (((k+1:Nat):Int),dg x.natAbs,neg x,dg (y+(mMoney ((T.getD k []).take ((if (200:Int)<((T.getD k []).length:Int) then (200:Int) else ((T.getD k []).length:Int))).toNat)).1).natAbs,neg (y+(mMoney ((T.getD k []).take ((if (200:Int)<((T.getD k []).length:Int) then (200:Int) else ((T.getD k []).length:Int))).toNat)).1)):=λrec=>by
  unfold z202.l2b3P
  simp only
  rw [bif_t (by omega),if_pos (by omega),Zi,if_pos c1,hm,Zb]
  simp only [wr4]
  generalize mMoney ((T.getD k []).take ((if (200:Int)<((T.getD k []).length:Int) then (200:Int) else ((T.getD k []).length:Int))).toNat)=M at *
  have hadd:(bif decide ((k:Int)=0) then (z110.F (dg x.natAbs) (neg x) (dg M.1.natAbs) (neg M.1)).bind λr=>rec (wr .i64 ((k:Int)+1),r.1,r.2,dg y.natAbs,neg y) else (z110.F (dg y.natAbs) (neg y) (dg M.1.natAbs) (neg M.1)).bind λr=>rec (wr .i64 ((k:Int)+1),dg x.natAbs,neg x,r.1,r.2)) =
    if k=0 then rec (((k+1:Nat):Int),dg (x+M.1).natAbs,neg (x+M.1),dg y.natAbs,neg y) else rec (((k+1:Nat):Int),dg x.natAbs,neg x,dg (y+M.1).natAbs,neg (y+M.1)):=by
   rw [Qd8 (by omega),Zb,Qd8 (by omega),Zb,ek]
   by_cases k0:k=0
   ·rw [bif_t (by omega),if_pos k0]
   ·rw [Qa (by omega),if_neg k0]
  rw [Qcc]
  simp only [Zb,Zd]
  by_cases m0:M.2=0
  ·rw [Zt m0,Zn,Zc,if_neg (λe=>e.1 m0)]
   by_cases l2:200<(T.getD k []).length
   ·rw [bif_t (by omega),if_pos l2]
   ·rw [Qa (by omega),if_neg l2];exact hadd
  ·rw [Zf m0,Zo,Zd]
   by_cases l2:200<(T.getD k []).length
   ·rw [Qa (by omega),bif_t (by omega),if_neg (λe=>by omega),if_pos l2]
   ·rw [bif_t (by omega),if_pos ⟨m0,by omega⟩]
    by_cases s0:S.2.2=M.2
    ·rw [bif_t s0,if_pos s0,W0,Zb]
     by_cases s1:cmpI S.1 0=0
     ·rw [bif_t s1,if_pos s1,W0,Zb]
     ·rw [Qa s1,if_neg s1]
    ·rw [Qa s0,if_neg s0]
 by_cases l2:200<(T.getD k []).length
 ·refine .inl ⟨(dg x.natAbs,neg x,dg y.natAbs,neg y),λrec=>?_⟩
  rw [head,if_neg (λe=>by omega),if_pos l2]
 ·have e3:=c3 (by omega)
  rw [e3] at head
  by_cases m0:(mMoney (T.getD k [])).2=0
  ·refine .inr ⟨by omega,m0,λrec=>?_⟩
   rw [head,if_neg (λe=>e.1 m0),if_neg l2]
   by_cases k0:k=0
   ·rw [if_pos k0,if_pos k0,if_pos k0]
   ·rw [if_neg k0,if_neg k0,if_neg k0]
  ·have hs:=hS (by omega) m0
   refine .inl ⟨(dg x.natAbs,neg x,dg y.natAbs,neg y),λrec=>?_⟩
   rw [head,if_pos ⟨m0,by omega⟩,hs,if_pos rfl,if_pos (show cmpI 0 0=0 by decide)]
   rfl
theorem sums_row {S:Int×Int×Int} {r:Ro} {l:List Ro} {x y:Int} (hS:mSum x y (r::l)=S) (hx:sz x.natAbs<=100) (hy:sz y.natAbs<=100) :
  (∃w,z202.l2b3 S.2.2 [r.n,r.b] ((([r.n,r.b]:List (List UInt8)).length:Nat):Int) (lb S.1.natAbs) (neg S.1) (lb S.2.1.natAbs) (neg S.2.1) ((0:Int),dg x.natAbs,neg x,dg y.natAbs,neg y)=some (.inr (true,w))) \/
  ((mMoney r.n).2=0/\(mMoney r.b).2=0/\∃st,z202.l2b3 S.2.2 [r.n,r.b] ((([r.n,r.b]:List (List UInt8)).length:Nat):Int) (lb S.1.natAbs) (neg S.1) (lb S.2.1.natAbs) (neg S.2.1) ((0:Int),dg x.natAbs,neg x,dg y.natAbs,neg y) =
   some (.inl (st,dg (x+(mMoney r.n).1).natAbs,neg (x+(mMoney r.n).1),dg (y+(mMoney r.b).1).natAbs,neg (y+(mMoney r.b).1)))):=by
 unfold mSum at hS
 have z1:=Qaa r.n
 have hx2:=Qae x (mMoney r.n).1
 rcases sums_text (S:=S) [r.n,r.b] rfl (k:=0) (by decide) (x:=x) (y:=y) (by omega) (by omega) (λ_=>none) (λh1 h2=>by
  have h2':(mMoney r.n).2≠0:=h2
  rw [if_pos h2'] at hS
  exact hS.symm) with ⟨w,h⟩|⟨_,h1,h2⟩
 ·left
  exact ⟨w,(Runs.done (λrec=>h rec):Runs (λrec x=>z202.l2b3P S.2.2 [r.n,r.b] ((([r.n,r.b]:List (List UInt8)).length:Nat):Int) (lb S.1.natAbs) (neg S.1) (lb S.2.1.natAbs) (neg S.2.1) rec some x) (((0:Nat):Int),dg x.natAbs,neg x,dg y.natAbs,neg y) _).lfp⟩
 ·have h1':(mMoney r.n).2=0:=h1
  rw [if_neg (λe=>e h1')] at hS
  rcases sums_text (S:=S) [r.n,r.b] rfl (k:=1) (by decide) (x:=x+(mMoney r.n).1) (y:=y) (by omega) (by omega) (λ_=>none) (λh1 h2=>by
   have h2':(mMoney r.b).2≠0:=h2
   rw [if_pos h2'] at hS
   exact hS.symm) with ⟨w,h⟩|⟨_,g1,g2⟩
  ·left
   exact ⟨w,(Runs.step (λrec=>h2 rec) (Runs.done (λrec=>h rec)):Runs (λrec x=>z202.l2b3P S.2.2 [r.n,r.b] ((([r.n,r.b]:List (List UInt8)).length:Nat):Int) (lb S.1.natAbs) (neg S.1) (lb S.2.1.natAbs) (neg S.2.1) rec some x) (((0:Nat):Int),dg x.natAbs,neg x,dg y.natAbs,neg y) _).lfp⟩
  ·right
   refine ⟨h1',g1,((2:Nat):Int),?_⟩
   exact (Runs.step (λrec=>h2 rec) (Runs.step (λrec=>g2 rec) (Runs.done (λrec=>by
    unfold z202.l2b3P
    simp only
    rw [Qa (by simp)];rfl))):Runs (λrec x=>z202.l2b3P S.2.2 [r.n,r.b] ((([r.n,r.b]:List (List UInt8)).length:Nat):Int) (lb S.1.natAbs) (neg S.1) (lb S.2.1.natAbs) (neg S.2.1) rec some x) (((0:Nat):Int),dg x.natAbs,neg x,dg y.natAbs,neg y) _).lfp
theorem sums_rows {S:Int×Int×Int} {l:List Ro} (hl:l.length<=12):∀(f i:Nat) (x y:Int),i+f=l.length->0<=x->x<=10^30*i->0<=y->y<=10^30*i->mSum x y (l.drop i)=S ->
  (∃w,Runs (λrec x=>z202.l0P S.2.2 (l.map rov) (((l.map rov).length:Nat):Int) (lb S.1.natAbs) (neg S.1) (lb S.2.1.natAbs) (neg S.2.1) rec some x) ((i:Int),dg x.natAbs,neg x,dg y.natAbs,neg y) (.inr (true,w))) \/
  (∃st,S.2.2=0/\sz S.1.natAbs<=100/\sz S.2.1.natAbs<=100/\Runs (λrec x=>z202.l0P S.2.2 (l.map rov) (((l.map rov).length:Nat):Int) (lb S.1.natAbs) (neg S.1) (lb S.2.1.natAbs) (neg S.2.1) rec some x) ((i:Int),dg x.natAbs,neg x,dg y.natAbs,neg y) (.inl (st,dg S.1.natAbs,neg S.1,dg S.2.1.natAbs,neg S.2.1)))
 |
  0,i,x,y,hf,hx0,hx,hy0,hy,hS=>by
  rw [List.drop_eq_nil_of_le (by omega)] at hS
  have e:S=(x,y,0):=hS.symm
  have sx:=Qcs hx0 hx (by omega)
  have sy:=Qcs hy0 hy (by omega)
  subst e
  refine .inr ⟨(i:Int),rfl,by show sz x.natAbs<=_;omega,by show sz y.natAbs<=_;omega,.done λrec=>?_⟩
  unfold z202.l0P
  simp only
  rw [Qa (by rw [List.length_map];omega)]
 |
  f+1,i,x,y,hf,hx0,hx,hy0,hy,hS=>by
  have hi:i<l.length:=by omega
  have ek:wr .i64 ((i:Int)+1)=((i+1:Nat):Int):=by rw [Qc (by omega) (by omega)];rfl
  have sx:=Qcs hx0 hx (by omega)
  have sy:=Qcs hy0 hy (by omega)
  have hm1:=Ji l[i].n
  have hm2:=Ji l[i].b
  rw [List.drop_eq_getElem_cons hi] at hS
  have head:∀rec:(Int×(List Int)×Bool×(List Int)×Bool)->Option ((Int×(List Int)×Bool×(List Int)×Bool)⊕(Bool×(List Int)×Bool×(List Int)×Bool)),
    z202.l0P S.2.2 (l.map rov) (((l.map rov).length:Nat):Int) (lb S.1.natAbs) (neg S.1) (lb S.2.1.natAbs) (neg S.2.1) rec some ((i:Int),dg x.natAbs,neg x,dg y.natAbs,neg y) =
     ((z202.l2b3 S.2.2 [l[i].n,l[i].b] ((([l[i].n,l[i].b]:List (List UInt8)).length:Nat):Int) (lb S.1.natAbs) (neg S.1) (lb S.2.1.natAbs) (neg S.2.1) ((0:Int),dg x.natAbs,neg x,dg y.natAbs,neg y)).bind λo=>match o with | .inl p=>rec (((i+1:Nat):Int),p.2.1,p.2.2.1,p.2.2.2.1,p.2.2.2.2) | .inr q=>some (.inr (q.1,q.2.1,q.2.2.1,q.2.2.2.1,q.2.2.2.2))):=λrec=>by
   unfold z202.l0P
   simp only
   rw [bif_t (by rw [List.length_map];omega),if_pos (by rw [List.length_map];omega),Zi,Q1 rov hi]
   simp only [asO0,asO1,asO2,asO3,asO4,asO5,asO6,asO7]
   rw [ek]
   rfl
  rcases sums_row hS (by omega) (by omega) with ⟨w,h⟩|⟨h1,h2,st,h⟩
  ·refine .inl ⟨w,.done λrec=>?_⟩
   rw [head,h]
   rfl
  ·obtain ⟨p1,p2⟩:=Qg4 hx0 hx hm1.1 hm1.2
   obtain ⟨p3,p4⟩:=Qg4 hy0 hy hm2.1 hm2.2
   have hS':mSum (x+(mMoney l[i].n).1) (y+(mMoney l[i].b).1) (l.drop (i+1))=S:=by
    unfold mSum at hS
    rw [if_neg (λe=>e h1),if_neg (λe=>e h2)] at hS
    exact hS
   have step:∀rec:(Int×(List Int)×Bool×(List Int)×Bool)->Option ((Int×(List Int)×Bool×(List Int)×Bool)⊕(Bool×(List Int)×Bool×(List Int)×Bool)),
     z202.l0P S.2.2 (l.map rov) (((l.map rov).length:Nat):Int) (lb S.1.natAbs) (neg S.1) (lb S.2.1.natAbs) (neg S.2.1) rec some ((i:Int),dg x.natAbs,neg x,dg y.natAbs,neg y) =
      rec (((i+1:Nat):Int),dg (x+(mMoney l[i].n).1).natAbs,neg (x+(mMoney l[i].n).1),dg (y+(mMoney l[i].b).1).natAbs,neg (y+(mMoney l[i].b).1)):=λrec=>by
    rw [head,h]
    rfl
   rcases sums_rows hl f (i+1) _ _ (by omega) p1 p2 p3 p4 hS' with ⟨w,r⟩|⟨st',e1,e2,e3,r⟩
   ·exact .inl ⟨w,.step step r⟩
   ·exact .inr ⟨st',e1,e2,e3,.step step r⟩
theorem Qny:∀{L:List (List V)},(∀r∈L,okSL [.i .i64,.i .i64,.i .i64,.s,.s,.s,.s,.s] r)->∃l:List Ro,L=l.map rov
 |[],_=>⟨[],rfl⟩
 |
  r::L,h=>by
  obtain ⟨l,rfl⟩:=Qny (L:=L) λx hx=>h x (List.mem_cons_of_mem _ hx)
  obtain ⟨_,_,rfl,⟨n0,rfl,_⟩,_,_,rfl,⟨n1,rfl,_⟩,_,_,rfl,⟨n2,rfl,_⟩,_,_,rfl,⟨s3,rfl,_⟩,_,_,rfl,⟨s4,rfl,_⟩,_,_,rfl,⟨s5,rfl,_⟩,_,_,rfl,⟨s6,rfl,_⟩,_,_,rfl,⟨s7,rfl,_⟩,rfl⟩:=h r (List.mem_cons_self ..)
  exact ⟨⟨(n0,n1,n2),s3,s4,s5,s6,s7⟩::l,rfl⟩
theorem Qzy {a0:List (List V)} (h0:∀r∈a0,okSL [.i .i64,.i .i64,.i .i64,.s,.s,.s,.s,.s] r):z202.F a0=some true:=by
 obtain ⟨L,rfl⟩:=Qny h0
 have hc:(0:Int)<=(if (12:Int)<(((L.map rov).length:Nat):Int) then (12:Int) else (((L.map rov).length:Nat):Int))/\(if (12:Int)<(((L.map rov).length:Nat):Int) then (12:Int) else (((L.map rov).length:Nat):Int))<=((L.map rov).length:Int):=by split<;>omega
 have hk:(if (12:Int)<(((L.map rov).length:Nat):Int) then (12:Int) else (((L.map rov).length:Nat):Int)).toNat<=12:=by split<;>omega
 have ha:(L.map rov).take (if (12:Int)<(((L.map rov).length:Nat):Int) then (12:Int) else (((L.map rov).length:Nat):Int)).toNat=(L.take (if (12:Int)<(((L.map rov).length:Nat):Int) then (12:Int) else (((L.map rov).length:Nat):Int)).toNat).map rov:=by rw [List.map_take]
 have hx1:(L.take (if (12:Int)<(((L.map rov).length:Nat):Int) then (12:Int) else (((L.map rov).length:Nat):Int)).toNat).length<=12:=by rw [List.length_take];omega
 unfold z202.F
 rw [if_pos hc,ha]
 generalize L.take (if (12:Int)<(((L.map rov).length:Nat):Int) then (12:Int) else (((L.map rov).length:Nat):Int)).toNat=l at *
 rw [plan_Sum (by omega),Zb,Wk (by decide),Zb,Zb]
 simp only
 rcases sums_rows (S:=mSum 0 0 l) hx1 l.length 0 0 0 (Nat.zero_add _) (Int.le_refl _) (by decide) (Int.le_refl _) (by decide) (by rw [List.drop_zero]) with ⟨w,r⟩|⟨st,e1,e2,e3,r⟩
 ·refine (congrArg (λo=>Option.bind o _) r.lfp).trans ?_
  rfl
 ·refine (congrArg (λo=>Option.bind o _) r.lfp).trans ?_
  rw [Zb]
  simp only
  rw [Qcc,Zb,Zd,bif_t e1,W4 (by omega),Zb,W8 (by omega),Zb]
  simp only [decide_true,Zd]
  rw [W4 (by omega),Zb,W8 (by omega),Zb,Zt rfl]
end Go.Proofs.YtgjncgiekniniaaGreatDoor.A
end
section
set_option linter.unusedVariables false
namespace Go.Proofs.YtgjncgiekniniaaGreatDoor.A
open Go
namespace PlanSums
theorem law (a0:List (List V)) (h0:(∀r∈a0,okSL [(.i .i64),(.i .i64),(.i .i64),.s,.s,.s,.s,.s] r)/\a0.length<=maxLen):z202.F a0=some true:=
 Qzy h0.1
end PlanSums
end Go.Proofs.YtgjncgiekniniaaGreatDoor.A
end
section
set_option maxRecDepth 100000
namespace Go.Proofs.YtgjncgiekniniaaGreatDoor.A
open Go Go.RowKit Go.ChangeShapes Go.WideShapes Go.ChangeAt
noncomputable section
namespace PlanSums
theorem wide:Q4f Tryz.prog 8 Tryz.f19.params.toList=some [(.one (.sl [(.i .i64),(.i .i64),(.i .i64),.s,.s,.s,.s,.s]))]:=by kernel_rfl
theorem readable:Tryz.f19.params.toList.all (λt=>Tryz.prog.readableRec t&&decide (t<Tryz.prog.types.size))=true:=by kernel_rfl
noncomputable def args0:Array Value:=#[.slice none 0 0]
theorem laid_met (os:Os):laidMet Tryz.prog Rows.planSumsRow.laid ((Q4e os).forCall (λ_ _=>0) ⟨#[],args0,[]⟩).memory:=
 laidMet_of_run' 12 (by kernel_rfl) (by kernel_rfl)
theorem reads (os:Os) {H:Type} (enc:TypeId×Value->H):∃ds places,DataW.whole enc Tryz.prog ((Q4e os).forCall (λ_ _=>0) ⟨#[],args0,[]⟩).memory Tryz.f19.params.toList Rows.planSumsSpec.vars false args0.toList 12=some (ds,[],places):=
 ⟨[.nil],[],by kernel_rfl⟩
theorem plainly (vs:List V) (h:okAL [(.one (.sl [(.i .i64),(.i .i64),(.i .i64),.s,.s,.s,.s,.s]))] vs):∃p r,SoundC Tryz.prog 19 vs p/\p.m=some r/\p.enc r=.bool true:=by
 obtain ⟨_,_,rfl,⟨a0,rfl,h0⟩,rfl⟩:=h
 exact ⟨⟨Bool,z202.F a0,z202.enc⟩,true,z202.sound _ _ (by kernel_rfl),law a0 h0,rfl⟩
theorem specFn {H:Type} (ds:List (DataW H)) (h:ds.length=Tryz.f19.params.toList.length):Rows.planSumsSpec.fn H ds={results:=[.lit (.bool true)],args:=ds}:=by
 have h:ds.length=1:=h.trans (by kernel_rfl)
 match ds,h with
 |[d0],_=>rfl
theorem clos:Tryz.prog.closure 19=[19,84,36,76,160,223,260,161,200,250,249,251,253,276,252,255,279,289,277,287,278,288,292,283,290,293,285,284,254,158,222,185,164,227,268,183,99,184,104,91,28,114,195,247,74,90,110,24,100,186,146,212,245,273,187,60,152,113,37,115,196,103,192,235,116,117,63,35,85,170,234,171,172,197,83,169,86,49,48,44,38,118,198,248,275,286,291,199,201,69,119,202,120,121,203,204,156,122,123,176,92,163,226,162,188,224,261,262,280,225,263,264,265,266,267,281,68,124,157,130,133,47,137,209,228,257,149,214,215,134,142,210,258,259,138,173,87,88,89,175,71,216,238,270,239,150,217,236,79,165,57,145,229,230,231,65,140,211,232,269,78,174,237,25,101,189,190,246,274,191,26,102]:=by kernel_rfl
theorem inPlace:(Rows.planSumsRow.inPlace == Tryz.prog.inPlace 19)=true:=by unfold Program.inPlace;rw [clos];kernel_rfl
theorem unfollowed:(Rows.planSumsRow.unfollowed == Tryz.prog.unfollowed 19)=true:=by unfold Program.unfollowed;rw [clos];kernel_rfl
theorem recurses:(Rows.planSumsRow.recurses == Tryz.prog.recurses 19)=true:=by unfold Program.recurses Program.unfollowed;rw [clos];kernel_rfl
theorem named:(Rows.planSumsRow.named == Tryz.prog.varsNamed 19)=true:=by unfold Program.varsNamed;rw [clos];kernel_rfl
theorem number:Tryz.prog.funcNamed "chattel/chattellaw17.PlanSums" = some 19:=by kernel_rfl
theorem goes:false=Rows.planSumsRow.goesBy Tryz.prog:=by
 have h:Tryz.prog.goes 19=false:=by unfold Program.goes Program.unfollowed;rw [clos];kernel_rfl
 have e:Rows.planSumsRow.goesBy Tryz.prog=((Tryz.prog.funcNamed "chattel/chattellaw17.PlanSums").any Tryz.prog.goes||false):=by kernel_rfl
 rw [e,number]
 simp [h]
theorem j_wf:Rows.planSumsRow.wf (OpenSpec.ofChange (OpenSpec.ofChange Rows.planSumsSpec).bare)=true:=by kernel_rfl
theorem j_params:(Tryz.f19.params.all (Tryz.pinned.checked.prog.readableRec ·))=true:=by kernel_rfl
theorem j_vars:namedTie Tryz.pinned.checked.prog Rows.planSumsRow.named (OpenSpec.ofChange Rows.planSumsSpec).bare.vars=true:=by kernel_rfl
theorem j_stops:(Rows.planSumsRow.stops == [])=true:=by kernel_rfl
theorem j_knobs:(Rows.planSumsRow.knobs == [])=true:=by kernel_rfl
theorem j_maps:(Rows.planSumsRow.maps == (Tryz.f19.params.toList++DataSpec.varTypes Tryz.pinned.checked.prog (OpenSpec.ofChange Rows.planSumsSpec).bare.plain).any (Tryz.pinned.checked.prog.mapsRec ·))=true:=by kernel_rfl
theorem j_ifaces:(Rows.planSumsRow.ifaces == (Tryz.f19.params.toList++DataSpec.varTypes Tryz.pinned.checked.prog (OpenSpec.ofChange Rows.planSumsSpec).bare.plain).any (Tryz.pinned.checked.prog.ifacesRec ·))=true:=by kernel_rfl
theorem j_mapsOut:(Rows.planSumsRow.mapsOut == Tryz.pinned.checked.prog.mapsAmong Tryz.f19.resultTypes.toList)=true:=by kernel_rfl
theorem j_loops:(Rows.planSumsRow.loops == (Tryz.f19.params.toList++DataSpec.varTypes Tryz.pinned.checked.prog (OpenSpec.ofChange Rows.planSumsSpec).bare.plain).any (Tryz.pinned.checked.prog.loopsFrom ·))=true:=by kernel_rfl
theorem j_wideKeys:(Rows.planSumsRow.wideKeys == (Tryz.f19.params.toList++DataSpec.varTypes Tryz.pinned.checked.prog (OpenSpec.ofChange Rows.planSumsSpec).bare.plain++Tryz.f19.resultTypes.toList).any (Tryz.pinned.checked.prog.wideKeysFrom ·))=true:=by kernel_rfl
theorem j_varsRead:(OpenSpec.ofChange Rows.planSumsSpec).bare.vars.all (Tryz.pinned.checked.prog.varReadable ·)=true:=by kernel_rfl
theorem j_results:(Tryz.f19.resultTypes.all λt=>Tryz.pinned.checked.prog.readableRec t&&decide (t<Tryz.pinned.checked.prog.types.size))=true:=by kernel_rfl
theorem j_ifacesOut:(Rows.planSumsRow.ifacesOut == Tryz.f19.resultTypes.toList.any (Tryz.pinned.checked.prog.ifacesRec ·))=true:=by kernel_rfl
theorem j_loopsOut:(Rows.planSumsRow.loopsOut == Tryz.f19.resultTypes.toList.any (Tryz.pinned.checked.prog.loopsFrom ·))=true:=by kernel_rfl
theorem j_plainKeys:(Rows.planSumsRow.plainKeys == Tryz.pinned.checked.prog.plainKeys)=true:=by kernel_rfl
theorem j_short:Rows.planSumsRow.shortTexts.isNone=true:=by kernel_rfl
theorem j_lift:(Rows.planSumsRow.lifted == Tryz.pinned.checked.prog.liftsFinal)=true:=by kernel_rfl
theorem j_make:(Tryz.pinned.checked.prog.make == some Rows.planSumsRow.make)=true:=by kernel_rfl
theorem j_kinds:(Rows.planSumsRow.kinds == (if Rows.planSumsRow.domain.isEmpty then [] else Tryz.f19.params.toList.map λt=>match Tryz.pinned.checked.prog.underlying t with|some (.int k)=>some k|_=>none))=true:=by kernel_rfl
theorem j_pinned:(Rows.planSumsRow.pinned == Rows.planSumsRow.pinnedBy)=true:=by kernel_rfl
theorem j_veiled:(Rows.planSumsRow.veiled == (Tryz.f19.params.toList++DataSpec.varTypes Tryz.pinned.checked.prog (OpenSpec.ofChange Rows.planSumsSpec).bare.plain++Tryz.f19.resultTypes.toList).any (Tryz.pinned.checked.prog.veiledRec ·))=true:=by kernel_rfl
theorem j_veiledFits:Rows.planSumsRow.veiledFits Tryz.pinned.checked.prog Tryz.f19.params.toList (Tryz.f19.params.toList++DataSpec.varTypes Tryz.pinned.checked.prog (OpenSpec.ofChange Rows.planSumsSpec).bare.plain++Tryz.f19.resultTypes.toList)=true:=by kernel_rfl
theorem joined:joinedFacts Tryz.pinned.checked.prog 19 Tryz.f19 (OpenSpec.ofChange Rows.planSumsSpec).bare Rows.planSumsRow=true:=by
 unfold joinedFacts
 simp only [Bool.and_eq_true]
 and_intros
 ·exact j_wf
 ·exact laidOut
 ·exact rowed
 ·exact j_params
 ·exact j_vars
 ·exact j_stops
 ·exact Q4j
 ·exact j_knobs
 ·exact Q4l
 ·exact inPlace
 ·exact unfollowed
 ·exact recurses
 ·exact named
 ·exact j_maps
 ·exact j_ifaces
 ·exact j_mapsOut
 ·exact j_loops
 ·exact j_wideKeys
 ·exact j_varsRead
 ·exact j_results
 ·exact j_ifacesOut
 ·exact j_loopsOut
 ·exact j_plainKeys
 ·exact j_short
 ·exact Q4g
 ·exact Q4k
 ·exact j_lift
 ·exact j_make
 ·exact j_kinds
 ·exact j_pinned
 ·exact j_veiled
 ·exact j_veiledFits
theorem lifted (os:Os) (started:os.Started) (H:Type) (enc:TypeId×Value->H) (F:Stop.Interp) :
  ReturnsInHanded {} Tryz.checked os 19 .any ((OpenSpec.ofChange Rows.planSumsSpec).preRow enc Tryz.prog Tryz.f19 Rows.planSumsRow.domain false Rows.planSumsRow.laid) (((OpenSpec.ofChange Rows.planSumsSpec).at F).post enc Tryz.prog Tryz.f19 false true false false):=by
 obtain ⟨ds0,places,hx⟩:=reads os enc
 refine returnsInHanded_of_row (C:=Tryz.checked) (s:=OpenSpec.ofChange Rows.planSumsSpec) own started (by kernel_rfl) Tryz.func19
  (witness_row_at (enc:=enc) (C:=Tryz.checked) false (Q4e os) args0 rfl (by kernel_rfl) (by kernel_rfl) (by kernel_rfl)
   (OpenSpec.preRow_of_cond 12 hx (by kernel_rfl) (λk hk=>by cases hk) (by kernel_rfl) (laid_met os))) ?_
 intro W base args ds gs before hval hW _ _ _ hL _ _
 exact Q4h Qpn laidOut readable wide (tb:=4) (by kernel_rfl) (by kernel_rfl) rfl specFn plainly W base args ds gs before hval hW
theorem wrapped:Tryz.f19.isWrapper Tryz.pinned.checked.prog Rows.planSumsRow.wrapper Rows.planSumsRow.mainSum:=by
 unfold Func.isWrapper;first|(rw [if_pos (by decide +kernel)];kernel_rfl)|(rw [if_neg (by decide +kernel)];exact ⟨rfl,rfl⟩)
theorem origin:Tryz.f19.isInstance Tryz.pinned.checked.prog Rows.planSumsRow.origin Rows.planSumsRow.targs:=of_decide_eq_true (by kernel_rfl)
theorem said:Rows.PlanSumsSaid:=
 OpenClaim.holds_of_cond 19 Tryz.f19 rfl rfl rfl rfl rfl rfl rfl ⟨rfl,rfl,rfl,rfl,rfl⟩ rfl rfl rfl rfl rfl number Tryz.func19 joined origin wrapped
  (λos started H enc _ F=>by rw [OpenClaim.pre_eq_preRow];exact lifted os started H enc F)
theorem plainRow (f:FuncId) (fn:Func) (hf:Tryz.pinned.checked.prog.funcNamed "chattel/chattellaw17.PlanSums" = some f) (hfn:Tryz.pinned.checked.prog.funcs[f]? = some fn) :
  false=Tryz.pinned.checked.prog.looks []/\∀(j:Nat) t,fn.params[j]? = some t->Tryz.pinned.checked.prog.wantsStandIn t=false:=by
 obtain rfl:f=19:=Option.some.inj (number.symm.trans hf) |>.symm
 obtain rfl:fn=Tryz.f19:=(Option.some.inj (Tryz.func19.symm.trans hfn)).symm
 refine ⟨Q4m,λj t ht=>?_⟩
 have hall:Tryz.f19.params.toList.all (λt=>!Tryz.prog.wantsStandIn t)=true:=by kernel_rfl
 have:=List.all_eq_true.1 hall t (by simpa using Array.mem_of_getElem? ht)
 exact Bool.not_eq_true' _ |>.mp this
theorem card:Rows.PlanSumsCardSaid:=
 Claim7.holds_tied_plain_at .later [] _ _ _ _ said (λ_ h=>by cases h) (by kernel_rfl) (λ_ h=>by cases h) planSums_row_tie rfl ⟨rfl,rfl⟩ main rfl plainRow goes
end PlanSums
end
end Go.Proofs.YtgjncgiekniniaaGreatDoor.A
end
