/- PlanLast: part 1 of what is its own. -/
import Derived.Test.YtgjncgiekniniaaGreatDoorCadPlanLast0
import Derived.Deep.DeepHandedRow
import Derived.Lib.LaidTab
set_option linter.unusedVariables false
set_option linter.unusedSimpArgs false
section
namespace Go.Proofs.YtgjncgiekniniaaGreatDoor.A
open Go
theorem Qgp {a b:Int} (h:a<=b):(a:Rat)<=(b:Rat):=Rat.intCast_le_intCast.2 h
theorem Qnt {z B G r n p L:Rat} (hr:0<=r) (h1:z-B<=2*G) (h2:B-z<=2*G) (n1:n-z*r<1) (n2:z*r-n<1) (p1:p-L<1) (p2:L-p<1) :
  (z-(p-n))-(B*(1+r)-L)<=2*(G+G*r+1)/\(B*(1+r)-L)-(z-(p-n))<=2*(G+G*r+1):=by
 have m1:(z-B)*r<=(2*G)*r:=Rat.mul_le_mul_of_nonneg_right h1 hr
 have m2:(B-z)*r<=(2*G)*r:=Rat.mul_le_mul_of_nonneg_right h2 hr
 constructor<;>grind
theorem Qvk {z B G r n p L:Rat} (hr:0<=r) (h2:B-z<=2*G) (n2:z*r-n<1) (p1:p-L<1) (hz:z+n<=p) (hB:0<=(B*(1+r)-L)*(1+r)-L) :
  p<=2*((G+G*r+1)+(G+G*r+1)*r+1):=by
 have m2:(B-z)*r<=(2*G)*r:=Rat.mul_le_mul_of_nonneg_right h2 hr
 have h3:B*(1+r)-L<=2*(G+G*r+1):=by grind
 have h4:(B*(1+r)-L)*r<=(2*(G+G*r+1))*r:=Rat.mul_le_mul_of_nonneg_right h3 hr
 grind
structure Ann (t:Tm) (r L:Rat) (N:Nat) (P z0 one:Int):Prop where
 kind:t.kind=0
 r0:0<=r
 n1:1<=N
 isone:one=rnd t.mode L
 one0:0<=one
 first:rnd t.mode ((z0:Rat)*r)<one
 fin:bal (P:Rat) L r N=0
 pos:∀k,k<=N->0<=bal (P:Rat) L r k
def Q29 (one:Int) (r:Rat) (N:Nat) (l:List Rw):Prop:=
 (∀j (hj:j+1<l.length),(l[j]'(by omega)).c=0\/(l[j]'(by omega)).pay=one) /\
 (∀h:l≠[],0<=(l.getLast h).pay/\(((l.getLast h).pay:Int):Rat)-(one:Rat)<=2*grn r N/\(one:Rat)-(((l.getLast h).pay:Int):Rat)<=2*grn r N)
theorem Qqd {t:Tm} {r L:Rat} {N:Nat} {P z0 one:Int} (A:Ann t r L N P z0 one):∀(ps:List (D3×D3)) (i:Nat) (z:Int),i+ps.length=N->(∀p∈ps,∀z:Int,intX t z p.1 p.2=(z:Rat)*r)->0<=z->z<=z0 ->
  (((z:Rat)-bal (P:Rat) L r i<=2*grn r i/\bal (P:Rat) L r i-(z:Rat)<=2*grn r i)\/(z=0/\(one:Rat)<=2*grn r N)) ->
  Q29 one r N (mRows t one z ps)
 |[],i,z,_,_,_,_,_=>⟨λj hj=>by simp [mRows] at hj,λh=>absurd rfl h⟩
 |
  p::ps,i,z,hl,hp,hz,hz0,hinv=>by
  have hX:=hp p (List.mem_cons_self ..) z
  have hn:intN t z p.1 p.2=rnd t.mode ((z:Rat)*r):=by unfold intN;rw [hX]
  obtain ⟨n1,n2⟩:=Qhr t.mode ((z:Rat)*r)
  obtain ⟨p1,p2⟩:=Qhr t.mode L
  rw [<-A.isone] at p1 p2
  have hzr:(0:Rat)<=(z:Rat):=by have:=Qgp hz;exact this
  have hnn:0<=intN t z p.1 p.2:=by rw [hn];exact Qdm _ (Rat.mul_nonneg hzr A.r0)
  have hmono:intN t z p.1 p.2<=rnd t.mode ((z0:Rat)*r):=by
   rw [hn]
   exact Qv4 _ (Rat.mul_nonneg hzr A.r0) (Rat.mul_le_mul_of_nonneg_right (Qgp hz0) A.r0)
  have hfirst:=A.first
  rw [<-hn] at n1 n2
  generalize hN:intN t z p.1 p.2=n at *
  have hone0:=A.one0
  cases ps with
  |
   nil=>
   have hlen:i+1=N:=hl
   have hrow:mRows t one z [p]=[⟨p.2,z,n,z,n+z,z-z⟩]:=by
    show [mRow t one z p (decide (([]:List (D3×D3))=[]))]=_
    unfold mRow
    rw [hN]
    rfl
   rw [hrow]
   refine ⟨λj hj=>by simp at hj,λh=>?_⟩
   show 0<=n+z/\((n+z:Int):Rat)-(one:Rat)<=2*grn r N/\(one:Rat)-((n+z:Int):Rat)<=2*grn r N
   rw [Rat.intCast_add]
   refine ⟨by omega,?_⟩
   rcases hinv with ⟨i1,i2⟩|⟨i1,i2⟩
   ·have hs:=Qnt A.r0 i1 i2 n1 n2 p1 p2
    have hB:bal (P:Rat) L r (i+1)=bal (P:Rat) L r i*(1+r)-L:=rfl
    rw [hlen,A.fin] at hB
    have hG:grn r (i+1)=grn r i+grn r i*r+1:=rfl
    rw [hlen] at hG
    rw [hG]
    constructor<;>grind
   ·have hn0:n=0:=by
     rw [<-hN,i1]
     show intN t 0 p.1 p.2=0
     have hX0:=hp p (List.mem_cons_self ..) 0
     unfold intN
     rw [hX0,Rat.intCast_zero,Rat.zero_mul,Qhm]
    subst i1
    subst hn0
    have h1:(0:Rat)<=(one:Rat):=by have:=Qgp hone0;exact this
    have hg:=Qf8 A.r0 N
    constructor<;>grind
  |
   cons q ps=>
   have hlen:i+1+(q::ps).length=N:=by simp only [List.length_cons] at hl ⊢;omega
   have hlen2:i+2<=N:=by simp only [List.length_cons] at hlen;omega
   have hback:Wf t.kind one z n=less (one-n) z:=by
    unfold Wf
    rw [if_pos A.kind,if_neg (by omega)]
   have hrow:mRow t one z p (decide ((q::ps)=[]))=⟨p.2,z,n,less (one-n) z,n+less (one-n) z,z-less (one-n) z⟩:=by
    unfold mRow
    rw [hN,Zf (by simp)]
    show Rw.mk p.2 z n (Wf t.kind one z n) (n+Wf t.kind one z n) (z-Wf t.kind one z n)=_
    rw [hback]
   have hrows:mRows t one z (p::q::ps)=⟨p.2,z,n,less (one-n) z,n+less (one-n) z,z-less (one-n) z⟩::mRows t one (z-less (one-n) z) (q::ps):=by
    show mRow t one z p (decide ((q::ps)=[]))::mRows t one (mRow t one z p (decide ((q::ps)=[]))).c (q::ps)=_
    rw [hrow]
   have hne:mRows t one (z-less (one-n) z) (q::ps)≠[]:=by simp [mRows]
   have key:(less (one-n) z=one-n/\one-n<z)\/(less (one-n) z=z/\z<=one-n):=by unfold less;split<;>omega
   have hnext:(((z-less (one-n) z:Int):Rat)-bal (P:Rat) L r (i+1)<=2*grn r (i+1)/\bal (P:Rat) L r (i+1)-((z-less (one-n) z:Int):Rat)<=2*grn r (i+1))\/(z-less (one-n) z=0/\(one:Rat)<=2*grn r N):=by
    rcases key with ⟨k1,k2⟩|⟨k1,k2⟩
    ·rcases hinv with ⟨i1,i2⟩|⟨i1,i2⟩
     ·left
      rw [k1,Rat.intCast_sub,Rat.intCast_sub]
      exact Qnt A.r0 i1 i2 n1 n2 p1 p2
     ·exfalso;omega
    ·right
     refine ⟨by rw [k1];omega,?_⟩
     rcases hinv with ⟨i1,i2⟩|⟨i1,i2⟩
     ·have hB:=A.pos (i+2) hlen2
      have hzn:(z:Rat)+(n:Rat)<=(one:Rat):=by
       have:=Qgp (show z+n<=one by omega)
       rw [Rat.intCast_add] at this
       exact this
      have hd:=Qvk A.r0 i2 n2 p1 hzn hB
      have hm:=Qir A.r0 hlen2
      have hG:grn r (i+2)=(grn r i+grn r i*r+1)+(grn r i+grn r i*r+1)*r+1:=rfl
      rw [<-hG] at hd
      grind
     ·exact i2
   have hc0:0<=z-less (one-n) z/\z-less (one-n) z<=z:=by omega
   obtain ⟨g1,g2⟩:=Qqd A (q::ps) (i+1) (z-less (one-n) z) hlen (λx hx=>hp x (List.mem_cons_of_mem _ hx)) hc0.1 (by omega) hnext
   rw [hrows]
   refine ⟨λj hj=>?_,λh=>?_⟩
   ·cases j with
    |
     zero=>
     show z-less (one-n) z=0\/n+less (one-n) z=one
     omega
    |
     succ j=>
     exact g1 j (by simp only [List.length_cons] at hj ⊢;omega)
   ·rw [List.getLast_cons hne]
    exact g2 hne
theorem Qou {y m d k:Int} (h:right y m d) (hk:okM y m k) (hd:d<=28):addM y m d k=(((12*y+m-1)+k)/12,((12*y+m-1)+k)%12+1,d):=by
 have hg:=Qbn (y:=((12*y+m-1)+k)/12) (by omega) (m:=((12*y+m-1)+k)%12+1) (by omega)
 unfold addM
 have:min d (dDays (((12*y+m-1)+k)/12) (((12*y+m-1)+k)%12+1))=d:=by omega
 rw [this]
theorem Q2b {y m d k e:Int} (h:right y m d) (h1:okM y m k) (h2:okM y m (k+e)) (hd:d<=28) :
  yf 0 (addM y m d k).1 (addM y m d k).2.1 (addM y m d k).2.2 (addM y m d (k+e)).1 (addM y m d (k+e)).2.1 (addM y m d (k+e)).2.2=Rat.divInt e 12:=by
 rw [Qou h h1 hd,Qou h h2 hd]
 unfold yf
 rw [if_pos rfl]
 simp only
 have e1:Wd (((12*y+m-1)+k)/12) (((12*y+m-1)+k)%12+1) d (((12*y+m-1)+(k+e))/12) (((12*y+m-1)+(k+e))%12+1) d=30*e:=by
  unfold Wd
  rw [if_neg (by omega),if_neg (by omega)]
  omega
 rw [e1,Rat.divInt_eq_div,Rat.divInt_eq_div,Rat.intCast_mul]
 show (30:Rat)*(e:Rat)/360=(e:Rat)/12
 grind
theorem Qtw {t:Tm} (h:mCheck t=0) (hd:t.d<=28):∀p∈t.periods,yf 0 p.1.1 p.1.2.1 p.1.2.2 p.2.1 p.2.2.1 p.2.2.2=Rat.divInt t.every 12:=λp hp=>by
 obtain ⟨hk,hc,hr,ho⟩:=W6 h
 have he:=J5 hk.2.2.2
 have hl:=t.dates_len
 have g:=Q3 hr
 obtain ⟨i,hi,rfl⟩:=List.getElem_of_mem hp
 have hi':i<t.dates.length:=by
  have:t.periods.length=t.dates.length:=Qfh _ _
  omega
 have key:∀j:Nat,j<=t.dates.length->okM t.y t.m ((j:Int)*t.every):=λj hj=>by
  have a1:(j:Int)*t.every<=t.count*t.every:=Int.mul_le_mul_of_nonneg_right (by omega) (by omega)
  have a2:0<=(j:Int)*t.every:=Int.mul_nonneg (by omega) (by omega)
  rw [Int.mul_comm t.count] at a1
  exact Qfp ho (by omega) a1 (by omega)
 have hget:t.periods[i]=(addM t.y t.m t.d ((i:Int)*t.every),addM t.y t.m t.d ((i:Int)*t.every+t.every)):=by
  have e0:t.periods[i]=((if h0:i=0 then t.start else t.dates[i-1]'(by omega)),t.dates[i]):=Qmo t.start t.dates i hi hi'
  rw [e0]
  have e2:t.dates[i]=addM t.y t.m t.d (((i+1:Nat):Int)*t.every):=Qdc hi'
  have e3:(((i+1:Nat):Int)*t.every)=(i:Int)*t.every+t.every:=by rw [Int.natCast_add,Int.add_mul];omega
  rw [e2,e3]
  congr 1
  by_cases h0:i=0
  ·subst h0
   rw [dif_pos rfl]
   have ez:((0:Nat):Int)*t.every=0:=by omega
   rw [ez]
   exact (Qnb hr).symm
  ·rw [dif_neg h0]
   have e1:t.dates[i-1]'(by omega)=addM t.y t.m t.d (((i-1+1:Nat):Int)*t.every):=Qdc (show i-1<t.dates.length by omega)
   rw [e1,show i-1+1=i by omega]
 rw [hget]
 have k1:=key i (by omega)
 have k2:=key (i+1) (by omega)
 have e3:(((i+1:Nat):Int)*t.every)=(i:Int)*t.every+t.every:=by rw [Int.natCast_add,Int.add_mul];omega
 rw [e3] at k2
 exact Q2b hr k1 k2 hd
theorem Qyc {t:Tm} (h:mCheck t=0) (hb:t.basis=0) (hd:t.d<=28):∀p∈t.periods,∀z:Int,intX t z p.1 p.2=(z:Rat)*perR t.r t.every:=λp hp z=>by
 unfold intX perR
 rw [hb,Qtw h hd p hp,Rat.mul_assoc]
def grN (u v:Nat):Nat->Nat
 |0=>0
 |k+1=>grN u v k*u+v^(k+1)
theorem Qps {u v:Nat} (h:v<=u) (hu:0<u):∀k,grN u v k<=(2*u)^k
 |0=>by show 0<=_;omega
 |
  k+1=>by
  have ih:=Qps h hu k
  show grN u v k*u+v^(k+1)<=(2*u)^(k+1)
  have h1:grN u v k*u<=(2*u)^k*u:=Nat.mul_le_mul_right u ih
  have h2:v^(k+1)<=u^(k+1):=Nat.pow_le_pow_left h _
  have h3:u^(k+1)<=(2*u)^k*u:=by
   rw [Nat.pow_succ]
   exact Nat.mul_le_mul_right u (Nat.pow_le_pow_left (by omega) k)
  have h4:(2*u)^(k+1)=(2*u)^k*u+(2*u)^k*u:=by
   rw [Nat.pow_succ,<-Nat.mul_assoc,Nat.mul_right_comm,Nat.mul_two]
  omega
theorem Qrs {r:Rat} (hr:0<=r):∀k,grn r k=Rat.divInt ((grN (r.num.natAbs+r.den) r.den k:Nat):Int) ((r.den^k:Nat):Int)
 |
  0=>by
  show (0:Rat)=Rat.divInt 0 1
  rw [Rat.zero_divInt]
 |
  k+1=>by
  have ih:=Qrs hr k
  have hnum:0<=r.num:=Rat.num_nonneg.2 hr
  have hrd:((r.den:Nat):Rat)≠0:=Yn (by have:=r.den_pos;omega)
  obtain ⟨w1,_⟩:=Qfo 1 ((r.den:Nat):Rat) hrd k
  have e:((r.num.natAbs:Nat):Rat)=(r.num:Rat):=by
   have:(r.num:Int)=((r.num.natAbs:Nat):Int):=by omega
   rw [this];rfl
  have er:=Qcp r
  show grn r k+grn r k*r+1=Rat.divInt ((grN (r.num.natAbs+r.den) r.den k*(r.num.natAbs+r.den)+r.den^(k+1):Nat):Int) ((r.den^(k+1):Nat):Int)
  rw [Rat.divInt_eq_div,Rat.intCast_natCast,Rat.intCast_natCast] at ih ⊢
  rw [ih,Rat.natCast_add,Rat.natCast_mul,Rat.natCast_add,Qcd,Qcd,Rat.pow_succ,e]
  generalize ((grN (r.num.natAbs+r.den) r.den k:Nat):Rat)=x at *
  generalize ((r.den:Nat):Rat)=v at *
  generalize v^k=w at *
  have hw:w*v≠0:=by
   intro h
   rcases Rat.mul_eq_zero.1 h with h|h
   ·exact w1 h
   ·exact hrd h
  generalize (r.num:Rat)=a at *
  rw [<-er]
  grind
theorem Qm6 {r:Rat} (hr:0<=r) (hs:sz (r.num.natAbs+r.den)<=136) {k:Nat} (hk:k<=30):Sq 4200 (grn r k):=by
 have hden:=r.den_pos
 rw [Qrs hr k]
 have h1:=Qu (Qps (u:=r.num.natAbs+r.den) (v:=r.den) (by omega) (by omega) k)
 have s1:sz 1<=1:=sz_le (by decide)
 have h2:sz (2*(r.num.natAbs+r.den))<=137:=by
  have:=Y7 (r.num.natAbs+r.den) (r.num.natAbs+r.den)
  rw [Nat.two_mul];omega
 have h3:sz ((2*(r.num.natAbs+r.den))^k)<=4200:=by
  by_cases h0:k=0
  ·subst h0;rw [Nat.pow_zero];omega
  ·exact Nat.le_trans (Qdi _ h0) (Nat.le_trans (Nat.mul_le_mul hk h2) (by decide))
 have h4:sz (r.den^k)<=4200:=by
  by_cases h0:k=0
  ·subst h0;rw [Nat.pow_zero];omega
  ·exact Nat.le_trans (Qdi _ h0) (Nat.le_trans (Nat.mul_le_mul hk (show sz r.den<=137 from Nat.le_trans (Qu (by omega)) (Nat.le_trans hs (by decide)))) (by decide))
 have hp:0<r.den^k:=Nat.pow_pos hden
 exact Sq.div (by omega) (by rw [Int.natAbs_natCast];omega) (by rw [Int.natAbs_natCast];omega)
theorem Qnh {rows:List Rw} {one:Int} {r:Rat} {N:Nat} (hN:rows.length=N) (hN1:1<=N/\N<=30) (hr:0<=r) (hs:sz (r.num.natAbs+r.den)<=136) (hr':Sq 102 r) (ho:sz one.natAbs<=100000000) (hok:∀j (hj:j+1<rows.length),rows[j].c=0\/rows[j].pay=one):∀(f i:Nat),i+f=N ->
  ∃st,Runs (λrec x=>z203.l0b6P (rows.map rwv) (rows.map rwv) (((rows.map rwv).length:Nat):Int) (lb one.natAbs) (neg one) (fr r).1 (fr r).2.1 (fr r).2.2 rec some x) ((i:Int),(fr (grn r i)).1,(fr (grn r i)).2.1,(fr (grn r i)).2.2) (.inl (st,(fr (grn r N)).1,(fr (grn r N)).2.1,(fr (grn r N)).2.2))
 |
  0,i,hf=>by
  have:i=N:=by omega
  subst this
  refine ⟨(i:Int),.done λrec=>?_⟩
  unfold z203.l0b6P
  simp only
  rw [Qa (by rw [List.length_map];omega)]
 |
  f+1,i,hf=>by
  have hi:i<rows.length:=by omega
  have ek:wr .i64 ((i:Int)+1)=((i+1:Nat):Int):=by rw [Qc (by omega) (by omega)];rfl
  have hw:wr .i64 ((((rows.map rwv).length:Nat):Int)-1)=((rows.length-1:Nat):Int):=by rw [List.length_map,Qc (by omega) (by omega)];omega
  obtain ⟨st,rr⟩:=Qnh hN hN1 hr hs hr' ho hok f (i+1) (by omega)
  refine ⟨st,.step (λrec=>?_) rr⟩
  have q1:=Qm6 hr hs (k:=i) (by omega)
  have q2:=q1.mul hr'
  have q3:Sq 1 ((1:Int):Rat):=Sq.int (by have:=sz_le (show Int.natAbs 1<10^1 by decide);omega) (by decide)
  have eg:grn r i+grn r i*r+((1:Int):Rat)=grn r (i+1):=rfl
  unfold z203.l0b6P
  simp only
  rw [bif_t (by rw [List.length_map];omega),if_pos (by rw [List.length_map];omega),Zi,Q1 rwv hi]
  simp only [asW0,asW1,asW2,asW3,asW4,asW5,asW6,asW7]
  rw [Qby q1 hr' (by decide),Zb,Qa6 q1 q2 (by decide),Zb,whole_From (by decide),Zb]
  simp only
  rw [frac_From,Zb,Qa6 (q1.add q2) q3 (by decide),Zb,eg,ek,hw]
  by_cases hc:i+1<rows.length
  ·rw [bif_t (by omega)]
   rcases hok i hc with h|h
   ·rw [h,show itxt 0=[48] by decide +kernel]
    simp only [decide_true,Zn,Zc]
   ·refine Yr ?_ rfl
    rw [W4 ho,Zb,h]
    simp only [decide_true,Zn,Zc]
  ·rw [Qa (by omega)]
theorem Qzv {z:Int} (h:0<=z):itxt z=txt z.natAbs:=by unfold itxt;rw [if_neg (by omega)]
theorem Qqm {z:Int} (h:0<=z) (hs:sz z.natAbs<=4000):z42.F (itxt z)=some (lb z.natAbs,neg z,0):=by
 have hl:=Qc9 z.natAbs
 have e:((z.natAbs:Nat):Int)=z:=by omega
 rw [Qzv h,whole_Parse,Qe2 (by omega)]
 simp only [Int.natAbs_natCast,e]
theorem Qst {t:Tm} (one:Int) (h1:0<=one):∀(ps:List (D3×D3)) (z:Int),okP ps->0<=z->z<=10^30->∀x∈mRows t one z ps,sz x.pay.natAbs<=500
 |[],_,_,_,_=>λx hx=>by simp [mRows] at hx
 |
  p::ps,z,hp,hz,hz'=>λx hx=>by
  obtain ⟨r1,r2,r3⟩:=hp p (List.mem_cons_self ..)
  have hc:=Qay (t:=t) (p:=p) (last:=decide (ps=[])) h1 hz
  rcases List.mem_cons.1 (show x∈mRow t one z p (decide (ps=[]))::mRows t one (mRow t one z p (decide (ps=[]))).c ps from hx) with rfl|hx
  ·have s0:=Qc0 hz hz'
   have sn:=Qg7 (t:=t) (z:=z) (by omega) r1 r2
   have sb:=Qc0 hc.2.2.1 (by omega)
   have h:=Qae (intN t z p.1 p.2) (mRow t one z p (decide (ps=[]))).b
   have ep:intN t z p.1 p.2+(mRow t one z p (decide (ps=[]))).b=(mRow t one z p (decide (ps=[]))).pay:=rfl
   rw [ep] at h;omega
  ·exact Qst one h1 ps _ (λy hy=>hp y (List.mem_cons_of_mem _ hy)) hc.1 (by omega) x hx
theorem Q18 {t:Tm} (h:mCheck t=0) (hk:t.kind=0) (hb:t.basis=0) (hd:t.d<=28) (hc:t.count<=24) :
  z203.j7 ((mBuild t).map rwv,0) (lb (eachN t).natAbs,neg (eachN t),0) ((fr (perR t.r t.every)).1,(fr (perR t.r t.every)).2.1,(fr (perR t.r t.every)).2.2,0)=some true:=by
 obtain ⟨hkk,hcc,_,_⟩:=W6 h
 obtain ⟨k1,k2,k3,k4⟩:=Y6 hkk
 have he:=J5 k4
 obtain ⟨n,hn⟩:=Wc (show 0<=t.count by omega)
 obtain ⟨e1,e2,_⟩:=Qla h (by omega)
 have hP:=Ji t.p
 have hlen:(mBuild t).length=n:=by rw [Qgv,hn,Zi]
 have hps:=Qga h
 have hpl:t.periods.length=n:=by rw [Qdv,hn,Zi]
 have hpay:=Qst (t:=t) (eachN t) e1 t.periods (mMoney t.p).1 hps hP.1 hP.2
 have hX:=Qyc h hb hd
 have hr0:=Qa3 t.r he.1
 have hrS:=Qbs t.r he
 have hbits:=Qe1 t.r he (n:=30) (Nat.le_refl _)
 have hs:sz ((perR t.r t.every).num.natAbs+(perR t.r t.every).den)<=136:=by omega
 have hone:eachN t=rnd t.mode (lvl ((mMoney t.p).1:Rat) (perR t.r t.every) n):=by
  unfold eachN
  rw [if_pos hk,hn,Zi];rfl
 have hL0:=Qhv (n:=n) (Qfb hP.1) hr0 (by omega)
 have hfin:=Q1z (P:=((mMoney t.p).1:Rat)) hr0 (n:=n) (by omega)
 generalize hrow:mBuild t=rows at *
 generalize perR t.r t.every=r at *
 have hpos:0<rows.length:=by omega
 obtain ⟨p,ps,hpp⟩:∃p ps,t.periods=p::ps:=by
  cases hq:t.periods with
  |nil=>rw [hq] at hpl;simp at hpl;omega
  |cons p ps=>exact ⟨p,ps,rfl⟩
 have hfirst:rows[0].n=rnd t.mode (((mMoney t.p).1:Rat)*r):=by
  have hrow':rows=mRow t (eachN t) (mMoney t.p).1 p (decide (ps=[]))::mRows t (eachN t) (mRow t (eachN t) (mMoney t.p).1 p (decide (ps=[]))).c ps:=by
   rw [<-hrow]
   unfold mBuild
   rw [hpp]
   rfl
  subst hrow'
  show intN t (mMoney t.p).1 p.1 p.2=_
  unfold intN
  rw [hX p (by rw [hpp];exact List.mem_cons_self ..)]
 have hP0:(0:Rat)<=((mMoney t.p).1:Rat):=Qfb hP.1
 have hn0:0<=rows[0].n:=by rw [hfirst];exact Qdm _ (Rat.mul_nonneg hP0 hr0)
 have hnsz:sz rows[0].n.natAbs<=500:=by
  have sp:=Qaa t.p
  have:=Qaf t.mode ((Sq.int (k:=100) (z:=(mMoney t.p).1) (by omega) (by decide)).mul hrS)
  rw [hfirst];omega
 have g0:(rows.map rwv).getD 0 []=rwv rows[0]:=Q1 rwv hpos
 have l1:=Qj (eachN t).natAbs
 have l2:=Qj rows[0].n.natAbs
 unfold z203.j7
 simp only
 rw [if_pos (by rw [List.length_map];omega),g0]
 simp only [asW0,asW1,asW2,asW3,asW4,asW5,asW6,asW7]
 rw [Qqm hn0 (by omega),Zb]
 simp only
 rw [Qc5 (by omega),Zb]
 by_cases hcmp:cmpI (eachN t) rows[0].n<=0
 ·rw [bif_t hcmp]
 ·rw [Qa hcmp]
  have hgt:rows[0].n<eachN t:=by
   apply Wh.1
   omega
  rw [hfirst] at hgt
  have A:Ann t r (lvl ((mMoney t.p).1:Rat) r n) n (mMoney t.p).1 (mMoney t.p).1 (eachN t):=⟨hk,hr0,by omega,hone,e1,hgt,hfin,λk hk'=>by
   have:=Ql7 hr0 hL0 hfin (n-k) (by omega)
   rw [show n-(n-k)=k by omega] at this
   exact this⟩
  have hok:=Qqd A t.periods 0 (mMoney t.p).1 (by omega) hX hP.1 (Int.le_refl _) (.inl (by
   have hB:bal ((mMoney t.p).1:Rat) (lvl ((mMoney t.p).1:Rat) r n) r 0=((mMoney t.p).1:Rat):=rfl
   have hG:grn r 0=0:=rfl
   rw [hB,hG]
   constructor<;>grind))
  have hrows:mRows t (eachN t) (mMoney t.p).1 t.periods=rows:=hrow
  rw [hrows] at hok
  obtain ⟨ok1,ok2⟩:=hok
  have hne:rows≠[]:=List.ne_nil_of_length_pos hpos
  obtain ⟨o1,o2,o3⟩:=ok2 hne
  obtain ⟨st,rr⟩:=Qnh (one:=eachN t) hlen (by omega) hr0 hs hrS (by omega) ok1 n 0 (Nat.zero_add _)
  have er:z203.l0b6 (rows.map rwv) (rows.map rwv) (((rows.map rwv).length:Nat):Int) (lb (eachN t).natAbs) (neg (eachN t)) (fr r).1 (fr r).2.1 (fr r).2.2 ((0:Int),[],false,[])=some (.inl (st,(fr (grn r n)).1,(fr (grn r n)).2.1,(fr (grn r n)).2.2)):=by
   have:=rr.lfp
   rw [show grn r 0=0 from rfl,Qo0] at this
   exact this
  have hli:rows.length-1<rows.length:=by omega
  have hlast:rows.getLast hne=rows[rows.length-1]'hli:=List.getLast_eq_getElem hne
  have hw:wr .i64 ((((rows.map rwv).length:Nat):Int)-1)=((rows.length-1:Nat):Int):=by rw [List.length_map,Qc (by omega) (by omega)];omega
  have hlp:sz (rows.getLast hne).pay.natAbs<=500:=hpay _ (by rw [hrows];exact List.getLast_mem hne)
  have l3:=Qj (rows.getLast hne).pay.natAbs
  rw [er,Zb]
  simp only
  rw [hw,if_pos (by rw [List.length_map];omega),Zi,Q1 rwv hli,<-hlast]
  simp only [asW0,asW1,asW2,asW3,asW4,asW5,asW6,asW7]
  generalize (rows.getLast hne).pay=L at *
  generalize eachN t=one at *
  have hdz:sz (L-one).natAbs<=10001:=by
   have h:=Qu (show (L-one).natAbs<=L.natAbs+one.natAbs by omega)
   have:=Y7 L.natAbs one.natAbs
   omega
  have q1:=Qm6 hr0 hs (k:=n) (by omega)
  have q3:Sq 1 ((3:Int):Rat):=Sq.int (by have:=sz_le (show Int.natAbs 3<10^1 by decide);omega) (by decide)
  have qd:Sq 10001 ((((L-one).natAbs:Nat):Int):Rat):=Sq.int (by rw [Int.natAbs_natCast];omega) (by decide)
  have ef:=frac_From (((L-one).natAbs:Nat):Int)
  rw [Int.natAbs_natCast,Qe9] at ef
  rw [Qqm o1 (by omega),Zb]
  simp only
  rw [Qb7 (by omega),Zb]
  simp only
  rw [show z59.F (lb (L-one).natAbs) (neg (L-one))=some (lb (L-one).natAbs) from rfl,Zb,whole_Of,Zb]
  simp only [Bool.false_and]
  rw [ef,Zb,whole_From (by decide),Zb]
  simp only
  rw [frac_From,Zb,Qby q1 q3 (by decide),Zb,Qgo qd (q1.mul q3) (by decide),Zb]
  congr 1
  apply Zt
  have hle:((((L-one).natAbs:Nat):Int):Rat)<=grn r n*((3:Int):Rat):=by
   have hg:=Qf8 hr0 n
   have e3:((3:Int):Rat)=3:=rfl
   rw [e3]
   rcases Int.le_total 0 (L-one) with hs|hs
   ·have:(((L-one).natAbs:Nat):Int)=L-one:=by omega
    rw [this,Rat.intCast_sub]
    grind
   ·have:(((L-one).natAbs:Nat):Int)=one-L:=by omega
    rw [this,Rat.intCast_sub]
    grind
  rcases Int.lt_or_le 0 (cmpI (((((L-one).natAbs:Nat):Int):Rat).num*(grn r n*((3:Int):Rat)).den) ((grn r n*((3:Int):Rat)).num*((((L-one).natAbs:Nat):Int):Rat).den)) with hx|hx
  ·exfalso
   have h1:=Wh.1 hx
   have h2:=(Rat.le_iff _ _).1 hle
   omega
  ·exact hx
theorem Qzu {a0 a1 a2 a3 a4 a5 a6 a7 a8 a9 a10 a11:Int} (h0:(Lit.int .u64 a0).wf=true) (h1:(Lit.int .u16 a1).wf=true) (h2:(Lit.int .u32 a2).wf=true) (h3:(Lit.int .u8 a3).wf=true) (h4:(Lit.int .u8 a4).wf=true) (h5:(Lit.int .u8 a5).wf=true)
  (h6:(Lit.int .u8 a6).wf=true) (h7:(Lit.int .u8 a7).wf=true) (h8:(Lit.int .u8 a8).wf=true):z203.F a0 a1 a2 a3 a4 a5 a6 a7 a8 a9 a10 a11=some true:=by
 obtain ⟨t0,g0,e⟩:=Qgx (a9:=a9) (a10:=a10) (a11:=a11) (most:=24) (Qhl h0) (Qb9 h1) (Qc4 h2) (Qs h3) (Qs h4) (Qs h5) (Qs h6) (Qs h7) (Qs h8) (by decide)
 obtain ⟨k1,k2,k3,k4⟩:=Y6 g0.kinds
 have hr0:=Q3 g0.date
 have hd1:=g0.date
 have hdd:=Qbn (y:=t0.y) (by omega) (m:=t0.m) (by omega)
 have hright:right t0.y t0.m (if (28:Int)<t0.d then (28:Int) else t0.d):=by
  split
  ·exact ⟨by decide,by omega⟩
  ·exact hd1
 have g:Good {t0 with kind:=0,basis:=0,d:=if (28:Int)<t0.d then (28:Int) else t0.d} 24:=⟨g0.money,g0.rate,⟨(show (0:Int)<=0/\(0:Int)<=2 by decide),(show (0:Int)<=0/\(0:Int)<=2 by decide),k3,k4⟩,hright,g0.year,g0.count⟩
 have hd28:(if (28:Int)<t0.d then (28:Int) else t0.d)<=28:=by split<;>omega
 generalize ht:({t0 with kind:=0,basis:=0,d:=if (28:Int)<t0.d then (28:Int) else t0.d}:Tm)=t at *
 have f1:t0.p=t.p:=by rw [<-ht]
 have f2:t0.r=t.r:=by rw [<-ht]
 have f3:t0.mode=t.mode:=by rw [<-ht]
 have f4:t0.y=t.y:=by rw [<-ht]
 have f5:t0.m=t.m:=by rw [<-ht]
 have f6:(if (28:Int)<t0.d then (28:Int) else t0.d)=t.d:=by rw [<-ht]
 have f7:t0.every=t.every:=by rw [<-ht]
 have f8:t0.count=t.count:=by rw [<-ht]
 have f9:t.kind=0:=by rw [<-ht]
 have f10:t.basis=0:=by rw [<-ht]
 have hok:=Qhu g (by decide)
 have hc:=g.count
 obtain ⟨n,hn⟩:=Wc (show 0<=t.count by omega)
 obtain ⟨m,hm,hm0,hm1⟩:=g.money
 have hmw:mWhole t.p=((m:Int),0):=by
  rw [hm]
  have:(txt m).length<=31:=Y2 (Nat.lt_of_le_of_lt hm1 (by decide)) (by decide)
  exact Qe2 (by omega)
 have hmm:mMoney t.p=((m:Int),0):=by rw [hm,Jz hm1]
 have hev:=J5 (Y6 g.kinds).2.2.2
 have hpb:=plan_Build hok (by omega)
 rw [f9,f10] at hpb
 have hmsz:sz m<=31:=sz_le (Nat.lt_of_le_of_lt hm1 (by decide))
 have hpay:=level_Payment (a:=(m:Int)) (s:=t.r) (e:=t.every) (m:=t.mode) (n:=n) (by omega) (by rw [Int.natAbs_natCast];omega) g.rateOK hev (by omega) (Y6 g.kinds).2.2.1
 have hone:payN t.mode (m:Int) t.r t.every n=eachN t:=by
  unfold eachN
  rw [if_pos f9,hn,Zi,hmm]
 rw [hone] at hpay
 have hj:=Q18 hok f9 f10 (by omega) (by omega)
 unfold z203.F
 rw [e,Zb]
 simp only
 rw [f1,f2,f3,f4,f5,f6,f7,f8,hpb,Zb,whole_Parse,Zb,hmw]
 simp only
 rw [hn,hpay,Zb,level_Rate g.rateOK hev,Zb,Qcc,Zb]
 simp only [decide_true,Zn,Zc]
 rw [List.length_map,Qgv,hn,Zi]
 simp only [decide_true,Zn,Zc]
 exact hj
end Go.Proofs.YtgjncgiekniniaaGreatDoor.A
end
section
set_option linter.unusedVariables false
namespace Go.Proofs.YtgjncgiekniniaaGreatDoor.A
open Go
namespace PlanLast
theorem law (a0:Int) (a1:Int) (a2:Int) (a3:Int) (a4:Int) (a5:Int) (a6:Int) (a7:Int) (a8:Int) (a9:Int) (a10:Int) (a11:Int) (h0:(Lit.int .u64 a0).wf=true) (h1:(Lit.int .u16 a1).wf=true) (h2:(Lit.int .u32 a2).wf=true) (h3:(Lit.int .u8 a3).wf=true) (h4:(Lit.int .u8 a4).wf=true) (h5:(Lit.int .u8 a5).wf=true) (h6:(Lit.int .u8 a6).wf=true) (h7:(Lit.int .u8 a7).wf=true) (h8:(Lit.int .u8 a8).wf=true) (h9:(Lit.int .i64 a9).wf=true) (h10:(Lit.int .i64 a10).wf=true) (h11:(Lit.int .i64 a11).wf=true):z203.F a0 a1 a2 a3 a4 a5 a6 a7 a8 a9 a10 a11=some true:=
 Qzu h0 h1 h2 h3 h4 h5 h6 h7 h8
end PlanLast
end Go.Proofs.YtgjncgiekniniaaGreatDoor.A
end
section
set_option maxRecDepth 100000
namespace Go.Proofs.YtgjncgiekniniaaGreatDoor.A
open Go Go.RowKit Go.ChangeShapes Go.WideShapes Go.ChangeAt
noncomputable section
namespace PlanLast
theorem wide:Q4f Tryz.prog 8 Tryz.f20.params.toList=some [(.agg [.sc (.i .u64),.sc (.i .u16),.sc (.i .u32),.sc (.i .u8),.sc (.i .u8),.sc (.i .u8),.sc (.i .u8),.sc (.i .u8),.sc (.i .u8),.sc (.i .i64),.sc (.i .i64),.sc (.i .i64)])]:=by kernel_rfl
theorem readable:Tryz.f20.params.toList.all (λt=>Tryz.prog.readableRec t&&decide (t<Tryz.prog.types.size))=true:=by kernel_rfl
noncomputable def args0:Array Value:=#[.agg #[.int .u64 0,.int .u16 0,.int .u32 0,.int .u8 0,.int .u8 0,.int .u8 0,.int .u8 0,.int .u8 0,.int .u8 0,.int .i64 0,.int .i64 0,.int .i64 0]]
theorem laid_met (os:Os):laidMet Tryz.prog Rows.planLastRow.laid ((Q4e os).forCall (λ_ _=>0) ⟨#[],args0,[]⟩).memory:=
 laidMet_of_run' 12 (by kernel_rfl) (by kernel_rfl)
theorem reads (os:Os) {H:Type} (enc:TypeId×Value->H):∃ds places,DataW.whole enc Tryz.prog ((Q4e os).forCall (λ_ _=>0) ⟨#[],args0,[]⟩).memory Tryz.f20.params.toList Rows.planLastSpec.vars false args0.toList 12=some (ds,[],places):=
 ⟨[.agg [.lit (.int .u64 0),.lit (.int .u16 0),.lit (.int .u32 0),.lit (.int .u8 0),.lit (.int .u8 0),.lit (.int .u8 0),.lit (.int .u8 0),.lit (.int .u8 0),.lit (.int .u8 0),.agg [.lit (.int .i64 0),.lit (.int .i64 0),.lit (.int .i64 0)]]],[],by kernel_rfl⟩
theorem plainly (vs:List V) (h:okAL [(.agg [.sc (.i .u64),.sc (.i .u16),.sc (.i .u32),.sc (.i .u8),.sc (.i .u8),.sc (.i .u8),.sc (.i .u8),.sc (.i .u8),.sc (.i .u8),.sc (.i .i64),.sc (.i .i64),.sc (.i .i64)])] vs):∃p r,SoundC Tryz.prog 20 vs p/\p.m=some r/\p.enc r=.bool true:=by
 obtain ⟨_,_,rfl,⟨_,rfl,_,_,rfl,⟨a0,rfl,h0⟩,_,_,rfl,⟨a1,rfl,h1⟩,_,_,rfl,⟨a2,rfl,h2⟩,_,_,rfl,⟨a3,rfl,h3⟩,_,_,rfl,⟨a4,rfl,h4⟩,_,_,rfl,⟨a5,rfl,h5⟩,_,_,rfl,⟨a6,rfl,h6⟩,_,_,rfl,⟨a7,rfl,h7⟩,_,_,rfl,⟨a8,rfl,h8⟩,_,_,rfl,⟨a9,rfl,h9⟩,_,_,rfl,⟨a10,rfl,h10⟩,_,_,rfl,⟨a11,rfl,h11⟩,rfl⟩,rfl⟩:=h
 exact ⟨⟨Bool,z203.F a0 a1 a2 a3 a4 a5 a6 a7 a8 a9 a10 a11,z203.enc⟩,true,z203.sound _ _ (by kernel_rfl),law a0 a1 a2 a3 a4 a5 a6 a7 a8 a9 a10 a11 h0 h1 h2 h3 h4 h5 h6 h7 h8 h9 h10 h11,rfl⟩
theorem specFn {H:Type} (ds:List (DataW H)) (h:ds.length=Tryz.f20.params.toList.length):Rows.planLastSpec.fn H ds={results:=[.lit (.bool true)],args:=ds}:=by
 have h:ds.length=1:=h.trans (by kernel_rfl)
 match ds,h with
 |[d0],_=>rfl
theorem clos:Tryz.prog.closure 20=[20,43,95,153,219,60,152,113,131,208,234,235,26,102,132,86,49,48,44,36,76,160,223,260,161,200,250,249,251,253,276,252,255,279,289,277,287,278,288,292,283,290,293,285,284,254,158,222,185,164,227,268,183,99,184,104,91,28,114,195,247,74,90,110,24,100,186,146,212,245,273,187,38,118,198,248,275,286,291,199,201,69,119,202,120,121,203,204,156,122,123,176,92,163,226,162,188,224,261,262,280,225,263,264,265,266,267,281,68,124,157,130,133,47,137,209,228,257,149,214,215,134,142,210,258,259,138,173,87,88,89,175,71,216,238,270,239,150,217,236,79,165,57,145,229,230,231,65,140,211,232,269,78,174,237,25,101,189,190,246,274,191,83,169,84,67]:=by kernel_rfl
theorem inPlace:(Rows.planLastRow.inPlace == Tryz.prog.inPlace 20)=true:=by unfold Program.inPlace;rw [clos];kernel_rfl
theorem unfollowed:(Rows.planLastRow.unfollowed == Tryz.prog.unfollowed 20)=true:=by unfold Program.unfollowed;rw [clos];kernel_rfl
theorem recurses:(Rows.planLastRow.recurses == Tryz.prog.recurses 20)=true:=by unfold Program.recurses Program.unfollowed;rw [clos];kernel_rfl
theorem named:(Rows.planLastRow.named == Tryz.prog.varsNamed 20)=true:=by unfold Program.varsNamed;rw [clos];kernel_rfl
theorem number:Tryz.prog.funcNamed "chattel/chattellaw17.PlanLast" = some 20:=by kernel_rfl
theorem goes:false=Rows.planLastRow.goesBy Tryz.prog:=by
 have h:Tryz.prog.goes 20=false:=by unfold Program.goes Program.unfollowed;rw [clos];kernel_rfl
 have e:Rows.planLastRow.goesBy Tryz.prog=((Tryz.prog.funcNamed "chattel/chattellaw17.PlanLast").any Tryz.prog.goes||false):=by kernel_rfl
 rw [e,number]
 simp [h]
theorem j_wf:Rows.planLastRow.wf (OpenSpec.ofChange (OpenSpec.ofChange Rows.planLastSpec).bare)=true:=by kernel_rfl
theorem j_params:(Tryz.f20.params.all (Tryz.pinned.checked.prog.readableRec ·))=true:=by kernel_rfl
theorem j_vars:namedTie Tryz.pinned.checked.prog Rows.planLastRow.named (OpenSpec.ofChange Rows.planLastSpec).bare.vars=true:=by kernel_rfl
theorem j_stops:(Rows.planLastRow.stops == [])=true:=by kernel_rfl
theorem j_knobs:(Rows.planLastRow.knobs == [])=true:=by kernel_rfl
theorem j_maps:(Rows.planLastRow.maps == (Tryz.f20.params.toList++DataSpec.varTypes Tryz.pinned.checked.prog (OpenSpec.ofChange Rows.planLastSpec).bare.plain).any (Tryz.pinned.checked.prog.mapsRec ·))=true:=by kernel_rfl
theorem j_ifaces:(Rows.planLastRow.ifaces == (Tryz.f20.params.toList++DataSpec.varTypes Tryz.pinned.checked.prog (OpenSpec.ofChange Rows.planLastSpec).bare.plain).any (Tryz.pinned.checked.prog.ifacesRec ·))=true:=by kernel_rfl
theorem j_mapsOut:(Rows.planLastRow.mapsOut == Tryz.pinned.checked.prog.mapsAmong Tryz.f20.resultTypes.toList)=true:=by kernel_rfl
theorem j_loops:(Rows.planLastRow.loops == (Tryz.f20.params.toList++DataSpec.varTypes Tryz.pinned.checked.prog (OpenSpec.ofChange Rows.planLastSpec).bare.plain).any (Tryz.pinned.checked.prog.loopsFrom ·))=true:=by kernel_rfl
theorem j_wideKeys:(Rows.planLastRow.wideKeys == (Tryz.f20.params.toList++DataSpec.varTypes Tryz.pinned.checked.prog (OpenSpec.ofChange Rows.planLastSpec).bare.plain++Tryz.f20.resultTypes.toList).any (Tryz.pinned.checked.prog.wideKeysFrom ·))=true:=by kernel_rfl
theorem j_varsRead:(OpenSpec.ofChange Rows.planLastSpec).bare.vars.all (Tryz.pinned.checked.prog.varReadable ·)=true:=by kernel_rfl
theorem j_results:(Tryz.f20.resultTypes.all λt=>Tryz.pinned.checked.prog.readableRec t&&decide (t<Tryz.pinned.checked.prog.types.size))=true:=by kernel_rfl
theorem j_ifacesOut:(Rows.planLastRow.ifacesOut == Tryz.f20.resultTypes.toList.any (Tryz.pinned.checked.prog.ifacesRec ·))=true:=by kernel_rfl
theorem j_loopsOut:(Rows.planLastRow.loopsOut == Tryz.f20.resultTypes.toList.any (Tryz.pinned.checked.prog.loopsFrom ·))=true:=by kernel_rfl
theorem j_plainKeys:(Rows.planLastRow.plainKeys == Tryz.pinned.checked.prog.plainKeys)=true:=by kernel_rfl
theorem j_short:Rows.planLastRow.shortTexts.isNone=true:=by kernel_rfl
theorem j_lift:(Rows.planLastRow.lifted == Tryz.pinned.checked.prog.liftsFinal)=true:=by kernel_rfl
theorem j_make:(Tryz.pinned.checked.prog.make == some Rows.planLastRow.make)=true:=by kernel_rfl
theorem j_kinds:(Rows.planLastRow.kinds == (if Rows.planLastRow.domain.isEmpty then [] else Tryz.f20.params.toList.map λt=>match Tryz.pinned.checked.prog.underlying t with|some (.int k)=>some k|_=>none))=true:=by kernel_rfl
theorem j_pinned:(Rows.planLastRow.pinned == Rows.planLastRow.pinnedBy)=true:=by kernel_rfl
theorem j_veiled:(Rows.planLastRow.veiled == (Tryz.f20.params.toList++DataSpec.varTypes Tryz.pinned.checked.prog (OpenSpec.ofChange Rows.planLastSpec).bare.plain++Tryz.f20.resultTypes.toList).any (Tryz.pinned.checked.prog.veiledRec ·))=true:=by kernel_rfl
theorem j_veiledFits:Rows.planLastRow.veiledFits Tryz.pinned.checked.prog Tryz.f20.params.toList (Tryz.f20.params.toList++DataSpec.varTypes Tryz.pinned.checked.prog (OpenSpec.ofChange Rows.planLastSpec).bare.plain++Tryz.f20.resultTypes.toList)=true:=by kernel_rfl
theorem joined:joinedFacts Tryz.pinned.checked.prog 20 Tryz.f20 (OpenSpec.ofChange Rows.planLastSpec).bare Rows.planLastRow=true:=by
 unfold joinedFacts
 simp only [Bool.and_eq_true]
 and_intros
 ·exact j_wf
 ·exact laidOut
 ·exact rowed
 ·exact j_params
 ·exact j_vars
 ·exact j_stops
 ·exact Q4j
 ·exact j_knobs
 ·exact Q4l
 ·exact inPlace
 ·exact unfollowed
 ·exact recurses
 ·exact named
 ·exact j_maps
 ·exact j_ifaces
 ·exact j_mapsOut
 ·exact j_loops
 ·exact j_wideKeys
 ·exact j_varsRead
 ·exact j_results
 ·exact j_ifacesOut
 ·exact j_loopsOut
 ·exact j_plainKeys
 ·exact j_short
 ·exact Q4g
 ·exact Q4k
 ·exact j_lift
 ·exact j_make
 ·exact j_kinds
 ·exact j_pinned
 ·exact j_veiled
 ·exact j_veiledFits
theorem lifted (os:Os) (started:os.Started) (H:Type) (enc:TypeId×Value->H) (F:Stop.Interp) :
  ReturnsInHanded {} Tryz.checked os 20 .any ((OpenSpec.ofChange Rows.planLastSpec).preRow enc Tryz.prog Tryz.f20 Rows.planLastRow.domain false Rows.planLastRow.laid) (((OpenSpec.ofChange Rows.planLastSpec).at F).post enc Tryz.prog Tryz.f20 false true false false):=by
 obtain ⟨ds0,places,hx⟩:=reads os enc
 refine returnsInHanded_of_row (C:=Tryz.checked) (s:=OpenSpec.ofChange Rows.planLastSpec) own started (by kernel_rfl) Tryz.func20
  (witness_row_at (enc:=enc) (C:=Tryz.checked) false (Q4e os) args0 rfl (by kernel_rfl) (by kernel_rfl) (by kernel_rfl)
   (OpenSpec.preRow_of_cond 12 hx (by kernel_rfl) (λk hk=>by cases hk) (by kernel_rfl) (laid_met os))) ?_
 intro W base args ds gs before hval hW _ _ _ hL _ _
 exact Q4h Qri laidOut readable wide (tb:=4) (by kernel_rfl) (by kernel_rfl) rfl specFn plainly W base args ds gs before hval hW
theorem wrapped:Tryz.f20.isWrapper Tryz.pinned.checked.prog Rows.planLastRow.wrapper Rows.planLastRow.mainSum:=by
 unfold Func.isWrapper;first|(rw [if_pos (by decide +kernel)];kernel_rfl)|(rw [if_neg (by decide +kernel)];exact ⟨rfl,rfl⟩)
theorem origin:Tryz.f20.isInstance Tryz.pinned.checked.prog Rows.planLastRow.origin Rows.planLastRow.targs:=of_decide_eq_true (by kernel_rfl)
theorem said:Rows.PlanLastSaid:=
 OpenClaim.holds_of_cond 20 Tryz.f20 rfl rfl rfl rfl rfl rfl rfl ⟨rfl,rfl,rfl,rfl,rfl⟩ rfl rfl rfl rfl rfl number Tryz.func20 joined origin wrapped
  (λos started H enc _ F=>by rw [OpenClaim.pre_eq_preRow];exact lifted os started H enc F)
theorem plainRow (f:FuncId) (fn:Func) (hf:Tryz.pinned.checked.prog.funcNamed "chattel/chattellaw17.PlanLast" = some f) (hfn:Tryz.pinned.checked.prog.funcs[f]? = some fn) :
  false=Tryz.pinned.checked.prog.looks []/\∀(j:Nat) t,fn.params[j]? = some t->Tryz.pinned.checked.prog.wantsStandIn t=false:=by
 obtain rfl:f=20:=Option.some.inj (number.symm.trans hf) |>.symm
 obtain rfl:fn=Tryz.f20:=(Option.some.inj (Tryz.func20.symm.trans hfn)).symm
 refine ⟨Q4m,λj t ht=>?_⟩
 have hall:Tryz.f20.params.toList.all (λt=>!Tryz.prog.wantsStandIn t)=true:=by kernel_rfl
 have:=List.all_eq_true.1 hall t (by simpa using Array.mem_of_getElem? ht)
 exact Bool.not_eq_true' _ |>.mp this
theorem card:Rows.PlanLastCardSaid:=
 Claim7.holds_tied_plain_at .later [] _ _ _ _ said (λ_ h=>by cases h) (by kernel_rfl) (λ_ h=>by cases h) planLast_row_tie rfl ⟨rfl,rfl⟩ main rfl plainRow goes
end PlanLast
end
end Go.Proofs.YtgjncgiekniniaaGreatDoor.A
end
