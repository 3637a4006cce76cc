/- Part 5 of the proof of PlanBuilds.card. -/
import Derived.Test.YtgjncgiekniniaaGreatDoorCae4
import Derived.Deep.DeepHandedRow
import Derived.Lib.LaidTab
set_option linter.unusedVariables false
set_option linter.unusedSimpArgs false
section
namespace Go.Proofs.YtgjncgiekniniaaGreatDoor.A
open Go
theorem quot_Shr {v k:Nat} (hk:k<=63) (hl:(lb v).length<=800000000):z66.F (lb v) (k:Int)=some (lb (v/2^k),0):=by
 have ht:Int.tdiv (k:Int) 64=0:=by rw [W1 (by omega)];omega
 have hm:Int.tmod (k:Int) 64=(k:Int):=by rw [Yv (by omega)];omega
 have h0:wr .i64 0=0:=by decide
 have hw:wr .u64 (k:Int)=(k:Int):=Qm (by omega) (by omega)
 have hi:(if (((lb v).length:Nat):Int)<0 then (((lb v).length:Nat):Int) else (0:Int))=0:=by rw [if_neg (by omega)]
 have hr:=(Qli hk (lb v) [] (Qu bL v) (by simp only [List.length_nil];omega)).lfp
 simp only [List.length_nil,Nat.zero_add,List.nil_append] at hr
 have er:z66.l0 0 (lb v).length (k:Int) (((lb v).length:Nat):Int) ((0:Int),lb v)=some ((((lb v).length:Nat):Int),shrL k (lb v)):=hr
 have hv:=Qk9 hk (Qu bL v)
 rw [Q0 bL] at hv
 have hlen:=Qkq k (lb v)
 have hval:∀i:Nat,(shrL k (lb v)).getD i 0=(shrL k (lb v)).getD i 0:=λ_=>rfl
 have hin:inB LB (shrL k (lb v)):=by
  have key:∀l:J0,inB LB l->inB LB (shrL k l):=by
   intro l
   induction l with
   |nil=>intro _;exact inB_nil _
   |
    cons x l ih=>
    intro h
    rw [We] at h
    obtain ⟨n,hn⟩:=Wx h.1.1
    have hnb:n<18446744073709551616:=by have:=h.1.2;rw [hn] at this;exact_mod_cast this
    have hp:=Nat.two_pow_pos k
    have hnk:n/2^k<2^(64-k):=by
     refine Nat.div_lt_of_lt_mul ?_
     rw [Nat.mul_comm,Qaf (by omega)];exact hnb
    cases l with
    |
     nil=>
     refine We.2 ⟨⟨?_,?_⟩,inB_nil _⟩
     ·rw [hn];exact Int.natCast_nonneg (n/2^k)
     ·rw [hn]
      have:=Nat.div_le_self n (2^k)
      exact Int.ofNat_lt.2 (show n/2^k<18446744073709551616 by omega)
    |
     cons y l=>
     have hy:=h.2
     rw [We] at hy
     obtain ⟨m,hm⟩:=Wx hy.1.1
     have hmm:=Qjc (x:=m) (k:=64-k) (by omega)
     rw [show 64-(64-k)=k by omega] at hmm
     have hmk:=Nat.mod_lt m hp
     obtain ⟨_,o2⟩:=Qf6 (c:=n/2^k) (w:=m%2^k) (k:=64-k) (by omega) hnk (by rw [show 64-(64-k)=k by omega];exact hmk)
     have e6:y*(2^(64-k):Nat)%18446744073709551616+x/(2^k:Nat)=((m%2^k*2^(64-k)+n/2^k:Nat):Int):=by
      rw [hm,hn,Int.natCast_add,<-hmm];rfl
     refine We.2 ⟨?_,ih h.2⟩
     rw [e6]
     exact ⟨Int.natCast_nonneg _,Int.ofNat_lt.2 o2⟩
  exact key _ (Qu bL v)
 unfold z66.F z65.F
 rw [Qa (by omega),Zf (by omega)]
 simp only [Zb,Zc]
 rw [ht,hm,h0,hw,hi,if_pos (by omega),if_pos (by omega)]
 simp only [Int.toNat_zero,Nat.sub_zero]
 rw [er]
 simp only [Zb,List.drop_zero]
 rw [List.take_of_length_le (by omega),Qcf hin (by show List.length _<=_;omega),hv]
 simp only [Zb]
 congr 3
theorem Qdq (n:Nat):inB LB (lb n):=Qu bL n
theorem Qya {x s:Nat} (hs:s<=63) (h:x*2^s<18446744073709551616):(x+1)*2^s<=18446744073709551616:=by
 rw [<-Qaf (show s<=64 by omega)] at h ⊢
 have:=Nat.lt_of_mul_lt_mul_right h
 exact Nat.mul_le_mul_right _ (by omega)
theorem Qs5 {a b:Nat} (hb:2<=(lb b).length) (hab:(lb b).length<=(lb a).length) (hl:(lb a).length<=700000000) :
  ∃q,z67.F (lb a) (lb b)=some (q,lb (a%b))/\inB LB q/\q.length<=900000000/\valB LB q=((a/b:Nat):Int):=by
 obtain ⟨n,hn⟩:∃n,(lb b).length=n:=⟨_,rfl⟩
 obtain ⟨la,hla⟩:∃n,(lb a).length=n:=⟨_,rfl⟩
 have hb0:0<b:=by
  rcases Nat.eq_zero_or_pos b with h|h
  ·subst h;rw [lb_zero] at hb;simp at hb
  ·exact h
 obtain ⟨x,hx,hxb⟩:=limb (Qdq b) (n-1)
 have hsplit:=Qan LB (l:=lb b) (k:=n-1) (by omega)
 have hd1:=Q4 (B:=LB) (lb b) (n-1)
 rw [show n-1+1=n by omega,show List.drop n (lb b)=[] from List.drop_eq_nil_of_le (by omega),show valB LB []=0 from rfl,Int.mul_zero,Int.add_zero,hx] at hd1
 rw [Q0 bL,hd1] at hsplit
 have hlow:=Wt bL (Wb (Qdq b) (n-1))
 rw [List.length_take,Nat.min_eq_left (by omega)] at hlow
 have hlow0:=Q7 (Wb (Qdq b) (n-1))
 obtain ⟨bl,hbl⟩:=Wx hlow0
 rw [hbl] at hsplit hlow
 have hbe:b=LB^(n-1)*x+bl:=by
  have:(b:Int)=((LB^(n-1)*x+bl:Nat):Int):=by rw [hsplit,Int.natCast_add,Int.natCast_mul];omega
  exact_mod_cast this
 have hblt:bl<LB^(n-1):=by exact_mod_cast hlow
 have hx0:0<x:=by
  have hne:lb b≠[]:=λe=>by rw [e] at hb;simp at hb
  have h1:(lb b).getLast hne≠0:=Qiw bL b hne
  rw [List.getLast_eq_getElem] at h1
  have e:(lb b).getD ((lb b).length-1) 0=(lb b)[(lb b).length-1]'(by omega):=by simp [List.getD,show (lb b).length-1<(lb b).length by omega]
  have hx':(lb b).getD ((lb b).length-1) 0=(x:Int):=by rw [hn];exact hx
  rw [hx'] at e
  rcases Nat.eq_zero_or_pos x with h|h
  ·subst h;exact absurd e.symm h1
  ·exact h
 obtain ⟨s,hs,s1,s2,hlead⟩:=Qou hx0 hxb
 have hp:=Nat.two_pow_pos s
 obtain ⟨u0,mu,_,iu,lu,vu⟩:=Qkg hs (Qdq a) (by omega)
 obtain ⟨d0,_,md,id,ld,vd⟩:=Qkg hs (Qdq b) (by omega)
 rw [Q0 bL] at vu vd
 rw [hla] at mu lu
 rw [hn] at md ld
 obtain ⟨P,hP⟩:∃P,LB^(n-1)=P:=⟨_,rfl⟩
 have hPp:0<P:=hP▸Nat.pow_pos (by decide)
 have hPn:LB^n=P*18446744073709551616:=by
  rw [<-hP,show n=n-1+1 by omega,Nat.pow_succ];simp
 rw [hP] at hbe hblt
 have hDlt:b*2^s<LB^n:=by
  have h1:b<P*(x+1):=by rw [Nat.mul_add,Nat.mul_one];omega
  have h2:b*2^s<P*(x+1)*2^s:=Nat.mul_lt_mul_of_pos_right h1 hp
  have h3:P*((x+1)*2^s)<=P*18446744073709551616:=Nat.mul_le_mul_left _ (Qya hs s2)
  rw [Nat.mul_assoc] at h2
  omega
 have hDge:P*9223372036854775808<=b*2^s:=by
  have h1:P*x*2^s<=b*2^s:=Nat.mul_le_mul_right _ (by omega)
  have h2:P*9223372036854775808<=P*(x*2^s):=Nat.mul_le_mul_left _ s1
  rw [Nat.mul_assoc] at h1
  omega
 have hvd:valB LB d0=((b*2^s:Nat):Int):=by rw [vd,Int.natCast_mul,Int.mul_comm]
 have hvu:valB LB u0=((a*2^s:Nat):Int):=by rw [vu,Int.natCast_mul,Int.mul_comm]
 have hd0z:valB LB (d0.drop n)=0:=by
  have:=Qiv id (i:=0) (n:=n) (by omega) (by rw [List.drop_zero,hvd];exact Int.ofNat_lt.2 hDlt)
  rwa [Nat.zero_add] at this
 have hD:((b*2^s:Nat):Int)=valB LB (d0.take n):=by
  rw [<-hvd,Qan LB (l:=d0) (k:=n) (by omega),hd0z,Int.mul_zero,Int.add_zero]
 have hD1:18446744073709551616<=2*d0.getD (n-1) 0:=by
  obtain ⟨t,ht,htb⟩:=limb id (n-1)
  have h1:=Qan LB (l:=d0) (k:=n-1) (by omega)
  have h2:=Q4 (B:=LB) d0 (n-1)
  rw [show n-1+1=n by omega,hd0z,Int.mul_zero,Int.add_zero,ht] at h2
  rw [hvd,h2] at h1
  have h3:=Wt bL (Wb id (n-1))
  rw [List.length_take,Nat.min_eq_left (by omega)] at h3
  obtain ⟨w,hw⟩:=Wx (Q7 (Wb id (n-1)))
  rw [hw,hP] at h1 h3
  have h4:b*2^s=P*t+w:=by
   have:((b*2^s:Nat):Int)=((P*t+w:Nat):Int):=by rw [h1,Int.natCast_add,Int.natCast_mul];omega
   exact Int.natCast_inj.1 this
  have h5:w<P:=by exact_mod_cast h3
  have h6:P*9223372036854775808<P*(t+1):=by rw [Nat.mul_add,Nat.mul_one];omega
  have h7:=Nat.lt_of_mul_lt_mul_left h6
  rw [ht];omega
 have hD0:0<b*2^s:=Nat.mul_pos hb0 hp
 obtain ⟨m,hm⟩:=Wx (Q7 (Yo iu (la+1-n)))
 have hmD:m<b*2^s:=by
  have h1:=Qan LB (l:=u0) (k:=la+1-n) (by omega)
  rw [hvu,hm] at h1
  obtain ⟨w,hw⟩:=Wx (Q7 (Wb iu (la+1-n)))
  rw [hw] at h1
  have h2:a*2^s=w+LB^(la+1-n)*m:=by
   have:((a*2^s:Nat):Int)=((w+LB^(la+1-n)*m:Nat):Int):=by rw [h1,Int.natCast_add,Int.natCast_mul]
   exact Int.natCast_inj.1 this
  have h3:a<LB^la:=hla▸Qah bL
  have h4:LB^la=LB^(la+1-n)*P:=by rw [<-hP,<-Nat.pow_add];congr 1;omega
  have h5:a*2^s<LB^(la+1-n)*P*2^s:=by rw [<-h4];exact Nat.mul_lt_mul_of_pos_right h3 hp
  rw [Nat.mul_assoc] at h5
  have h6:LB^(la+1-n)*m<LB^(la+1-n)*(P*2^s):=by omega
  have h7:=Nat.lt_of_mul_lt_mul_left h6
  have h8:P*2^s<=P*9223372036854775808:=Nat.mul_le_mul_left _ (Nat.pow_le_pow_right (n:=2) (by decide) hs)
  omega
 obtain ⟨u',q',r1,r2,r3,r4,r5,r6,r7⟩:=Qpc (n:=n) (d:=d0) (D:=b*2^s) (by omega) (by omega) id (by omega) hD hD1 (a:=u0) (N:=a*2^s) iu (by omega) hvu.symm (la+1-n) (by omega) m u0 (List.replicate (la+1-n) 0) hm.symm iu rfl rfl (by rw [Nat.mod_eq_of_lt hmD];exact hm) (by rw [List.length_replicate];omega) (Jx (by decide) _)
  (by rw [List.drop_eq_nil_of_le (by rw [List.length_replicate];omega),Nat.div_eq_of_lt hmD];rfl)
 have hq:a*2^s/(b*2^s)=a/b:=Nat.mul_div_mul_right _ _ hp
 have hr:a*2^s%(b*2^s)=a%b*2^s:=Nat.mul_mod_mul_right _ _ _
 rw [hq] at r4
 rw [hr] at r7
 have er:z67.l0aa 0 n d0 (((la+1-n:Nat):Int)-1,u0,List.replicate (la+1-n) 0)=some ((-1:Int),u',q'):=r1.lfp
 refine ⟨q',?_,r3,by omega,r4⟩
 have hml:a%b<=a:=Nat.mod_le a b
 have w1:wr .i64 ((n:Int)-1)=((n-1:Nat):Int):=by rw [Qc (by omega) (by omega)];omega
 have w2:wr .i64 ((la:Int)+1)=((la+1:Nat):Int):=by rw [Qc (by omega) (by omega)];rfl
 have w3:wr .i64 ((n:Int)+1)=((n+1:Nat):Int):=by rw [Qc (by omega) (by omega)];rfl
 have w4:wr .i64 (((la+1:Nat):Int)-(n:Int))=((la+1-n:Nat):Int):=by rw [Qc (by omega) (by omega)];omega
 have w5:wr .i64 (((la+1-n:Nat):Int)-1)=((la+1-n:Nat):Int)-1:=Qc (by omega) (by omega)
 have w6:wr .u64 (s:Int)=(s:Int):=Qm (by omega) (by omega)
 have w7:wr .i64 (s:Int)=(s:Int):=Qc (by omega) (by omega)
 have hu':u'.length=la+1:=by omega
 have hlr:(lb (a%b*2^s)).length<=la+1:=by
  have h1:=Wt bL r5
  rw [r7,hu'] at h1
  exact W3 bL (Int.ofNat_lt.1 h1)
 unfold z67.F
 rw [hn,w1,if_pos (by omega),Zi (n-1),hx,hlead]
 simp only [Zb]
 rw [hla,w2,if_pos (by omega),w6,Zi (la+1),mu]
 simp only [Zb]
 rw [w3,if_pos (by omega),Zi (n+1),md]
 simp only [Zb]
 rw [if_pos (by omega),lu,Zi n,w4,if_pos (by omega),Zi (la+1-n),List.length_replicate,w5,er]
 simp only [Zb]
 rw [Qcf r5 (by show List.length _<=_;omega),r7,Zi]
 simp only [Zb]
 rw [w7,quot_Shr hs (by omega),Nat.mul_div_cancel _ hp]
 simp only [Zb]
 have hlm:(lb (a%b)).length<=la:=by
  have:=W3 bL (B:=LB) (n:=a%b) (k:=la) (Nat.lt_of_le_of_lt hml (hla▸Qah bL))
  exact this
 rw [Jp (by show List.length _<=_;omega)]
 rfl
theorem Qo7 {a b:Nat} (hb:0<b) (ha:(lb a).length<=700000000):Yp a b:=by
 rcases Nat.lt_or_ge a b with h|h
 ·exact Qgu h (by omega)
 rcases Nat.lt_or_ge b 18446744073709551616 with hs|hs
 ·exact Qnj hb hs (by omega)
 have hab:(lb b).length<=(lb a).length:=by
  rcases Nat.lt_or_ge (lb a).length (lb b).length with h'|h'
  ·have:=Qao bL h';omega
  ·exact h'
 have hb2:2<=(lb b).length:=by
  rcases Nat.lt_or_ge (lb b).length 2 with h'|h'
  ·exfalso
   have h1:b<LB^(lb b).length:=Qah bL
   have h2:LB^(lb b).length<=LB^1:=Nat.pow_le_pow_right (by decide) (by omega)
   have h3:LB^1=18446744073709551616:=rfl
   omega
  ·exact h'
 obtain ⟨q,q1,q2,q3,q4⟩:=Qs5 hb2 hab ha
 unfold Yp z68.F
 rw [Wl]
 simp only [Zb]
 rw [Qa (by omega),Qcb (by omega)]
 simp only [Zb]
 have:¬cmpI (a:Int) b<0:=by unfold cmpI;rw [if_neg (by omega)];split<;>omega
 rw [Qa this,Jp (by show List.length _<=_;omega),Jp (by show List.length _<=_;omega)]
 simp only [Zb]
 rw [Qa (by omega),q1]
 simp only [Zb]
 have hml:=Nat.mod_le a b
 have hlm:(lb (a%b)).length<=(lb a).length:=W3 bL (Nat.lt_of_le_of_lt hml (Qah bL))
 rw [Qcf q2 (by show List.length _<=_;omega),q4,Qyb (by show List.length _<=_;omega)]
 rfl
theorem Qit {M:Nat} (h:sz M<=700000000):Qay M:=λx y hx _ hy=>Qo7 hy (Nat.le_trans (Qh x) (Nat.le_trans (Qy hx) h))
theorem Qb9 (m n:Nat):sz (m+n)<=max (sz m) (sz n)+1:=sz_le (by
 have h1:m<10^max (sz m) (sz n):=Nat.lt_of_lt_of_le (Jr m) (Nat.pow_le_pow_right (by decide) (by omega))
 have h2:n<10^max (sz m) (sz n):=Nat.lt_of_lt_of_le (Jr n) (Nat.pow_le_pow_right (by decide) (by omega))
 rw [Nat.pow_succ];omega)
theorem Qa6 (a b:Int):sz (a+b).natAbs<=max (sz a.natAbs) (sz b.natAbs)+1:=Nat.le_trans (Qy (Int.natAbs_add_le a b)) (Qb9 _ _)
theorem W6 (a b:Int):sz (a*b).natAbs<=sz a.natAbs+sz b.natAbs:=by rw [Int.natAbs_mul];exact Q1 _ _
def Sq (k:Nat) (q:Rat):Prop:=sz q.num.natAbs<=2*k/\sz q.den<=k
theorem Sq.mono {k j:Nat} {q:Rat} (h:Sq k q) (hj:k<=j):Sq j q:=⟨Nat.le_trans h.1 (by omega),Nat.le_trans h.2 hj⟩
theorem Sq.mk {k d:Nat} {n:Int} (h0:0<d) (hn:sz n.natAbs<=2*k) (hd:sz d<=k):Sq k (mkRat n d):=
 ⟨Nat.le_trans (Qy (Qa1 n h0)) hn,Nat.le_trans (Qy (Qaw n h0)) hd⟩
theorem Sq.div {k:Nat} {n d:Int} (h0:0<d) (hn:sz n.natAbs<=2*k) (hd:sz d.natAbs<=k):Sq k (Rat.divInt n d):=by
 obtain ⟨e,rfl⟩:∃e:Nat,d=e:=⟨d.toNat,by omega⟩
 rw [Rat.divInt_ofNat]
 exact Sq.mk (by omega) hn hd
theorem Sq.cross {k j:Nat} {q r:Rat} (h:Sq k q) (h':Sq j r):sz (q.num*r.den).natAbs<=2*k+j:=by
 have:=W6 q.num r.den
 have e:(r.den:Int).natAbs=r.den:=rfl
 rw [e] at this
 have:=h.1;have:=h'.2;omega
theorem Sq.dens {k j:Nat} {q r:Rat} (h:Sq k q) (h':Sq j r):sz (q.den*r.den)<=k+j:=by
 have:=Q1 q.den r.den
 have:=h.2;have:=h'.2;omega
theorem Sq.add {k j:Nat} {q r:Rat} (h:Sq k q) (h':Sq j r):Sq (k+j+1) (q+r):=by
 rw [Rat.add_def']
 have h1:=h.cross h'
 have h2:=h'.cross h
 have h3:=h.dens h'
 have h4:=Qa6 (q.num*r.den) (r.num*q.den)
 exact Sq.mk (Nat.mul_pos q.den_pos r.den_pos) (by omega) (by omega)
theorem Sq.mul {k j:Nat} {q r:Rat} (h:Sq k q) (h':Sq j r):Sq (k+j) (q*r):=by
 rw [Rat.mul_def']
 have h1:=W6 q.num r.num
 have h3:=h.dens h'
 have:=h.1;have:=h'.1
 exact Sq.mk (Nat.mul_pos q.den_pos r.den_pos) (by omega) h3
theorem Sq.neg {k:Nat} {q:Rat} (h:Sq k q):Sq k (-q):=by
 refine ⟨?_,h.2⟩
 show sz (-q.num).natAbs<=_
 rw [Int.natAbs_neg];exact h.1
theorem Sq.int {k:Nat} {z:Int} (h:sz z.natAbs<=2*k) (h1:1<=k):Sq k (z:Rat):=⟨h,Nat.le_trans (sz_le (show 1<10^1 by decide)) h1⟩
theorem Sq.zero {k:Nat} (h1:1<=k):Sq k 0:=Sq.int (z:=0) (by simp [Jl]) h1
theorem Qwj (z:Int):fr (z:Rat)=(lb z.natAbs,neg z,[]):=by
 show (lb z.natAbs,neg z,lb (1-1))=_
 rw [lb_zero]
theorem Qm9 {num:Int} {den:Nat} (h0:0<den) (hn:sz num.natAbs<=700000000) (hd:sz den<=700000000) :
  z70.F (lb num.natAbs) (neg num) (lb den)=some (fr (mkRat num den)):=by
 have hm:sz (max num.natAbs den)<=700000000:=by
  rcases Nat.le_total num.natAbs den with h|h
  ·rw [Nat.max_eq_right h];exact hd
  ·rw [Nat.max_eq_left h];exact hn
 exact frac_made (Qit hm) h0 (Nat.le_max_left _ _) (Nat.le_max_right _ _) hd
theorem Qda {num den:Int} (h0:den≠0) (hn:sz num.natAbs<=700000000) (hd:sz den.natAbs<=700000000) :
  z71.F (lb num.natAbs) (neg num) (lb den.natAbs) (neg den)=some ((fr (Rat.divInt num den)).1,(fr (Rat.divInt num den)).2.1,(fr (Rat.divInt num den)).2.2,0):=by
 have hm:sz (max num.natAbs den.natAbs)<=700000000:=by
  rcases Nat.le_total num.natAbs den.natAbs with h|h
  ·rw [Nat.max_eq_right h];exact hd
  ·rw [Nat.max_eq_left h];exact hn
 exact frac_Of (Qit hm) h0 (Nat.le_max_left _ _) (Nat.le_max_right _ _) hd
theorem Qf7 {k j:Nat} {q r:Rat} (hq:Sq k q) (hr:Sq j r) (hs:k+j<=100000000) :
  z138.F (fr q).1 (fr q).2.1 (fr q).2.2 (fr r).1 (fr r).2.1 (fr r).2.2=some (fr (q*r)):=by
 have h1:=hq.dens hr
 have h2:=W6 q.num r.num
 have q1:=hq.1;have q2:=hq.2;have r1:=hr.1;have r2:=hr.2
 have l1:=Qh q.num.natAbs;have l2:=Qh r.num.natAbs;have l3:=Qh q.den;have l4:=Qh r.den
 unfold z138.F
 rw [Y9 (by omega)]
 simp only [Zb]
 rw [Yw q _ _ (by omega)]
 simp only [Zb]
 rw [Yw r _ _ (by omega)]
 simp only [Zb]
 rw [Yj (by omega)]
 simp only [Zb]
 rw [Qm9 (Nat.mul_pos q.den_pos r.den_pos) (by omega) (by omega),<-Rat.mul_def']
 rfl
theorem Qjr {k j:Nat} {q r:Rat} (hq:Sq k q) (hr:Sq j r) (hs:k+j<=100000000) :
  z137.F (fr q).1 (fr q).2.1 (fr q).2.2 (fr r).1 (fr r).2.1 (fr r).2.2=some (fr (q+r)):=by
 have h1:=hq.dens hr
 have h2:=hq.cross hr;have h2':=hr.cross hq
 have h3:=Qa6 (q.num*r.den) (r.num*q.den)
 have q1:=hq.1;have q2:=hq.2;have r1:=hr.1;have r2:=hr.2
 have l1:=Qh q.num.natAbs;have l2:=Qh r.num.natAbs;have l3:=Qh q.den;have l4:=Qh r.den
 have l3':(lb (q.den:Int).natAbs).length<=sz q.den:=l3
 have l4':(lb (r.den:Int).natAbs).length<=sz r.den:=l4
 have l5:=Qh (q.num*r.den).natAbs;have l6:=Qh (r.num*q.den).natAbs
 unfold z137.F
 rw [Qfv r _ _ (by omega)]
 simp only [Zb]
 rw [Y9 (by omega)]
 simp only [Zb]
 rw [Qfv q _ _ (by omega)]
 simp only [Zb]
 rw [Y9 (by omega)]
 simp only [Zb]
 rw [Qcj (by omega)]
 simp only [Zb]
 rw [Yw q _ _ (by omega)]
 simp only [Zb]
 rw [Yw r _ _ (by omega)]
 simp only [Zb]
 rw [Yj (by omega)]
 simp only [Zb]
 rw [Qm9 (Nat.mul_pos q.den_pos r.den_pos) (by omega) (by omega),<-Rat.add_def']
 rfl
theorem frac_From (z:Int):z47.F (lb z.natAbs) (neg z)=some (fr (z:Rat)):=by
 rw [Qwj];rfl
theorem Qgi (q:Rat) (b:J0):z133.F (lb q.num.natAbs) (neg q.num) b=some (cmpI q.num 0):=by
 unfold z133.F
 rw [Yf]
 rfl
theorem Qsd (q:Rat) (b:J0):z134.F (lb q.num.natAbs) (neg q.num) b=some (lb q.num.natAbs,neg q.num):=rfl
def upN (m:Int) (low rest d:Nat):Prop:=rest≠0/\(m=1\/m=2/\d<=2*rest\/m=3/\d<2*rest\/m=4/\(d<2*rest\/d=2*rest/\low%2=1))
instance (m:Int) (low rest d:Nat):Decidable (upN m low rest d):=by unfold upN;infer_instance
def rndN (m:Int) (a d:Nat):Nat:=if upN m (a/d) (a%d) d then a/d+1 else a/d
def rnd (m:Int) (q:Rat):Int:=if q.num<0 then -(rndN m q.num.natAbs q.den:Int) else (rndN m q.num.natAbs q.den:Int)
abbrev ysz (y:Int):Int:=if leap y then 366 else 365
theorem Qm3 (y:Int):cumD y 13=ysz y:=by
 unfold cumD ysz;split<;>(try split)<;>omega
def inY (y k:Int):Rat:=(y:Rat)+Rat.divInt (k-aheadY y-1) (ysz y)
def yAt (y m d:Int):Rat:=inY y (num y m d)
theorem Qyc (y:Int):0<ysz y:=by unfold ysz;split<;>omega
theorem Qnt (y:Int):ysz y≠0:=Int.ne_of_gt (Qyc y)
theorem Qv6 {a b c:Int} (h:c≠0):Rat.divInt a c-Rat.divInt b c=Rat.divInt (a-b) c:=by
 have hc:(c:Rat)≠0:=λe=>h (Rat.intCast_eq_zero_iff.1 e)
 rw [Rat.divInt_eq_div,Rat.divInt_eq_div,Rat.divInt_eq_div,Rat.intCast_sub]
 grind
theorem Qd2 (y k j:Int):inY y k-inY y j=Rat.divInt (k-j) (ysz y):=by
 have h:=Qv6 (a:=k-aheadY y-1) (b:=j-aheadY y-1) (Qnt y)
 rw [show k-aheadY y-1-(j-aheadY y-1)=k-j by omega] at h
 unfold inY
 rw [<-h]
 grind
theorem Qof (y:Int):inY y (aheadY y+1)=y:=by
 unfold inY
 rw [show aheadY y+1-aheadY y-1=0 by omega,Rat.zero_divInt,Rat.add_zero]
theorem Qlj (y:Int):inY y (aheadY (y+1)+1)=((y+1:Int):Rat):=by
 unfold inY
 rw [Qa8,Qm3,show aheadY y+ysz y+1-aheadY y-1=ysz y by omega,Rat.divInt_self' (Qnt y),Rat.intCast_add]
 rfl
def Wk (y m d y' m' d':Int):Int:=360*(y'-y)+30*(m'-m)+(if d'>30/\30<=d then 30 else d')-(if d>30 then 30 else d)
def yf (b y m d y' m' d':Int):Rat:=
 if b=0 then Rat.divInt (Wk y m d y' m' d') 360 else if b=1 then Rat.divInt (num y' m' d'-num y m d) 365 else yAt y' m' d'-yAt y m d
theorem Qhs {k j:Nat} {q r:Rat} (hq:Sq k q) (hr:Sq j r) (hs:k+j<=10000000) :
  z146.F (rf q).1 (rf q).2.1 (rf q).2.2 (rf r).1 (rf r).2.1 (rf r).2.2=some (rf (q+r)):=by
 have h1:=hq.dens hr
 have h2:=hq.cross hr;have h2':=hr.cross hq
 have h3:=Qa6 (q.num*r.den) (r.num*q.den)
 have q1:=hq.1;have q2:=hq.2;have r1:=hr.1;have r2:=hr.2
 have l3:=Qo q.den;have l4:=Qo r.den
 have l5:=Qo (q.num*r.den).natAbs;have l6:=Qo (r.num*q.den).natAbs
 unfold z146.F
 rw [Qdt (q:=q) (r:=r) (by omega)]
 simp only [Zb]
 rw [Qdt (q:=r) (r:=q) (by omega)]
 simp only [Zb]
 rw [Qiq (by omega)]
 simp only [Zb]
 rw [Qbc (by omega)]
 simp only [Zb]
 rw [Qci (Nat.mul_pos q.den_pos r.den_pos) (by omega) (by omega),<-Rat.add_def']
 rfl
theorem Qcp {k j:Nat} {q r:Rat} (hq:Sq k q) (hr:Sq j r) (hs:k+j<=10000000) :
  z150.F (rf q).1 (rf q).2.1 (rf q).2.2 (rf r).1 (rf r).2.1 (rf r).2.2=some (rf (q*r)):=by
 have h1:=hq.dens hr
 have h2:=W6 q.num r.num
 have q1:=hq.1;have q2:=hq.2;have r1:=hr.1;have r2:=hr.2
 have l1:=Qo q.num.natAbs;have l2:=Qo r.num.natAbs;have l3:=Qo q.den;have l4:=Qo r.den
 unfold z150.F
 rw [Qel (by omega)]
 simp only [Zb]
 rw [Qbc (by omega)]
 simp only [Zb]
 rw [Qci (Nat.mul_pos q.den_pos r.den_pos) (by omega) (by omega),<-Rat.mul_def']
 rfl
theorem Qle:dg 1=[1]:=by
 show toB 10000 1=_
 rw [Wp b4 (by decide),show 1/10000=0 from rfl,toB_zero];rfl
theorem Qsu:dg 2=[2]:=by
 show toB 10000 2=_
 rw [Wp b4 (by decide),show 2/10000=0 from rfl,toB_zero];rfl
theorem Qkr (z:Int):z149.F (dg z.natAbs) (neg z)=some (rf (z:Rat)):=by
 show some _=some (dg z.natAbs,neg z,dg 1)
 rw [Qle]
theorem Qr3 {y m d:Int} (h:right y m d):aheadY y+1<=num y m d/\num y m d<=aheadY (y+1):=by
 have g:=Q3 h
 have s1:=Qak g.1 ⟨g.2.1,g.2.2.1⟩
 have s2:=Qbu (y:=y) (m:=m+1) (m':=13) (by omega) (by omega)
 have s3:=Qbu (y:=y) (m:=1) (m':=m) (by omega) (by omega)
 have s4:=Qa8 y
 rw [Qc0] at s3
 have h1:=h.1;have h2:=h.2
 unfold num
 omega
theorem Qqs {n:Nat} (h:n<18446744073709551616):wr .u64 ((BitVec.ofInt (IntKind.bits .u64) (n:Int) &&& BitVec.ofInt (IntKind.bits .u64) (1:Int)).toNat:Int)=((n%2:Nat):Int):=by
 rw [BitVec.toNat_and,Qbr h,show (1:Int)=((1:Nat):Int) from rfl,Qbr (by omega),show (1:Nat)=2^1-1 from rfl,Nat.and_two_pow_sub_one_eq_mod,Qm (by omega) (by omega)]
theorem Qtp {m:Int} {low rest d:Nat} (hm:0<=m/\m<=4) (h0:rest≠0) (h1:sz low<=100000000) (h2:sz rest<=100000000):z135.F m (lb low) (lb rest) (lb d)=some (decide (upN m low rest d)):=by
 have l1:=Qh low;have l2:=Qh rest
 have l3:=Qh (rest+rest);have l4:=Qb9 rest rest
 unfold z135.F
 rw [Qaq (by omega)]
 simp only [Zb]
 rw [Qcb (by omega)]
 simp only [Zb]
 have g:cmpI ((rest+rest:Nat):Int) d>=0↔d<=2*rest:=by rw [Qdu];omega
 have g':cmpI ((rest+rest:Nat):Int) d>0↔d<2*rest:=by rw [Wv];omega
 have g'':cmpI ((rest+rest:Nat):Int) d=0↔d=2*rest:=by rw [Jt];omega
 generalize cmpI ((rest+rest:Nat):Int) d=c at *
 unfold upN
 by_cases m1:m=1
 ·rw [bif_t m1];congr 1;symm;apply Zt;exact ⟨h0,.inl m1⟩
 rw [Qa m1]
 by_cases m2:m=2
 ·rw [bif_t m2];congr 1;apply decide_eq_decide.2;rw [g];omega
 rw [Qa m2]
 by_cases m3:m=3
 ·rw [bif_t m3];congr 1;apply decide_eq_decide.2;rw [g'];omega
 rw [Qa m3]
 by_cases m4:m=4
 ·rw [bif_t m4,Jp (by show List.length _<=_;omega)]
  simp only [Zb]
  have hlen:=Qim low
  by_cases hl:low=0
  ·rw [Qa (by omega)]
   by_cases c1:c>0
   ·rw [bif_t c1];congr 1;symm;apply Zt;omega
   ·have hF:∀x:Bool,(bif x then some false else some false)=some false:=λx=>by cases x<;>rfl
    rw [Qa c1,hF];congr 1;symm;apply Zf;omega
  ·rw [bif_t (by omega),if_pos (by omega)]
   have e0:(lb low).getD 0 0=((low%LB:Nat):Int):=by
    have:=Qxn bL 0 low
    rwa [Nat.pow_zero,Nat.div_one] at this
   have e1:low%LB%2=low%2:=Nat.mod_mod_of_dvd low (by decide)
   rw [e0,Qqs (n:=low%LB) (Nat.mod_lt _ (by decide)),e1]
   by_cases c1:c>0
   ·rw [bif_t c1];congr 1;symm;apply Zt;omega
   ·rw [Qa c1]
    by_cases c2:c=0
    ·rw [bif_t c2];congr 1;apply decide_eq_decide.2;omega
    ·rw [Qa c2];congr 1;symm;apply Zf;omega
 ·rw [Qa m4];congr 1;symm;apply Zf;omega
theorem Qhq (m:Int) (q:Rat):(rnd m q).natAbs=rndN m q.num.natAbs q.den/\((neg q.num=true/\rnd m q<=0)\/(neg q.num=false/\0<=rnd m q)):=by
 unfold rnd
 by_cases h:q.num<0
 ·rw [if_pos h];exact ⟨by omega,.inl ⟨Zt h,by omega⟩⟩
 ·rw [if_neg h];exact ⟨by omega,.inr ⟨Zf h,by omega⟩⟩
theorem Quq (m:Int):z79.F m=some (decide (0<=m/\m<=4)):=by
 unfold z79.F
 by_cases h:m>=0
 ·rw [bif_t h];congr 1;apply decide_eq_decide.2;omega
 ·rw [Qa h];congr 1;symm;apply Zf;omega
theorem Qru (b:Int):z82.F b=some (decide (0<=b/\b<=2)):=by
 unfold z82.F
 by_cases h:b>=0
 ·rw [bif_t h];congr 1;apply decide_eq_decide.2;omega
 ·rw [Qa h];congr 1;symm;apply Zf;omega
theorem round_Whole {m:Int} {k:Nat} {q:Rat} (hm:0<=m/\m<=4) (hq:Sq k q) (hk:k<=40000000) :
  z136.F (fr q).1 (fr q).2.1 (fr q).2.2 m=some (lb (rnd m q).natAbs,neg (rnd m q),0):=by
 have q1:=hq.1;have q2:=hq.2
 have l1:=Qh q.num.natAbs
 have s1:=Qy (Nat.div_le_self q.num.natAbs q.den)
 have s2:=Qy (Nat.mod_le q.num.natAbs q.den)
 have l2:=Qh (q.num.natAbs/q.den)
 have l3:(lb 1).length<=1:=Nat.le_trans (Qh 1) (sz_le (by decide))
 obtain ⟨a1,a2⟩:=Qhq m q
 have hj:∀b:J0,z136.j14 (lb q.num.natAbs) (neg q.num) b (lb (rndN m q.num.natAbs q.den))=some (lb (rnd m q).natAbs,neg (rnd m q),0):=λb=>by
  unfold z136.j14
  rw [Qgi]
  simp only [Zb]
  rw [Qj8,W9 (z:=rnd m q) a1.symm a2]
  rfl
 unfold z136.F
 rw [Quq,Zt hm]
 simp only [Zb,Zn,Zc]
 rw [Qsd]
 simp only [Zb]
 unfold z59.F
 simp only [Zb]
 rw [Yw q _ _ (by omega)]
 simp only [Zb]
 have hdiv:z68.F (lb q.num.natAbs) (lb q.den)=_:=Qo7 q.den_pos (by omega)
 rw [hdiv]
 simp only [Zb]
 rw [Wl]
 simp only [Zb]
 by_cases hr:q.num.natAbs%q.den=0
 ·rw [Zt hr,Zn,Zc]
  have:rndN m q.num.natAbs q.den=q.num.natAbs/q.den:=by unfold rndN;rw [if_neg (λh=>h.1 hr)]
  rw [<-this];exact hj _
 ·rw [Zf hr,Zo,Zd]
  try rw [Yw q _ _ (by omega)]
  try simp only [Zb]
  rw [Qtp hm hr (by omega) (by omega)]
  simp only [Zb]
  by_cases hu:upN m (q.num.natAbs/q.den) (q.num.natAbs%q.den) q.den
  ·rw [bif_t hu,W4 (by omega)]
   simp only [Zb]
   rw [show Int.toNat 1=1 from rfl,Qaq (by omega)]
   simp only [Zb]
   have:rndN m q.num.natAbs q.den=q.num.natAbs/q.den+1:=by unfold rndN;rw [if_pos hu]
   rw [<-this];exact hj _
  ·rw [Qa hu]
   have:rndN m q.num.natAbs q.den=q.num.natAbs/q.den:=by unfold rndN;rw [if_neg hu]
   rw [<-this];exact hj _
theorem Qg2 {z:Int} (h:-9223372036854775808<=z/\z<=9223372036854775808):sz z.natAbs<=20:=sz_le (by omega)
theorem count_part {n d:Int} (hn:-9223372036854775808<=n/\n<9223372036854775808) (hd:0<d/\d<9223372036854775808):z139.F n d=some (fr (Rat.divInt n d)):=by
 have s1:=Qg2 (z:=n) (by omega);have s2:=Qg2 (z:=d) (by omega)
 unfold z139.F
 rw [whole_From hn]
 simp only [Zb]
 rw [whole_From (by omega)]
 simp only [Zb]
 rw [Qda (by omega) (by omega) (by omega)]
 rfl
theorem Qoy {y m y' m' j k:Int} (hy:1<=y/\y<=9999) (hm:1<=m/\m<=12) (hy':1<=y'/\y'<=9999) (hm':1<=m'/\m'<=12) (hj:0<=j/\j<=31) (hk:0<=k/\k<=31) :
  wr .i64 (wr .i64 (wr .i64 (wr .i64 (360*wr .i64 (y'-y))+wr .i64 (30*wr .i64 (m'-m)))+j)-k)=360*(y'-y)+30*(m'-m)+j-k:=by
 rw [Qc (n:=y'-y) (by omega) (by omega),Qc (n:=m'-m) (by omega) (by omega),Qc (n:=360*(y'-y)) (by omega) (by omega),Qc (n:=30*(m'-m)) (by omega) (by omega),Qc (n:=360*(y'-y)+30*(m'-m)) (by omega) (by omega),Qc (n:=360*(y'-y)+30*(m'-m)+j) (by omega) (by omega),Qc (by omega) (by omega)]
theorem count_thirty {a b:D3} (ha:rightD a) (hb:rightD b):z140.F a.1 a.2.1 a.2.2 b.1 b.2.1 b.2.2=some (fr (Rat.divInt (Wk a.1 a.2.1 a.2.2 b.1 b.2.1 b.2.2) 360)):=by
 have ga:=Q3 ha
 have gb:=Q3 hb
 obtain ⟨y,m,d⟩:=a
 obtain ⟨y',m',d'⟩:=b
 simp only at ga gb ⊢
 have key:∀{j k:Int},0<=j/\j<=31->0<=k/\k<=31->Wk y m d y' m' d'=360*(y'-y)+30*(m'-m)+j-k->z139.F (wr .i64 (wr .i64 (wr .i64 (wr .i64 (360*wr .i64 (y'-y))+wr .i64 (30*wr .i64 (m'-m)))+j)-k)) 360=some (fr (Rat.divInt (Wk y m d y' m' d') 360)):=λ{j k} hj hk e=>by
  rw [Qoy ga.1 ⟨ga.2.1,ga.2.2.1⟩ gb.1 ⟨gb.2.1,gb.2.2.1⟩ hj hk,e,count_part (by omega) (by omega)]
 unfold z140.F
 by_cases h1:d>30
 ·rw [bif_t h1]
  by_cases h2:d'>30
  ·rw [bif_t h2];unfold z140.j6
   rw [key (by omega) (by omega) (by unfold Wk;rw [if_pos (by omega),if_pos h1])];rfl
  ·rw [Qa h2];unfold z140.j6
   rw [key (by omega) (by omega) (by unfold Wk;rw [if_neg (by omega),if_pos h1])];rfl
 ·rw [Qa h1]
  by_cases h2:d'>30
  ·rw [bif_t h2]
   by_cases h3:d=30
   ·rw [bif_t h3];unfold z140.j9
    rw [key (by omega) (by omega) (by unfold Wk;rw [if_pos (by omega),if_neg h1])];rfl
   ·rw [Qa h3];unfold z140.j9
    rw [key (by omega) (by omega) (by unfold Wk;rw [if_neg (by omega),if_neg h1])];rfl
  ·rw [Qa h2];unfold z140.j9
   rw [key (by omega) (by omega) (by unfold Wk;rw [if_neg (by omega),if_neg h1])];rfl
theorem Wq {a:D3} (h:rightD a):1<=numD a/\numD a<=3652059:=Qld h
theorem Qab {a:D3} (h:rightD a):aheadY a.1+1<=numD a/\numD a<=aheadY (a.1+1):=Qr3 h
theorem count_days {a b:D3} (ha:rightD a) (hb:rightD b):z142.F a.1 a.2.1 a.2.2 b.1 b.2.1 b.2.2=some (numD b-numD a):=by
 have b1:=Wq ha;have b2:=Wq hb
 have en1:numD a=num a.1 a.2.1 a.2.2:=rfl
 have en2:numD b=num b.1 b.2.1 b.2.2:=rfl
 unfold z142.F z141.F
 rw [date_Number,if_pos ha]
 simp only [Zb,decide_true,Zn,Zc]
 rw [date_Number,if_pos hb]
 simp only [Zb,decide_true,Zn,Zc]
 rw [Qc (by omega) (by omega)]
theorem count_year {y:Int} (hy:goodY y):z143.F y=some (ysz y):=by
 unfold z143.F ysz
 rw [date_Leap]
 simp only [Zb]
 by_cases h:leap y
 ·rw [bif_t ⟨hy,h⟩,if_pos h]
 ·rw [Qa (λe=>h e.2),if_neg h]
theorem Qlk {y:Int} (hy:goodY y):right y 1 1:=⟨by decide,by have:=Qjd hy (m:=1) ⟨by decide,by decide⟩;omega⟩
theorem Qxg {y:Int} (hy:goodY y):right y 12 31:=⟨by decide,by
 unfold dDays;rw [if_neg (by omega),if_neg (by decide),if_neg (by decide)];exact Int.le_refl _⟩
theorem Qj1 (y:Int):num y 1 1=aheadY y+1:=by unfold num;rw [Qc0];omega
theorem Qr4 {y:Int} (hy:goodY y):num y 12 31=aheadY (y+1):=by
 have h1:=Qa8 y
 have h2:=Qak hy (m:=12) ⟨by decide,by decide⟩
 have h3:dDays y 12=31:=by unfold dDays;rw [if_neg (by omega),if_neg (by decide),if_neg (by decide)]
 rw [h3,show (12:Int)+1=13 from rfl] at h2
 unfold num;omega
theorem Qcs (y:Int):365<=ysz y/\ysz y<=366:=by unfold ysz;split<;>omega
theorem Qa3 {n d:Int} (hn:-9223372036854775808<=n/\n<=9223372036854775808) (hd:0<d/\d<10000):Sq 10 (Rat.divInt n d):=
 Sq.div hd.1 (Nat.le_trans (Qg2 hn) (by decide)) (Nat.le_trans (sz_le (k:=4) (by omega)) (by decide))
theorem count_actual {a b:D3} (ha:rightD a) (hb:rightD b) (h:numD a<=numD b):z144.F a.1 a.2.1 a.2.2 b.1 b.2.1 b.2.2=some (fr (yAt b.1 b.2.1 b.2.2-yAt a.1 a.2.1 a.2.2)):=by
 have ga:=Q3 ha
 have gb:=Q3 hb
 have b1:=Wq ha;have b2:=Wq hb
 have en1:numD a=num a.1 a.2.1 a.2.2:=rfl
 have en2:numD b=num b.1 b.2.1 b.2.2:=rfl
 have y1:=Qab ha;have y2:=Qab hb
 have z1:=Qcs a.1;have z2:=Qcs b.1
 unfold z144.F
 by_cases hy:a.1=b.1
 ·rw [bif_t hy,count_days ha hb]
  simp only [Zb]
  rw [count_year ga.1]
  simp only [Zb]
  rw [count_part (by omega) (by omega)]
  have:yAt b.1 b.2.1 b.2.2-yAt a.1 a.2.1 a.2.2=Rat.divInt (numD b-numD a) (ysz a.1):=by
   show inY b.1 (numD b)-inY a.1 (numD a)=_
   rw [<-hy,Qd2]
  rw [this];rfl
 ·rw [Qa hy]
  have hlt:a.1<b.1:=by
   rcases Int.lt_trichotomy a.1 b.1 with h1|h1|h1
   ·exact h1
   ·exact (hy h1).elim
   ·have:=Qbk (y:=b.1+1) (y':=a.1) (by omega)
    unfold numD at h;omega
  have hdl:rightD (a.1,12,31):=Qxg ga.1
  have hdf:rightD (b.1,1,1):=Qlk gb.1
  have d1:=count_days ha hdl
  have d2:=count_days hdf hb
  simp only at d1 d2
  rw [d1]
  simp only [Zb]
  rw [d2]
  simp only [Zb]
  rw [count_year ga.1]
  simp only [Zb]
  have n1:numD (a.1,12,31)=aheadY (a.1+1):=Qr4 ga.1
  have n2:numD (b.1,1,1)=aheadY b.1+1:=Qj1 b.1
  rw [n1,n2]
  have m1:=Jz (y:=a.1+1) (by omega)
  have m2:=Jz (y:=b.1) (by omega)
  rw [Qc (n:=aheadY (a.1+1)-numD a+1) (by omega) (by omega),Qc (n:=b.1-a.1) (by omega) (by omega),Qc (n:=b.1-a.1-1) (by omega) (by omega),count_part (by omega) (by omega)]
  simp only [Zb]
  rw [count_part (by omega) (by omega)]
  simp only [Zb]
  have s1:=Qa3 (n:=aheadY (a.1+1)-numD a+1) (d:=ysz a.1) (by omega) (by omega)
  have s2:=Qa3 (n:=b.1-a.1-1) (d:=1) (by omega) (by omega)
  have s3:=Qa3 (n:=numD b-(aheadY b.1+1)) (d:=ysz b.1) (by omega) (by omega)
  rw [Qjr s1 s2 (by decide)]
  simp only [Zb]
  rw [count_year gb.1]
  simp only [Zb]
  rw [count_part (by omega) (by omega)]
  simp only [Zb]
  rw [Qjr (s1.add s2) s3 (by decide)]
  have e1:=Qd2 a.1 (aheadY (a.1+1)+1) (numD a)
  have e3:=Qd2 b.1 (numD b) (aheadY b.1+1)
  rw [Qlj,show aheadY (a.1+1)+1-numD a=aheadY (a.1+1)-numD a+1 by omega] at e1
  rw [Qof] at e3
  have e2:Rat.divInt (b.1-a.1-1) 1=(b.1:Rat)-((a.1+1:Int):Rat):=by
   rw [Rat.divInt_eq_div,show ((1:Int):Rat)=1 from rfl,show b.1-a.1-1=b.1-(a.1+1) by omega,Rat.intCast_sub]
   grind
  have:Rat.divInt (aheadY (a.1+1)-numD a+1) (ysz a.1)+Rat.divInt (b.1-a.1-1) 1+Rat.divInt (numD b-(aheadY b.1+1)) (ysz b.1)=yAt b.1 b.2.1 b.2.2-yAt a.1 a.2.1 a.2.2:=by
   rw [<-e1,<-e3,e2]
   unfold yAt
   show _=inY b.1 (numD b)-inY a.1 (numD a)
   grind
  rw [this];rfl
theorem count_Year {bs:Int} {a b:D3} (hbs:0<=bs/\bs<=2) (ha:rightD a) (hb:rightD b) (h:numD a<=numD b) :
  z145.F bs a.1 a.2.1 a.2.2 b.1 b.2.1 b.2.2=some ((fr (yf bs a.1 a.2.1 a.2.2 b.1 b.2.1 b.2.2)).1,(fr (yf bs a.1 a.2.1 a.2.2 b.1 b.2.1 b.2.2)).2.1,(fr (yf bs a.1 a.2.1 a.2.2 b.1 b.2.1 b.2.2)).2.2,0):=by
 have b1:=Wq ha;have b2:=Wq hb
 have en1:numD a=num a.1 a.2.1 a.2.2:=rfl
 have en2:numD b=num b.1 b.2.1 b.2.2:=rfl
 unfold z145.F
 rw [Qru,Zt hbs]
 simp only [Zb,Zn,Zc]
 rw [date_Check,if_pos ha]
 simp only [Zb,decide_true,Zn,Zc]
 rw [date_Check,if_pos hb]
 simp only [Zb,decide_true,Zn]
 unfold z145.j4
 rw [Zc,date_Cmp]
 simp only [Zb]
 have hc:=Qrv ha hb
 rw [show dcmp a.1 a.2.1 a.2.2 b.1 b.2.1 b.2.2=cmpD a b from rfl,hc,Qa (by rw [Wv];omega)]
 unfold yf
 by_cases h0:bs=0
 ·rw [bif_t h0,if_pos h0,count_thirty ha hb];rfl
 ·rw [Qa h0,if_neg h0]
  by_cases h1:bs=1
  ·rw [bif_t h1,if_pos h1,count_days ha hb]
   simp only [Zb]
   rw [count_part (by omega) (by omega)];rfl
  ·rw [Qa h1,if_neg h1,count_actual ha hb h];rfl
theorem Qhh (y k:Int) (hy:goodY y) (hk:-9223372036854775808<=k-aheadY y-1/\k-aheadY y-1<=9223372036854775808):Sq 15 (inY y k):=by
 unfold inY
 have z:=Qcs y
 have s1:=Qa3 (n:=k-aheadY y-1) (d:=ysz y) hk (by omega)
 have s2:Sq 4 (y:Rat):=Sq.int (Nat.le_trans (sz_le (k:=4) (by omega)) (by decide)) (by decide)
 exact s2.add s1
theorem Qh8 (bs:Int) {a b:D3} (ha:rightD a) (hb:rightD b):Sq 32 (yf bs a.1 a.2.1 a.2.2 b.1 b.2.1 b.2.2):=by
 have ga:=Q3 ha;have gb:=Q3 hb
 have b1:=Wq ha;have b2:=Wq hb
 have en1:numD a=num a.1 a.2.1 a.2.2:=rfl
 have en2:numD b=num b.1 b.2.1 b.2.2:=rfl
 have y1:=Qab ha;have y2:=Qab hb
 have m1:=Jz (y:=a.1) (by omega)
 have m2:=Jz (y:=b.1) (by omega)
 unfold yf
 split
 ·refine (Qa3 ?_ ?_).mono (by decide)
  ·unfold Wk;split<;>split<;>omega
  ·omega
 ·split
  ·exact (Qa3 (by omega) (by omega)).mono (by decide)
  ·unfold yAt
   rw [Rat.sub_eq_add_neg]
   exact (((Qhh b.1 _ gb.1 (by omega)).add (Qhh a.1 _ ga.1 (by omega)).neg)).mono (by decide)
theorem Qif {m:Int} {k:Nat} {q:Rat} (hm:0<=m/\m<=4) (hq:Sq k q) (hk:k<=10000000) :
  z151.F (rf q).1 (rf q).2.1 (rf q).2.2 m=some (dg (rnd m q).natAbs,neg (rnd m q)):=by
 have q1:=hq.1;have q2:=hq.2
 have s1:=Qy (Nat.div_le_self q.num.natAbs q.den)
 have s2:=Qy (Nat.mod_le q.num.natAbs q.den)
 have l1:=Qo (q.num.natAbs/q.den)
 have l2:=Qo (q.num.natAbs%q.den)
 have l3:(dg 1).length<=1:=Nat.le_trans (Qo 1) (sz_le (by decide))
 have l4:(dg 2).length<=1:=Nat.le_trans (Qo 2) (sz_le (by decide))
 have s4:sz 2<=1:=sz_le (by decide)
 have s3:=Q1 (q.num.natAbs%q.den) 2
 have l5:=Qo (q.num.natAbs%q.den*2)
 obtain ⟨a1,a2⟩:=Qhq m q
 unfold z151.F
 rw [Qds q.den_pos (by omega) (by omega)]
 simp only [Zb]
 rw [<-Qle,Qni (by omega)]
 simp only [Zb]
 rw [<-Qsu,Qbc (by omega)]
 simp only [Zb]
 rw [Qg9 (by omega)]
 simp only [Zb]
 rw [Qds (by decide) (by omega) (by omega)]
 simp only [Zb]
 have g:cmpI ((q.num.natAbs%q.den*2:Nat):Int) q.den>=0↔q.den<=2*(q.num.natAbs%q.den):=by rw [Qdu];omega
 have g':cmpI ((q.num.natAbs%q.den*2:Nat):Int) q.den>0↔q.den<2*(q.num.natAbs%q.den):=by rw [Wv];omega
 have g'':cmpI ((q.num.natAbs%q.den*2:Nat):Int) q.den=0↔q.den=2*(q.num.natAbs%q.den):=by rw [Jt];omega
 have hlen:=Qe3 (q.num.natAbs%q.den)
 have hodd:=Qe3 (q.num.natAbs/q.den%2)
 have hj:∀u:Bool,u=decide (upN m (q.num.natAbs/q.den) (q.num.natAbs%q.den) q.den)->z151.j11 u (dg (q.num.natAbs/q.den+1)) (neg q.num) (dg (q.num.natAbs/q.den),dg (q.num.natAbs%q.den))=some (dg (rnd m q).natAbs,neg (rnd m q)):=λu hu=>by
  unfold z151.j11
  by_cases h:upN m (q.num.natAbs/q.den) (q.num.natAbs%q.den) q.den
  ·rw [hu,bif_t h,Ys (z:=rnd m q) (by rw [a1];unfold rndN;rw [if_pos h]) a2];rfl
  ·rw [hu,Qa h,Ys (z:=rnd m q) (by rw [a1];unfold rndN;rw [if_neg h]) a2];rfl
 unfold upN at hj
 generalize cmpI ((q.num.natAbs%q.den*2:Nat):Int) q.den=c at *
 generalize q.num.natAbs%q.den=rest at *
 generalize q.num.natAbs/q.den=low at *
 have hb:∀{p r:Prop} [Decidable p] [Decidable r],(p↔r)->decide p=decide r:=λh=>decide_eq_decide.2 h
 by_cases h0:rest=0
 ·rw [Qa (by omega)]
  exact hj false (by symm;apply Zf;omega)
 rw [bif_t (by omega)]
 by_cases m1:m=1
 ·rw [bif_t m1]
  unfold z151.j6
  rw [Qa (by omega),Qa (by omega)]
  unfold z151.j10
  rw [Qa (by omega)]
  exact hj true (by symm;apply Zt;omega)
 rw [Qa m1]
 unfold z151.j6
 by_cases m2:m=2
 ·rw [bif_t m2,Qa (by omega)]
  unfold z151.j9
  rw [Qa (by omega)]
  exact hj _ (hb (by rw [g];omega))
 rw [Qa m2]
 by_cases m3:m=3
 ·rw [bif_t m3]
  unfold z151.j10
  rw [Qa (by omega)]
  exact hj _ (hb (by rw [g'];omega))
 rw [Qa m3]
 unfold z151.j10
 by_cases m4:m=4
 ·rw [bif_t m4]
  by_cases c1:c>0
  ·rw [bif_t c1]
   exact hj true (by symm;apply Zt;omega)
  ·rw [Qa c1]
   by_cases c2:c=0
   ·rw [bif_t c2]
    refine hj _ (hb ?_)
    show (((dg (low%2)).length:Nat):Int)>0↔_
    rw [hodd];omega
   ·rw [Qa c2]
    exact hj false (by symm;apply Zf;omega)
 ·rw [Qa m4]
  exact hj false (by symm;apply Zf;omega)
theorem Qfx {y:Int} (h:1<=y/\y<=20000):0<=aheadY y/\aheadY y<=8000000:=Jz h
theorem Qn9 (y:Int):aheadY (y+1)=aheadY y+ysz y:=by rw [Qa8,Qm3]
theorem Qjp {Y:Int} (hY:goodY Y):∀(f:Nat) (y:Int),1<=y->y+f=Y->Runs (λrec x=>z147.l0P Y rec some x) (aheadY y,y) (aheadY Y,Y)
 |
  0,y,h1,hf=>by
  have:y=Y:=by omega
  subst this
  refine .done λrec=>?_
  unfold z147.l0P
  simp only
  rw [Qa (by omega)]
 |
  f+1,y,h1,hf=>by
  have b:=Qfx (y:=y) (by omega)
  have e:=Qn9 y
  have z:=Qcs y
  refine .step (λrec=>?_) (Qjp hY f (y+1) (by omega) (by omega))
  unfold z147.l0P
  simp only
  rw [bif_t (by omega),Qg6]
  simp only [Zb]
  rw [Qc (n:=aheadY y+365) (by omega) (by omega),Qc (n:=y+1) (by omega) (by omega)]
  unfold ysz at e
  by_cases hl:leap y
  ·rw [bif_t ⟨by omega,hl⟩,Qc (by omega) (by omega),e,if_pos hl];congr 2;omega
  ·rw [Qa (λh=>hl h.2),e,if_neg hl]
theorem Qpe {y M:Int} (hy:goodY y) (hM:M<=12):∀(f:Nat) (m:Int),1<=m->m+f=M->Runs (λrec x=>z147.l2P y M rec some x) (aheadY y+cumD y m,m) (aheadY y+cumD y M,M)
 |
  0,m,h1,hf=>by
  have:m=M:=by omega
  subst this
  refine .done λrec=>?_
  unfold z147.l2P
  simp only
  rw [Qa (by omega)]
 |
  f+1,m,h1,hf=>by
  have b:=Qfx (y:=y) (by omega)
  have c:=Qk2 (y:=y) (m:=m) (by omega)
  have e:=Qak hy (m:=m) (by omega)
  have dl:=Qdz y m
  refine .step (λrec=>?_) (Qpe hy hM f (m+1) (by omega) (by omega))
  unfold z147.l2P
  simp only
  rw [bif_t (by omega),Qck]
  simp only [Zb]
  rw [Qc (n:=m+1) (by omega) (by omega),Qc (by omega) (by omega),e]
  congr 2;omega
theorem Qg3 {a:D3} (h:rightD a):z147.F a.1 a.2.1 a.2.2=some (numD a):=by
 have g:=Q3 h
 have b:=Wq h
 have en:numD a=aheadY a.1+cumD a.1 a.2.1+a.2.2:=rfl
 have r1:z147.l0 a.1 ((0:Int),(1:Int))=some (aheadY a.1,a.1):=(Qjp g.1 (a.1-1).toNat 1 (by omega) (by omega)).lfp
 have r2:=(Qpe g.1 g.2.2.1 (a.2.1-1).toNat 1 (by omega) (by omega)).lfp
 rw [Qc0,Int.add_zero] at r2
 have r2':z147.l2 a.1 a.2.1 (aheadY a.1,(1:Int))=some (aheadY a.1+cumD a.1 a.2.1,a.2.1):=r2
 unfold z147.F
 rw [r1]
 simp only [Zb]
 rw [r2']
 simp only [Zb]
 rw [Qc (by omega) (by omega)]
 rfl
def Wg (a:D3) (y:Int):Rat:=if y=a.1 then 0 else (y:Rat)-yAt a.1 a.2.1 a.2.2
theorem Qvf {a:D3} (h:rightD a) {y:Int} (hy:goodY y):Sq 20 (Wg a y):=by
 have g:=Q3 h
 have b:=Wq h
 have en:numD a=num a.1 a.2.1 a.2.2:=rfl
 have m1:=Jz (y:=a.1) (by omega)
 unfold Wg
 split
 ·exact Sq.zero (by decide)
 ·rw [Rat.sub_eq_add_neg]
  have s2:Sq 4 (y:Rat):=Sq.int (Nat.le_trans (sz_le (k:=4) (by omega)) (by decide)) (by decide)
  exact s2.add (Qhh a.1 _ g.1 (by omega)).neg
theorem Qts {a b:D3} (ha:rightD a) (hb:rightD b) (h:numD a<=numD b):∀(f:Nat) (y:Int),a.1<=y->y+f=b.1 ->
  Runs (λrec x=>z148.l0P (numD a) (numD b) b.1 rec some x) (y,(rf (Wg a y)).1,(rf (Wg a y)).2.1,(rf (Wg a y)).2.2)
   (b.1+1,(rf (yAt b.1 b.2.1 b.2.2-yAt a.1 a.2.1 a.2.2)).1,(rf (yAt b.1 b.2.1 b.2.2-yAt a.1 a.2.1 a.2.2)).2.1,(rf (yAt b.1 b.2.1 b.2.2-yAt a.1 a.2.1 a.2.2)).2.2):=by
 have ga:=Q3 ha
 have gb:=Q3 hb
 have b1:=Wq ha;have b2:=Wq hb
 have y1:=Qab ha;have y2:=Qab hb
 have round:∀(y:Int),a.1<=y->y<=b.1->∀{R:Type} (rec done:(Int×J0×Bool×J0)->Option R),
   z148.l0P (numD a) (numD b) b.1 rec done (y,(rf (Wg a y)).1,(rf (Wg a y)).2.1,(rf (Wg a y)).2.2) =
    rec (y+1,rf (inY y (if y=b.1 then numD b else aheadY (y+1)+1)-yAt a.1 a.2.1 a.2.2)):=λy h1 h2 {R} rec done=>by
  have gy:goodY y:=by omega
  have hf:rightD (y,1,1):=Qlk gy
  have m1:=Qfx (y:=y) (by omega)
  have e:=Qn9 y
  have z:=Qcs y
  have hnum:=Qg3 hf
  simp only at hnum
  have en:numD (y,1,1)=aheadY y+1:=Qj1 y
  have hto:(if numD b<wr .i64 (aheadY y+1+ysz y) then numD b else wr .i64 (aheadY y+1+ysz y))=(if y=b.1 then numD b else aheadY (y+1)+1):=by
   rw [Qc (by omega) (by omega)]
   by_cases hyb:y=b.1
   ·rw [if_pos hyb]
    subst hyb
    rw [if_pos (by omega)]
   ·rw [if_neg hyb]
    have:=Qbk (y:=y+1) (y':=b.1) (by omega)
    rw [if_neg (by omega)];omega
  have hfrom:inY y (if numD a>aheadY y+1 then numD a else aheadY y+1)=(if y=a.1 then yAt a.1 a.2.1 a.2.2 else (y:Rat))/\aheadY y+1<=(if numD a>aheadY y+1 then numD a else aheadY y+1)/\(if numD a>aheadY y+1 then numD a else aheadY y+1)<=9000000:=by
   by_cases hya:y=a.1
   ·rw [if_pos hya]
    subst hya
    have:(if numD a>aheadY a.1+1 then numD a else aheadY a.1+1)=numD a:=by split<;>omega
    rw [this]
    exact ⟨rfl,by omega,by omega⟩
   ·rw [if_neg hya]
    have:=Qbk (y:=a.1+1) (y':=y) (by omega)
    rw [if_neg (by omega),Qof]
    exact ⟨rfl,by omega,by omega⟩
  have htb:aheadY y+1<=(if y=b.1 then numD b else aheadY (y+1)+1)/\(if y=b.1 then numD b else aheadY (y+1)+1)<=9000000:=by
   by_cases hyb:y=b.1
   ·rw [if_pos hyb];subst hyb;omega
   ·rw [if_neg hyb];omega
  have hj:z148.j1015a rec done (numD b) (aheadY y+1) (ysz y) (numD a) (rf (Wg a y)).1 (rf (Wg a y)).2.1 (rf (Wg a y)).2.2 y=rec (y+1,rf (inY y (if y=b.1 then numD b else aheadY (y+1)+1)-yAt a.1 a.2.1 a.2.2)):=by
   unfold z148.j1015a
   rw [hto]
   obtain ⟨f1,f2,f3⟩:=hfrom
   generalize (if numD a>aheadY y+1 then numD a else aheadY y+1)=fr0 at *
   generalize (if y=b.1 then numD b else aheadY (y+1)+1)=to0 at *
   rw [Qc (n:=to0-fr0) (by omega) (by omega),Yi (by omega) (by omega) (by omega)]
   simp only [Zb]
   rw [Qhs (Qvf ha gy) (Qa3 (by omega) (by omega)) (by decide)]
   simp only [Zb]
   rw [Qc (by omega) (by omega),<-Qd2]
   have:Wg a y+(inY y to0-inY y fr0)=inY y to0-yAt a.1 a.2.1 a.2.2:=by
    rw [f1]
    unfold Wg
    split<;>grind
   rw [this]
  unfold z148.l0P
  simp only
  rw [bif_t (by omega),hnum,en]
  simp only [Zb]
  rw [Qg6]
  simp only [Zb]
  unfold ysz at hj
  by_cases hl:leap y
  ·rw [if_pos hl] at hj
   rw [bif_t ⟨gy,hl⟩];exact hj
  ·rw [if_neg hl] at hj
   rw [Qa (λh=>hl h.2)];exact hj
 intro f
 induction f with
 |
  zero=>
  intro y h1 hf
  have hyb:y=b.1:=by omega
  refine .step (y:=(b.1+1,rf (yAt b.1 b.2.1 b.2.2-yAt a.1 a.2.1 a.2.2))) (λrec=>?_) (.done λrec=>?_)
  ·rw [round y h1 (by omega) rec some,if_pos hyb,hyb];rfl
  ·unfold z148.l0P
   simp only
   rw [Qa (by omega)]
 |
  succ f ih=>
  intro y h1 hf
  refine .step (λrec=>?_) (ih (y+1) (by omega) (by omega))
  rw [round y h1 (by omega) rec some,if_neg (by omega),Qlj]
  have:Wg a (y+1)=((y+1:Int):Rat)-yAt a.1 a.2.1 a.2.2:=by unfold Wg;rw [if_neg (by omega)]
  rw [this]
theorem Qun {bs:Int} {a b:D3} (hbs:0<=bs/\bs<=2) (ha:rightD a) (hb:rightD b) (h:numD a<=numD b) :
  z148.F bs a.1 a.2.1 a.2.2 b.1 b.2.1 b.2.2=some (rf (yf bs a.1 a.2.1 a.2.2 b.1 b.2.1 b.2.2)):=by
 have ga:=Q3 ha
 have gb:=Q3 hb
 have b1:=Wq ha;have b2:=Wq hb
 have en1:numD a=num a.1 a.2.1 a.2.2:=rfl
 have en2:numD b=num b.1 b.2.1 b.2.2:=rfl
 unfold z148.F yf
 by_cases h0:bs=0
 ·rw [bif_t h0,if_pos h0]
  have key:∀{j k:Int},0<=j/\j<=31->0<=k/\k<=31->Wk a.1 a.2.1 a.2.2 b.1 b.2.1 b.2.2=360*(b.1-a.1)+30*(b.2.1-a.2.1)+j-k->z117.F (wr .i64 (wr .i64 (wr .i64 (wr .i64 (360*wr .i64 (b.1-a.1))+wr .i64 (30*wr .i64 (b.2.1-a.2.1)))+j)-k)) 360=some (rf (Rat.divInt (Wk a.1 a.2.1 a.2.2 b.1 b.2.1 b.2.2) 360)):=λ{j k} hj hk e=>by
   rw [Qoy ga.1 ⟨ga.2.1,ga.2.2.1⟩ gb.1 ⟨gb.2.1,gb.2.2.1⟩ hj hk,e,Yi (by omega) (by omega) (by decide)]
  by_cases h1:a.2.2=31
  ·rw [bif_t h1]
   by_cases h2:b.2.2=31
   ·rw [bif_t h2];unfold z148.j6
    rw [key (by omega) (by omega) (by unfold Wk;rw [if_pos (by omega),if_pos (by omega)])];rfl
   ·rw [Qa h2];unfold z148.j6
    rw [key (by omega) (by omega) (by unfold Wk;rw [if_neg (by omega),if_pos (by omega)])];rfl
  ·rw [Qa h1]
   by_cases h2:b.2.2=31
   ·rw [bif_t h2]
    by_cases h3:a.2.2=30
    ·rw [bif_t h3];unfold z148.j9
     rw [key (by omega) (by omega) (by unfold Wk;rw [if_pos (by omega),if_neg (by omega)])];rfl
    ·rw [Qa h3];unfold z148.j9
     rw [key (by omega) (by omega) (by unfold Wk;rw [if_neg (by omega),if_neg (by omega)])];rfl
   ·rw [Qa h2];unfold z148.j9
    rw [key (by omega) (by omega) (by unfold Wk;rw [if_neg (by omega),if_neg (by omega)])];rfl
 ·rw [Qa h0,if_neg h0,Qg3 ha]
  simp only [Zb]
  rw [Qg3 hb]
  simp only [Zb]
  by_cases h1:bs=1
  ·rw [bif_t h1,if_pos h1,Qc (by omega) (by omega),Yi (by omega) (by omega) (by decide)];rfl
  ·rw [Qa h1,if_neg h1,Yi (by omega) (by omega) (by decide)]
   simp only [Zb]
   have hle:a.1<=b.1:=by
    have y1:=Qab ha;have y2:=Qab hb
    rcases Int.lt_or_le b.1 a.1 with hh|hh
    ·have:=Qbk (y:=b.1+1) (y':=a.1) (by omega);omega
    ·exact hh
   have r:=(Qts ha hb h (b.1-a.1).toNat a.1 (by omega) (by omega)).lfp
   have e0:Wg a a.1=Rat.divInt 0 1:=by unfold Wg;rw [if_pos rfl,Rat.zero_divInt]
   rw [e0] at r
   have r':z148.l0 (numD a) (numD b) b.1 (a.1,(rf (Rat.divInt 0 1)).1,(rf (Rat.divInt 0 1)).2.1,(rf (Rat.divInt 0 1)).2.2)=_:=r
   rw [r']
   rfl
theorem J8 (s:J1):Sq 100 (mRate s).1:=⟨Nat.le_trans (Qhy s).1 (by decide),(Qhy s).2⟩
end Go.Proofs.YtgjncgiekniniaaGreatDoor.A
end
section
namespace Go.Proofs.YtgjncgiekniniaaGreatDoor.A
open Go
open Classical in
theorem Qdn (m:Int) {q:Rat} {k:Nat} (h:Sq k q):sz (rnd m q).natAbs<=2*k+2:=by
 obtain ⟨a1,_⟩:=Qhq m q
 rw [a1]
 have h1:rndN m q.num.natAbs q.den<=q.num.natAbs+1:=by
  have:=Nat.div_le_self q.num.natAbs q.den
  unfold rndN
  split<;>omega
 have h2:=Qy h1
 have h3:=Qb9 q.num.natAbs 1
 have h4:sz 1<=1:=sz_le (by decide)
 have:=h.1
 omega
end Go.Proofs.YtgjncgiekniniaaGreatDoor.A
end
section
namespace Go.Proofs.YtgjncgiekniniaaGreatDoor.A
open Go
theorem month_Between {x y:D3} (h:rightD x) (h':rightD y):z141.F x.1 x.2.1 x.2.2 y.1 y.2.1 y.2.2=some (numD y-numD x,0):=by
 have b1:=Wq h;have b2:=Wq h'
 have h1:right x.1 x.2.1 x.2.2:=h
 have h2:right y.1 y.2.1 y.2.2:=h'
 unfold z141.F
 rw [date_Number,if_pos h1]
 simp only [Zb,decide_true,Zn,Zc]
 rw [date_Number,if_pos h2]
 simp only [Zb,decide_true,Zn,Zc]
 have e:wr .i64 (num y.1 y.2.1 y.2.2-num x.1 x.2.1 x.2.2)=numD y-numD x:=Qc (by have:numD y=num y.1 y.2.1 y.2.2:=rfl;have:numD x=num x.1 x.2.1 x.2.2:=rfl;omega) (by have:numD y=num y.1 y.2.1 y.2.2:=rfl;have:numD x=num x.1 x.2.1 x.2.2:=rfl;omega)
 rw [e]
theorem Qk3 {n:Nat} (hl:(lb n).length<=100000000):∃b:Int,z156.F (lb n)=some b/\0<=b/\b<=64*((lb n).length:Int):=by
 unfold z156.F
 rw [Wl,Zb]
 by_cases h:n=0
 ·rw [Zt h,Zd]
  exact ⟨0,rfl,Int.le_refl _,by omega⟩
 ·rw [Zf h,Zc]
  have h0:0<(lb n).length:=by
   rcases Nat.eq_zero_or_pos (lb n).length with e|e
   ·exact absurd ((Qim n).1 (by omega)) h
   ·exact e
  have hw:wr .i64 ((((lb n).length:Nat):Int)-1)=(((lb n).length-1:Nat):Int):=by rw [Qc (by omega) (by omega)];omega
  rw [hw,if_pos (by omega),Zi]
  obtain ⟨x,hx,hx2⟩:=limb (Qu bL n) ((lb n).length-1)
  have hx':(lb n).getD ((lb n).length-1) 0=(x:Int):=hx
  have hpos:0<x:=by
   rcases Nat.eq_zero_or_pos x with e|e
   ·exfalso
    have hne:lb n≠[]:=λe=>by rw [e] at h0;exact absurd h0 (by decide)
    have ht:(lb n).getLast hne≠0:=Qiw bL n hne
    rw [List.getLast_eq_getElem] at ht
    rw [e] at hx'
    apply ht
    have:(lb n)[(lb n).length-1]'(by omega)=(lb n).getD ((lb n).length-1) 0:=by rw [Zl,List.getElem?_eq_getElem (by omega)];rfl
    rw [this,hx'];rfl
   ·exact e
  obtain ⟨k,h1,_,_,h4⟩:=bits_Len64 hpos hx2
  rw [hx',h4,Zb]
  rw [Qc (n:=64*(((lb n).length-1:Nat):Int)) (by omega) (by omega),Qc (by omega) (by omega)]
  exact ⟨_,rfl,by omega,by omega⟩
theorem digits_Pow {n t:Nat} (ht:t<=1200) (h:64*(lb n).length*t<=262144) (hs:sz n<=100000):z157.F (lb n) (t:Int)=some (lb (n^t),0):=by
 have l1:=Qh n
 obtain ⟨b,hb,h1,h2⟩:=Qk3 (n:=n) (by omega)
 unfold z157.F
 rw [Qa (by omega),Qa (by omega),hb,Zb]
 have hm:b*(t:Int)<=((64*(lb n).length*t:Nat):Int):=by
  rw [Int.natCast_mul]
  exact Int.mul_le_mul_of_nonneg_right (by omega) (by omega)
 have hm0:0<=b*(t:Int):=Int.mul_nonneg h1 (by omega)
 have hp:t*sz n<=700000000:=Nat.le_trans (Nat.mul_le_mul ht hs) (by decide)
 rw [Qc (by omega) (by omega),Qa (by omega),digits_power (by omega) hp]
 rfl
def lvl (a r:Rat) (n:Nat):Rat:=if r=0 then a/(n:Rat) else a*r*(1+r)^n/((1+r)^n-1)
theorem Qht (u v:Rat) (hv:v≠0):∀n:Nat,v^n≠0/\(u/v)^n=u^n/v^n
 |0=>by rw [Rat.pow_zero,Rat.pow_zero,Rat.pow_zero];exact ⟨by decide,by grind⟩
 |
  n+1=>by
  obtain ⟨h1,h2⟩:=Qht u v hv n
  have h3:v^n*v≠0:=by
   intro e
   rcases Rat.mul_eq_zero.1 e with e|e
   ·exact h1 e
   ·exact hv e
  rw [Rat.pow_succ,Rat.pow_succ,Rat.pow_succ,h2]
  exact ⟨h3,by grind⟩
theorem Qrz (an rn ad rd U W:Rat) (h1:ad≠0) (h2:rd≠0) (h3:W≠0) (h4:U-W≠0):(an*rn*U)/(ad*rd*(U-W))=(an/ad)*(rn/rd)*(U/W)/(U/W-1):=by
 have h5:U/W-1≠0:=by
  intro h
  apply h4
  have:U/W*W=U:=Rat.div_mul_cancel h3
  grind
 grind
theorem Qeh (u:Nat):∀n:Nat,((u^n:Nat):Rat)=(u:Rat)^n
 |0=>by rw [Nat.pow_zero,Rat.pow_zero];rfl
 |n+1=>by rw [Nat.pow_succ,Rat.pow_succ,<-Qeh u n,Rat.natCast_mul]
theorem Qc5 (q:Rat):(q.num:Rat)/((q.den:Nat):Rat)=q:=by
 have h:=Rat.mkRat_eq_div q.num q.den
 rw [Rat.mkRat_self] at h
 exact h.symm
theorem Y0 {n:Nat} (h:n≠0):((n:Nat):Rat)≠0:=λe=>by
 have:((n:Nat):Rat)=((0:Nat):Rat):=e
 exact h (Rat.natCast_inj.1 this)
theorem Qdl {a r:Rat} {n:Nat} (hr:0<r) (hn:0<n) :
  Rat.divInt (a.num*r.num*(((r.num.natAbs+r.den)^n:Nat):Int)) ((a.den*r.den*((r.num.natAbs+r.den)^n-r.den^n):Nat):Int)=lvl a r n:=by
 have hr0:r≠0:=λe=>by rw [e] at hr;exact absurd hr (by decide)
 have hnum:0<r.num:=by
  have h1:0<=r.num:=Rat.num_nonneg.2 (by grind)
  have h2:r.num≠0:=λe=>hr0 (Rat.num_eq_zero.1 e)
  omega
 have hlt:r.den^n<(r.num.natAbs+r.den)^n:=Nat.pow_lt_pow_left (by omega) (by omega)
 have had:((a.den:Nat):Rat)≠0:=Y0 (by have:=a.den_pos;omega)
 have hrd:((r.den:Nat):Rat)≠0:=Y0 (by have:=r.den_pos;omega)
 obtain ⟨w1,w2⟩:=Qht ((r.num.natAbs+r.den:Nat):Rat) ((r.den:Nat):Rat) hrd n
 have hg:1+r=((r.num.natAbs+r.den:Nat):Rat)/((r.den:Nat):Rat):=by
  have e:((r.num.natAbs:Nat):Rat)=(r.num:Rat):=by
   have:(r.num:Int)=((r.num.natAbs:Nat):Int):=by omega
   rw [this];rfl
  rw [Rat.natCast_add,e]
  have:=Qc5 r
  grind
 have hsub:(((r.num.natAbs+r.den)^n-r.den^n:Nat):Rat)=((r.num.natAbs+r.den:Nat):Rat)^n-((r.den:Nat):Rat)^n:=by
  have e:((r.num.natAbs+r.den)^n-r.den^n)+r.den^n=(r.num.natAbs+r.den)^n:=by omega
  have e':(((r.num.natAbs+r.den)^n-r.den^n+r.den^n:Nat):Rat)=(((r.num.natAbs+r.den)^n:Nat):Rat):=congrArg (λk:Nat=>(k:Rat)) e
  rw [Rat.natCast_add,Qeh,Qeh] at e'
  grind
 have hd:((r.num.natAbs+r.den:Nat):Rat)^n-((r.den:Nat):Rat)^n≠0:=by
  rw [<-hsub]
  exact Y0 (by omega)
 unfold lvl
 rw [if_neg hr0,hg,w2,Rat.divInt_eq_div]
 have ea:=Qc5 a
 have er:=Qc5 r
 have h:=Qrz (a.num:Rat) (r.num:Rat) ((a.den:Nat):Rat) ((r.den:Nat):Rat) (((r.num.natAbs+r.den:Nat):Rat)^n) (((r.den:Nat):Rat)^n) had hrd w1 hd
 rw [ea,er] at h
 rw [<-h,Rat.intCast_mul,Rat.intCast_mul]
 have c1:(((r.num.natAbs+r.den)^n:Nat):Int)=(((r.num.natAbs+r.den)^n:Nat):Int):=rfl
 rw [Rat.intCast_natCast,Rat.intCast_natCast,Qeh,Rat.natCast_mul,Rat.natCast_mul,hsub]
theorem Qek (n:Nat):neg ((n:Nat):Int)=false:=Zf (by omega)
theorem power_plain (n:Nat):z158.F (lb n)=some (lb n,false):=by
 unfold z158.F
 rw [whole_Of,Zb,Bool.false_and]
theorem Qml {k j:Nat} {q r:Rat} (hq:Sq k q) (hr:Sq j r) (h0:r≠0) (hs:k+j<=100000000) :
  z75.F (fr q).1 (fr q).2.1 (fr q).2.2 (fr r).1 (fr r).2.1 (fr r).2.2=some ((fr (q/r)).1,(fr (q/r)).2.1,(fr (q/r)).2.2,0):=by
 have q1:=hq.1;have q2:=hq.2;have r1:=hr.1;have r2:=hr.2
 have h1:=hq.cross hr
 have h2:=hr.cross hq
 rw [Int.mul_comm] at h2
 have hm:=Qb9 (q.num*r.den).natAbs ((q.den:Int)*r.num).natAbs
 exact Qm8 (Qit (M:=(q.num*r.den).natAbs+((q.den:Int)*r.num).natAbs) (by omega)) h0 (by omega) (by omega) (by omega) (by omega)
theorem Qex (n:Nat) {t:Nat} (ht:t≠0):sz (n^t)<=t*sz n:=sz_le (by
 have:=Nat.pow_lt_pow_left (Jr n) ht
 rw [<-Nat.pow_mul,Nat.mul_comm] at this
 exact this)
theorem power_Level {a r:Rat} {n:Nat} {k:Nat} (ha:Sq k a) (hk:k<=10000000) (hr:0<=r) (hr':Sq k r) (hn:1<=n/\n<=1200) (hb:64*sz (r.num.natAbs+r.den)*n<=262144) :
  z159.F (fr a).1 (fr a).2.1 (fr a).2.2 (fr r).1 (fr r).2.1 (fr r).2.2 (n:Int)=some ((fr (lvl a r n)).1,(fr (lvl a r n)).2.1,(fr (lvl a r n)).2.2,0):=by
 have hnum:0<=r.num:=Rat.num_nonneg.2 hr
 unfold z159.F
 rw [Qa (by omega),Zf (by omega)]
 unfold z159.j1
 rw [Zc]
 have es:=Qgi r (fr r).2.2
 rw [es,Zb,Qa (by rw [Wy];omega),Zb]
 by_cases h0:r=0
 ·have hn0:((n:Int):Rat)≠0:=Y0 (n:=n) (by omega)
  have sn:sz n<=4:=sz_le (by omega)
  rw [bif_t (by rw [Jt,h0];rfl),whole_From (by omega),Zb]
  simp only
  rw [frac_From,Zb,Qml ha (Sq.int (k:=4) (z:=(n:Int)) (by rw [Int.natAbs_natCast];omega) (by decide)) hn0 (by omega)]
  have e:lvl a r n=a/((n:Int):Rat):=by unfold lvl;rw [if_pos h0];rfl
  rw [e];rfl
 ·have hpos:0<r:=by grind
  have hne:r.num≠0:=λe=>h0 (Rat.num_eq_zero.1 e)
  have a1:=ha.1;have a2:=ha.2;have r1:=hr'.1;have r2:=hr'.2
  have hden:=r.den_pos
  generalize hu:r.num.natAbs+r.den=u at *
  have hnu:n*sz u<=4096:=by
   have e:64*sz u*n=64*(n*sz u):=by rw [Nat.mul_assoc,Nat.mul_comm (sz u) n]
   omega
  have hsu:sz u<=4096:=Nat.le_trans (Nat.le_mul_of_pos_left _ (by omega)) hnu
  have lu:=Qh u
  have hvu:sz r.den<=sz u:=Qy (by omega)
  have lv:=Qh r.den
  have b1:64*(lb u).length*n<=262144:=Nat.le_trans (Nat.mul_le_mul_right n (by omega)) hb
  have b2:64*(lb r.den).length*n<=262144:=Nat.le_trans (Nat.mul_le_mul_right n (by omega)) hb
  have hle:r.den^n<=u^n:=Nat.pow_le_pow_left (by omega) n
  have hlt:r.den^n<u^n:=Nat.pow_lt_pow_left (by omega) (by omega)
  have sp:sz (u^n)<=n*sz u:=Qex u (by omega)
  have lp:=Qh (u^n)
  have sl:sz (u^n-r.den^n)<=n*sz u:=Nat.le_trans (Qy (Nat.sub_le _ _)) sp
  have ll:=Qh (u^n-r.den^n)
  have ln:=Qh r.num.natAbs
  have ln2:=Qh a.num.natAbs
  have s1:=W6 a.num r.num
  have l1:=Qh (a.num*r.num).natAbs
  have s2:=W6 (a.num*r.num) ((u^n:Nat):Int)
  have s3:=Q1 a.den r.den
  have l3:=Qh (a.den*r.den)
  have l4:=Qh a.den
  have s4:=Q1 (a.den*r.den) (u^n-r.den^n)
  rw [Qa (by rw [Jt];exact hne)]
  have eD:=Yw r (fr r).1 (fr r).2.1 (by omega)
  rw [eD,Zb,show z134.F (fr r).1 (fr r).2.1 (fr r).2.2=some ((fr r).1,(fr r).2.1) from rfl,Zb]
  simp only
  rw [show z59.F (lb r.num.natAbs) (neg r.num)=some (lb r.num.natAbs) from rfl,Zb,Qaq (by omega),Zb,hu,digits_Pow hn.2 b1 (by omega),Zb,digits_Pow hn.2 b2 (by omega),Zb]
  simp only [decide_true,Zn,Zc]
  unfold z159.j13
  simp only
  rw [Qc3 (by omega),if_pos hle,Zb,show z134.F (lb a.num.natAbs) (neg a.num) (lb (a.den-1))=some (lb a.num.natAbs,neg a.num) from rfl,Zb,show z134.F (lb r.num.natAbs) (neg r.num) (lb (r.den-1))=some (lb r.num.natAbs,neg r.num) from rfl,Zb]
  simp only
  have m1:=Y9 (x:=a.num) (y:=r.num) (by omega)
  have m2:=Y9 (x:=a.num*r.num) (y:=((u^n:Nat):Int)) (by rw [Int.natAbs_natCast];omega)
  have o1:=Qda (num:=a.num*r.num*((u^n:Nat):Int)) (den:=((a.den*r.den*(u^n-r.den^n):Nat):Int)) (by
   have h1:0<a.den:=a.den_pos
   have h2:0<a.den*r.den:=Nat.mul_pos h1 hden
   have h3:0<a.den*r.den*(u^n-r.den^n):=Nat.mul_pos h2 (by omega)
   omega) (by rw [Int.natAbs_natCast] at s2;omega) (by rw [Int.natAbs_natCast];omega)
  rw [Int.natAbs_natCast] at m2
  rw [Qek] at m2
  rw [Int.natAbs_natCast ((a.den*r.den*(u^n-r.den^n):Nat)),Qek] at o1
  rw [m1,Zb,power_plain,Zb]
  simp only
  rw [m2,Zb,Yw a _ _ (by omega),Zb,Yj (by omega),Zb,Yj (by omega),Zb,power_plain,Zb]
  simp only
  rw [o1,Zb,<-hu,Qdl hpos (by omega)]
theorem Qp2 (s:J1):0<=(mRate s).1:=by
 unfold mRate
 split
 ·exact Rat.le_refl
 ·split
  ·exact Rat.le_refl
  ·rename_i h
   show (0:Rat)<=mkRat (mDec s).1 (10^(mDec s).2.1)/100
   have h0:0<=(mDec s).1:=by omega
   rw [Rat.mkRat_eq_div]
   have e1:((0:Int):Rat)<=((mDec s).1:Rat):=Rat.intCast_le_intCast.2 h0
   have e2:(0:Rat)<=((mDec s).1:Rat):=e1
   have hp:(0:Nat)<10^(mDec s).2.1:=Nat.pow_pos (by decide)
   have e3:((0:Nat):Rat)<((10^(mDec s).2.1:Nat):Rat):=Rat.natCast_lt_natCast.2 hp
   have e4:(0:Rat)<((10^(mDec s).2.1:Nat):Rat):=e3
   generalize ((mDec s).1:Rat)=x at *
   generalize ((10^(mDec s).2.1:Nat):Rat)=y at *
   have e5:0<=x/y:=by
    rw [Rat.div_def]
    exact Rat.mul_nonneg e2 (Rat.le_of_lt (Rat.inv_pos.2 e4))
   grind
theorem Qad (s:J1):0<=(mMoney s).1/\(mMoney s).1<=10^30:=by
 unfold mMoney
 have h10:(0:Int)<=10^30:=by decide
 split
 ·exact ⟨Int.le_refl _,h10⟩
 ·split
  ·exact ⟨Int.le_refl _,h10⟩
  ·rename_i h;exact ⟨by show 0<=(mWhole s).1;omega,by show (mWhole s).1<=_;omega⟩
def perR (s:J1) (every:Int):Rat:=(mRate s).1*Rat.divInt every 12
theorem Qf3 {e:Int} (he:1<=e/\e<=12):Sq 2 (Rat.divInt e 12):=Sq.div (by decide) (sz_le (by omega)) (sz_le (by decide))
theorem Qce (s:J1) {e:Int} (he:1<=e/\e<=12):Sq 102 (perR s e):=(J8 s).mul (Qf3 he)
theorem Qv7 {e:Int} (he:1<=e):0<Rat.divInt e 12:=by
 rw [Rat.divInt_eq_div]
 have:((1:Int):Rat)<=(e:Rat):=Rat.intCast_le_intCast.2 he
 have e1:(1:Rat)<=(e:Rat):=this
 show 0<(e:Rat)/12
 grind
theorem Qal (s:J1) {e:Int} (he:1<=e):0<=perR s e:=Rat.mul_nonneg (Qp2 s) (Rat.le_of_lt (Qv7 he))
theorem level_Rate {s:J1} {e:Int} (h:(mRate s).2=0) (he:1<=e/\e<=12):z155.F s e=some ((fr (perR s e)).1,(fr (perR s e)).2.1,(fr (perR s e)).2.2,0):=by
 unfold z155.F
 rw [terms_Rate,Zb,h]
 simp only [decide_true,Zn,Zc]
 rw [Qa (by omega),Qa (by omega)]
 unfold z155.j2
 have se:sz e.natAbs<=2:=sz_le (by omega)
 have s12:sz (Int.natAbs 12)<=2:=sz_le (by decide)
 have o:=Qda (num:=e) (den:=12) (by decide) (by omega) (by omega)
 rw [whole_From (by omega),Zb,whole_From (by decide),Zb]
 simp only
 rw [o,Zb]
 simp only
 rw [Qf7 (J8 s) (Qf3 he) (by decide),Zb]
 rfl
def payN (m:Int) (a:Int) (s:J1) (e:Int) (n:Nat):Int:=rnd m (lvl (a:Rat) (perR s e) n)
theorem Qhg {a r:Rat} {n k:Nat} (ha:Sq k a) (hr:0<=r) (hr':Sq k r) (hn:1<=n) (hk:4<=k) (hb:64*sz (r.num.natAbs+r.den)*n<=262144):Sq (2*k+4100) (lvl a r n):=by
 have a1:=ha.1;have a2:=ha.2;have r1:=hr'.1;have r2:=hr'.2
 by_cases h0:r=0
 ·have sn:sz n<=4:=by
   have h1:sz 1<=1:=sz_le (by decide)
   have h2:0<sz (r.num.natAbs+r.den):=by
    have:=Qy (show 1<=r.num.natAbs+r.den by have:=r.den_pos;omega)
    have e1:sz 1≠0:=by decide +kernel
    omega
   have:64*1*n<=262144:=Nat.le_trans (Nat.mul_le_mul_right n (Nat.mul_le_mul_left 64 h2)) hb
   exact sz_le (by omega)
  unfold lvl
  rw [if_pos h0]
  have e:a/(n:Rat)=Rat.divInt (a.num) ((a.den*n:Nat):Int):=by
   rw [Rat.divInt_eq_div,Rat.intCast_natCast,Rat.natCast_mul]
   have:=Qc5 a
   have hn0:((n:Nat):Rat)≠0:=Y0 (by omega)
   have had:((a.den:Nat):Rat)≠0:=Y0 (by have:=a.den_pos;omega)
   grind
  rw [e]
  have hm:=Q1 a.den n
  exact Sq.div (by have:=Nat.mul_pos a.den_pos (show 0<n by omega);omega) (by omega) (by rw [Int.natAbs_natCast];omega)
 ·have hpos:0<r:=by grind
  rw [<-Qdl hpos (by omega)]
  have hden:=r.den_pos
  have hnum:0<=r.num:=Rat.num_nonneg.2 hr
  have hne:r.num≠0:=λe=>h0 (Rat.num_eq_zero.1 e)
  generalize hu:r.num.natAbs+r.den=u at *
  have hnu:n*sz u<=4096:=by
   have e:64*sz u*n=64*(n*sz u):=by rw [Nat.mul_assoc,Nat.mul_comm (sz u) n]
   omega
  have sp:sz (u^n)<=n*sz u:=Qex u (by omega)
  have sl:sz (u^n-r.den^n)<=n*sz u:=Nat.le_trans (Qy (Nat.sub_le _ _)) sp
  have hlt:r.den^n<u^n:=Nat.pow_lt_pow_left (by omega) (by omega)
  have s1:=W6 a.num r.num
  have s2:=W6 (a.num*r.num) ((u^n:Nat):Int)
  have s3:=Q1 a.den r.den
  have s4:=Q1 (a.den*r.den) (u^n-r.den^n)
  rw [Int.natAbs_natCast] at s2
  refine Sq.div ?_ (by omega) (by rw [Int.natAbs_natCast];omega)
  have h1:0<a.den:=a.den_pos
  have h2:0<a.den*r.den:=Nat.mul_pos h1 hden
  have h3:0<a.den*r.den*(u^n-r.den^n):=Nat.mul_pos h2 (by omega)
  omega
theorem Qfi (s:J1) {e:Int} (he:1<=e/\e<=12) {n:Nat} (hn:n<=30):64*sz ((perR s e).num.natAbs+(perR s e).den)*n<=262144:=by
 have h:sz (perR s e).num.natAbs<=102/\sz (perR s e).den<=102:=by
  have h1:=Qhy s
  have se:sz e.natAbs<=2:=sz_le (by omega)
  have s12:sz 12<=2:=sz_le (by decide)
  unfold perR
  have hd:Rat.divInt e 12=mkRat e 12:=rfl
  have m1:=Qa1 e (show 0<12 by decide)
  have m2:=Qaw e (show 0<12 by decide)
  rw [<-hd] at m1 m2
  have n1:=Qy m1
  have n2:=Qy m2
  rw [Rat.mul_def']
  have p0:0<(mRate s).1.den*(Rat.divInt e 12).den:=Nat.mul_pos (mRate s).1.den_pos (Rat.divInt e 12).den_pos
  have k1:=Qy (Qa1 ((mRate s).1.num*(Rat.divInt e 12).num) p0)
  have k2:=Qy (Qaw ((mRate s).1.num*(Rat.divInt e 12).num) p0)
  have k3:=W6 (mRate s).1.num (Rat.divInt e 12).num
  have k4:=Q1 (mRate s).1.den (Rat.divInt e 12).den
  constructor<;>omega
 have hm:=Qb9 (perR s e).num.natAbs (perR s e).den
 have hs:sz ((perR s e).num.natAbs+(perR s e).den)<=104:=by omega
 exact Nat.le_trans (Nat.mul_le_mul (Nat.mul_le_mul_left 64 hs) hn) (by decide)
theorem level_Payment {a:Int} {s:J1} {e m:Int} {n:Nat} (ha:0<=a) (hz:sz a.natAbs<=200) (h:(mRate s).2=0) (he:1<=e/\e<=12) (hn:1<=n/\n<=30) (hm:0<=m/\m<=4) :
  z160.F (lb a.natAbs) (neg a) s e (n:Int) m=some (lb (payN m a s e n).natAbs,neg (payN m a s e n),0):=by
 have hq:Sq 102 (a:Rat):=Sq.int (by omega) (by decide)
 have hb:=Qfi s he hn.2
 unfold z160.F
 rw [level_Rate h he,Zb]
 simp only [decide_true,Zn,Zc]
 rw [Yf,Zb,Qa (by rw [Wy];omega),frac_From,Zb,power_Level hq (by decide) (Qal s he.1) (Qce s he) ⟨hn.1,by omega⟩ hb,Zb]
 simp only [decide_true,Zn,Zc]
 rw [round_Whole hm (Qhg hq (Qal s he.1) (Qce s he) hn.1 (by decide) hb) (by decide),Zb]
 rfl
def Qcz (m:Int) (a:Int) (n:Nat):Int:=rnd m (Rat.divInt a n)
theorem level_Part {a:Int} {m:Int} {n:Nat} (ha:0<=a) (hz:sz a.natAbs<=200) (hn:1<=n/\n<=1200) (hm:0<=m/\m<=4):z161.F (lb a.natAbs) (neg a) (n:Int) m=some (lb (Qcz m a n).natAbs,neg (Qcz m a n),0):=by
 have sn:sz n<=4:=sz_le (by omega)
 unfold z161.F
 rw [Yf,Zb,Qa (by rw [Wy];omega),Qa (by omega),Qa (by omega)]
 unfold z161.j2
 rw [whole_From (by omega),Zb]
 simp only
 rw [Qda (by omega) (by omega) (by rw [Int.natAbs_natCast];omega),Zb]
 simp only
 rw [round_Whole hm (Sq.div (k:=200) (by omega) (by omega) (by rw [Int.natAbs_natCast];omega)) (by decide),Zb]
 rfl
def intX (t:Tm) (z:Int) (a b:D3):Rat:=(z:Rat)*(mRate t.r).1*yf t.basis a.1 a.2.1 a.2.2 b.1 b.2.1 b.2.2
def intN (t:Tm) (z:Int) (a b:D3):Int:=rnd t.mode (intX t z a b)
theorem Qig {t:Tm} {z:Int} {a b:D3} (hz:sz z.natAbs<=200) (ha:rightD a) (hb:rightD b):Sq 232 (intX t z a b):=
 ((Sq.int (k:=100) (by omega) (by decide)).mul (J8 t.r)).mul (Qh8 t.basis ha hb)
theorem Qm6 {t:Tm} {z:Int} {a b:D3} (hz:sz z.natAbs<=200) (ha:rightD a) (hb:rightD b):sz (intN t z a b).natAbs<=466:=Qdn t.mode (Qig hz ha hb)
theorem Qcw {t:Tm} (h:kindsOK t):(0<=t.kind/\t.kind<=2)/\(0<=t.basis/\t.basis<=2)/\(0<=t.mode/\t.mode<=4)/\Qai t.every:=h
theorem plan_Interest {t:Tm} (h:mCheck t=0) {z:Int} (hz:sz z.natAbs<=200) {a b:D3} (ha:rightD a) (hb:rightD b) (hab:numD a<=numD b) :
  z152.F (lb z.natAbs) (neg z) t.p t.r t.kind t.basis t.mode t.y t.m t.d t.every t.count a.1 a.2.1 a.2.2 b.1 b.2.1 b.2.2=some (lb (intN t z a b).natAbs,neg (intN t z a b),0):=by
 obtain ⟨hk,hc,_,_⟩:=Ya h
 obtain ⟨_,k2,k3,_⟩:=Qcw hk
 have q1:Sq 100 (z:Rat):=Sq.int (by omega) (by decide)
 unfold z152.F
 rw [terms_Check,Zb,h]
 simp only [decide_true,Zn,Zc]
 rw [count_Year k2 ha hb hab,Zb]
 simp only [decide_true,Zn,Zc]
 rw [terms_Rate,Zb,frac_From,Zb,Qf7 q1 (J8 t.r) (by decide),Zb,Qf7 (q1.mul (J8 t.r)) (Qh8 t.basis ha hb) (by decide),Zb]
 have hw:=round_Whole k3 (Qig (t:=t) hz ha hb) (by decide)
 unfold intX at hw
 rw [hw,Zb]
 rfl
structure Rw where
 due:D3
 o:Int
 n:Int
 b:Int
 pay:Int
 c:Int
deriving DecidableEq
def rwv (x:Rw):List V:=[.int .i64 x.due.1,.int .i64 x.due.2.1,.int .i64 x.due.2.2,.str (itxt x.o),.str (itxt x.n),.str (itxt x.b),.str (itxt x.pay),.str (itxt x.c)]
theorem asW0 {R:Type} (x:Rw) (K:Int->Option R):V.asInt .i64 ((rwv x).getD 0 .undef) K=K x.due.1:=by simp [rwv,V.asInt]
theorem asW1 {R:Type} (x:Rw) (K:Int->Option R):V.asInt .i64 ((rwv x).getD 1 .undef) K=K x.due.2.1:=by simp [rwv,V.asInt]
theorem asW2 {R:Type} (x:Rw) (K:Int->Option R):V.asInt .i64 ((rwv x).getD 2 .undef) K=K x.due.2.2:=by simp [rwv,V.asInt]
theorem asW3 {R:Type} (x:Rw) (K:J1->Option R):V.asStr ((rwv x).getD 3 .undef) K=K (itxt x.o):=by simp [rwv,V.asStr]
theorem asW4 {R:Type} (x:Rw) (K:J1->Option R):V.asStr ((rwv x).getD 4 .undef) K=K (itxt x.n):=by simp [rwv,V.asStr]
theorem asW5 {R:Type} (x:Rw) (K:J1->Option R):V.asStr ((rwv x).getD 5 .undef) K=K (itxt x.b):=by simp [rwv,V.asStr]
theorem asW6 {R:Type} (x:Rw) (K:J1->Option R):V.asStr ((rwv x).getD 6 .undef) K=K (itxt x.pay):=by simp [rwv,V.asStr]
theorem asW7 {R:Type} (x:Rw) (K:J1->Option R):V.asStr ((rwv x).getD 7 .undef) K=K (itxt x.c):=by simp [rwv,V.asStr]
def less (a b:Int):Int:=if a<b then a else b
def Wh (kind one z n:Int):Int:=if kind=0 then (if one-n<0 then 0 else less (one-n) z) else less one z
theorem Qpl {a b:Int} (h:sz a.natAbs+sz b.natAbs<=700000000):z163.F (lb a.natAbs) (neg a) (lb b.natAbs) (neg b)=some (lb (less a b).natAbs,neg (less a b)):=by
 have l1:=Qh a.natAbs
 have l2:=Qh b.natAbs
 unfold z163.F less
 rw [Qi2 (by omega),Zb]
 by_cases c:a<b
 ·rw [bif_t (Wy.2 c),if_pos c]
 ·rw [Qa (λe=>c (Wy.1 e)),if_neg c]
theorem plan_part {kind one z n:Int} (h1:sz one.natAbs<=10000000) (h2:sz z.natAbs<=10000000) (h3:sz n.natAbs<=10000000):z164.F kind (lb one.natAbs) (neg one) (lb z.natAbs) (neg z) (lb n.natAbs) (neg n)=some (lb (Wh kind one z n).natAbs,neg (Wh kind one z n)):=by
 have l1:=Qh one.natAbs
 have l3:=Qh n.natAbs
 have hs:sz (one-n).natAbs<=10000001:=by
  have h:=Qy (show (one-n).natAbs<=one.natAbs+n.natAbs by omega)
  have:=Qb9 one.natAbs n.natAbs
  omega
 unfold z164.F Wh
 by_cases hk:kind=0
 ·rw [bif_t hk,if_pos hk,Qhj (by omega),Zb]
  simp only
  rw [Yf,Zb]
  by_cases c:one-n<0
  ·rw [bif_t (by rw [Wy];exact c),if_pos c,show Int.natAbs 0=0 from rfl,lb_zero];rfl
  ·rw [Qa (by rw [Wy];exact c),if_neg c,Qpl (by omega),Zb]
 ·rw [Qa hk,if_neg hk,Qpl (by omega),Zb]
def mRow (t:Tm) (one z:Int) (p:D3×D3) (last:Bool):Rw:=
 let n:=intN t z p.1 p.2
 let b:=if last then z else Wh t.kind one z n
 ⟨p.2,z,n,b,n+b,z-b⟩
def W0 (t:Tm) (one:Int):Int->List (D3×D3)->List Rw
 |_,[]=>[]
 |z,p::ps=>mRow t one z p (decide (ps=[]))::W0 t one (mRow t one z p (decide (ps=[]))).c ps
theorem Qwr {kind one z n:Int} (h1:0<=one) (hz:0<=z):0<=Wh kind one z n/\Wh kind one z n<=z:=by
 unfold Wh less
 split<;>(try split)<;>(try split)<;>omega
theorem Qaj {t:Tm} {one z:Int} {p:D3×D3} {last:Bool} (h1:0<=one) (hz:0<=z):0<=(mRow t one z p last).c/\(mRow t one z p last).c<=z/\0<=(mRow t one z p last).b/\(mRow t one z p last).b<=z:=by
 have h:=Qwr (kind:=t.kind) (n:=intN t z p.1 p.2) h1 hz
 show 0<=z-(if last then z else Wh t.kind one z (intN t z p.1 p.2))/\z-(if last then z else Wh t.kind one z (intN t z p.1 p.2))<=z/\0<=(if last then z else Wh t.kind one z (intN t z p.1 p.2))/\(if last then z else Wh t.kind one z (intN t z p.1 p.2))<=z
 split<;>omega
theorem Qkv (t:Tm) (one:Int):∀(ps:List (D3×D3)) (z:Int),(W0 t one z ps).length=ps.length
 |[],_=>rfl
 |p::ps,z=>by simp [W0,Qkv t one ps]
def okP (ps:List (D3×D3)):Prop:=∀p∈ps,rightD p.1/\rightD p.2/\numD p.1<=numD p.2
theorem Qeq {z:Int} (h0:0<=z) (h:z<=10^30):sz z.natAbs<=31:=sz_le (by
 have e:(10:Int)^30=1000000000000000000000000000000:=by decide
 rw [e] at h
 omega)
theorem Qi3 {t:Tm} (h:mCheck t=0) {one:Int} (h1:0<=one) (h1s:sz one.natAbs<=10000000) {ps:List (D3×D3)} (hp:okP ps) (hl:ps.length<=1200):∀(f i:Nat) (z:Int) (s:List Rw),i+f=ps.length->0<=z->z<=10^30->s.length=i ->
  ∃st:Int×J0×Bool,Runs (λrec x=>z165.l0P (ps.map pv) (ps.map pv) (((ps.map pv).length:Nat):Int) t.p t.r t.kind t.basis t.mode t.y t.m t.d t.every t.count (lb one.natAbs) (neg one) rec some x) ((i:Int),lb z.natAbs,neg z,s.map rwv) (.inl (st.1,st.2.1,st.2.2,(s++W0 t one z (ps.drop i)).map rwv))
 |
  0,i,z,s,hf,hz,hz',hs=>by
  refine ⟨((i:Int),lb z.natAbs,neg z),.done λrec=>?_⟩
  rw [List.drop_eq_nil_of_le (by omega)]
  have ea:s++W0 t one z []=s:=List.append_nil s
  rw [ea]
  unfold z165.l0P
  simp only
  rw [Qa (by rw [List.length_map];omega)]
 |
  f+1,i,z,s,hf,hz,hz',hs=>by
  have hi:i<ps.length:=by omega
  obtain ⟨r1,r2,r3⟩:=hp ps[i] (List.getElem_mem hi)
  have ek:wr .i64 ((i:Int)+1)=((i+1:Nat):Int):=by rw [Qc (by omega) (by omega)];rfl
  have hw:wr .i64 ((((ps.map pv).length:Nat):Int)-1)=((ps.length-1:Nat):Int):=by rw [List.length_map,Qc (by omega) (by omega)];omega
  have s0:=Qeq hz hz'
  have sn:=Qm6 (t:=t) (z:=z) (by omega) r1 r2
  have key:∀last:Bool,0<=(mRow t one z ps[i] last).b/\(mRow t one z ps[i] last).b<=z:=λlast=>⟨(Qaj h1 hz).2.2.1,(Qaj h1 hz).2.2.2⟩
  have hj:∀(last:Bool) (rec:(Int×J0×Bool×J2)->Option ((Int×J0×Bool×J2)⊕(J2×Int×J0×Bool×J2))),
    z165.j1031a rec some (lb z.natAbs) (neg z) (lb (mRow t one z ps[i] last).b.natAbs) (neg (mRow t one z ps[i] last).b) (lb (intN t z ps[i].1 ps[i].2).natAbs,neg (intN t z ps[i].1 ps[i].2),0) (s.map rwv) ps[i].2.1 ps[i].2.2.1 ps[i].2.2.2 (i:Int) =
     rec (((i+1:Nat):Int),lb (mRow t one z ps[i] last).c.natAbs,neg (mRow t one z ps[i] last).c,(s++[mRow t one z ps[i] last]).map rwv):=λlast rec=>by
   obtain ⟨kb1,kb2⟩:=key last
   have sb:=Qeq kb1 (by omega)
   have sc:=Qeq (Qaj (t:=t) (p:=ps[i]) (last:=last) h1 hz).1 (by have:=(Qaj (t:=t) (p:=ps[i]) (last:=last) h1 hz).2.1;omega)
   have ec:z-(mRow t one z ps[i] last).b=(mRow t one z ps[i] last).c:=rfl
   have ep:intN t z ps[i].1 ps[i].2+(mRow t one z ps[i] last).b=(mRow t one z ps[i] last).pay:=rfl
   have l1:=Qh z.natAbs
   have l2:=Qh (mRow t one z ps[i] last).b.natAbs
   have l3:=Qh (intN t z ps[i].1 ps[i].2).natAbs
   have sp:sz (mRow t one z ps[i] last).pay.natAbs<=500:=by
    have h:=Qa6 (intN t z ps[i].1 ps[i].2) (mRow t one z ps[i] last).b
    rw [ep] at h;omega
   unfold z165.j1031a
   rw [Qhj (by omega),Zb,ec,Qbh (by omega),Zb]
   simp only
   rw [Qbh (by omega),Zb,Qbh (by omega),Zb,Qcj (by omega),Zb,ep]
   simp only
   rw [Qbh (by omega),Zb,Qbh (by omega),Zb,if_pos (by simp only [List.length_map,List.length_cons,List.length_nil];omega),ek,List.map_append]
   rfl
  have hdrop:ps.drop i=ps[i]::ps.drop (i+1):=List.drop_eq_getElem_cons hi
  have hlast:decide (ps.drop (i+1)=[])=decide (i=ps.length-1):=by
   apply decide_eq_decide.2
   rw [List.drop_eq_nil_iff];omega
  obtain ⟨st,r⟩:=Qi3 h h1 h1s hp hl f (i+1) (mRow t one z ps[i] (decide (i=ps.length-1))).c (s++[mRow t one z ps[i] (decide (i=ps.length-1))]) (by omega) (Qaj h1 hz).1 (by have:=(Qaj (t:=t) (p:=ps[i]) (last:=decide (i=ps.length-1)) h1 hz).2.1;omega) (by rw [List.length_append,List.length_singleton];omega)
  refine ⟨st,?_⟩
  have hm:W0 t one z (ps.drop i)=mRow t one z ps[i] (decide (i=ps.length-1))::W0 t one (mRow t one z ps[i] (decide (i=ps.length-1))).c (ps.drop (i+1)):=by
   rw [hdrop]
   show mRow t one z ps[i] (decide (ps.drop (i+1)=[]))::W0 t one (mRow t one z ps[i] (decide (ps.drop (i+1)=[]))).c (ps.drop (i+1))=_
   rw [hlast]
  rw [hm,List.append_cons]
  refine .step (λrec=>?_) r
  unfold z165.l0P
  simp only
  rw [bif_t (by rw [List.length_map];omega),if_pos (by rw [List.length_map];omega),Zi,Qar pv hi]
  simp only [asP0,asP1,asP2,asP3,asP4,asP5]
  rw [plan_Interest h (by omega) r1 r2 r3,Zb]
  simp only [decide_true,Zn,Zc]
  rw [plan_part h1s (by omega) (by omega),Zb,hw]
  by_cases hc:i=ps.length-1
  ·rw [bif_t (by omega)]
   have:=hj true rec
   rw [Zt hc]
   exact this
  ·rw [Qa (by omega)]
   have:=hj false rec
   rw [Zf hc]
   exact this
theorem Qd9 (m:Int) {q:Rat} (h:0<=q):0<=rnd m q:=by
 have:=Rat.num_nonneg.2 h
 unfold rnd
 rw [if_neg (by omega)]
 omega
theorem Qjf {a b:Int} (h:0<=a) (h':0<b):0<=Rat.divInt a b:=by
 rw [Rat.divInt_eq_div,Rat.div_def]
 have e1:((0:Int):Rat)<=(a:Rat):=Rat.intCast_le_intCast.2 h
 have e2:((0:Int):Rat)<(b:Rat):=Rat.intCast_lt_intCast.2 h'
 exact Rat.mul_nonneg e1 (Rat.le_of_lt (Rat.inv_pos.2 e2))
theorem Qlp {a r:Rat} {n:Nat} (ha:0<=a) (hr:0<=r) (hn:1<=n):0<=lvl a r n:=by
 by_cases h0:r=0
 ·unfold lvl
  rw [if_pos h0,Rat.div_def]
  have e:((0:Nat):Rat)<=((n:Nat):Rat):=Rat.natCast_le_natCast.2 (Nat.zero_le n)
  have hn0:((0:Nat):Rat)<((n:Nat):Rat):=Rat.natCast_lt_natCast.2 (by omega)
  exact Rat.mul_nonneg ha (Rat.le_of_lt (Rat.inv_pos.2 hn0))
 ·have hpos:0<r:=by grind
  rw [<-Qdl hpos (by omega)]
  have hnum:0<=r.num:=Rat.num_nonneg.2 hr
  have hne:r.num≠0:=λe=>h0 (Rat.num_eq_zero.1 e)
  have hna:0<=a.num:=Rat.num_nonneg.2 ha
  have hlt:r.den^n<(r.num.natAbs+r.den)^n:=Nat.pow_lt_pow_left (by omega) (by omega)
  have h2:0<a.den*r.den:=Nat.mul_pos a.den_pos r.den_pos
  have h3:0<a.den*r.den*((r.num.natAbs+r.den)^n-r.den^n):=Nat.mul_pos h2 (by omega)
  exact Qjf (Int.mul_nonneg (Int.mul_nonneg hna hnum) (by omega)) (by omega)
def W5 (t:Tm):Int:=if t.kind=0 then payN t.mode (mMoney t.p).1 t.r t.every t.count.toNat else if t.kind=1 then Qcz t.mode (mMoney t.p).1 t.count.toNat else 0
theorem Qnv {z:Int} (h:0<=z):(0:Rat)<=(z:Rat):=by
 have e1:((0:Int):Rat)<=(z:Rat):=Rat.intCast_le_intCast.2 h
 exact e1
theorem Qn6 {t:Tm} (h:mCheck t=0) (hc:t.count<=30):0<=W5 t/\sz (W5 t).natAbs<=10000/\z162.F t.p t.r t.kind t.basis t.mode t.y t.m t.d t.every t.count=some (lb (W5 t).natAbs,neg (W5 t),0):=by
 obtain ⟨hk,hcc,_,_⟩:=Ya h
 obtain ⟨k1,k2,k3,k4⟩:=Qcw hk
 have he:=Qbl k4
 obtain ⟨i1,i2,_⟩:=(Qfw t).1 h
 obtain ⟨n,hn⟩:=Wx (show 0<=t.count by omega)
 have hz:=Qad t.p
 have hsz:=Qcr t.p
 have hq:Sq 102 (((mMoney t.p).1:Int):Rat):=Sq.int (by omega) (by decide)
 unfold z162.F
 rw [terms_Money,Zb]
 simp only
 unfold W5
 by_cases c0:t.kind=0
 ·rw [if_pos c0,bif_t c0,hn,Zi,level_Payment hz.1 (by omega) i2 he (by omega) k3,Zb]
  have hb:=Qfi t.r he (n:=n) (by omega)
  refine ⟨Qd9 _ (Qlp (Qnv hz.1) (Qal t.r he.1) (by omega)),?_,rfl⟩
  have:=Qdn t.mode (Qhg (n:=n) hq (Qal t.r he.1) (Qce t.r he) (by omega) (by decide) hb)
  show sz (rnd t.mode (lvl ((mMoney t.p).1:Rat) (perR t.r t.every) n)).natAbs<=10000
  omega
 ·rw [if_neg c0,Qa c0]
  by_cases c1:t.kind=1
  ·rw [if_pos c1,bif_t c1,hn,Zi,level_Part hz.1 (by omega) (by omega) k3,Zb]
   have sn:sz n<=4:=sz_le (by omega)
   refine ⟨Qd9 _ (Qjf hz.1 (by omega)),?_,rfl⟩
   have:=Qdn t.mode (Sq.div (k:=200) (n:=(mMoney t.p).1) (d:=(n:Int)) (by omega) (by omega) (by rw [Int.natAbs_natCast];omega))
   show sz (rnd t.mode (Rat.divInt (mMoney t.p).1 n)).natAbs<=10000
   omega
  ·rw [if_neg c1,Qa c1]
   refine ⟨Int.le_refl _,by show sz 0<=_;rw [Jl];omega,?_⟩
   rw [show Int.natAbs 0=0 from rfl,lb_zero];rfl
theorem Ql9:∀(a:D3) (l:List D3),rightD a->(∀x∈l,rightD x)->(∀j (h:j<l.length),numD (if h0:j=0 then a else l[j-1]'(by omega))<=numD l[j])->okP (pairs a l)
 |a,[],_,_,_=>λp hp=>by simp [pairs] at hp
 |
  a,b::l,ha,hl,hn=>by
  intro p hp
  have hb:=hl b (List.mem_cons_self ..)
  rcases List.mem_cons.1 (show p∈(a,b)::pairs b l from hp) with rfl|hp
  ·exact ⟨ha,hb,hn 0 (by simp)⟩
  ·refine Ql9 b l hb (λx hx=>hl x (List.mem_cons_of_mem _ hx)) (λj hj=>?_) p hp
   have:=hn (j+1) (by simp only [List.length_cons];omega)
   rw [dif_neg (by omega)] at this
   by_cases h0:j=0
   ·subst h0;exact this
   ·rw [dif_neg h0]
    obtain ⟨i,rfl⟩:∃i,j=i+1:=⟨j-1,by omega⟩
    exact this
theorem Qg4 {t:Tm} (h:mCheck t=0):okP t.periods:=by
 have d:=Qs4 h
 refine Ql9 t.start t.dates d.start (λx hx=>?_) (λj hj=>?_)
 ·obtain ⟨i,hi,rfl⟩:=List.getElem_of_mem hx
  exact d.right i hi
 ·by_cases h0:j=0
  ·subst h0
   rw [dif_pos rfl]
   exact Int.le_of_lt (d.first 0 hj)
  ·rw [dif_neg h0]
   exact Int.le_of_lt (d.lt (j-1) j (by omega) hj (by omega))
theorem Qdx (t:Tm):t.periods.length=t.count.toNat:=by
 show (pairs t.start t.dates).length=_
 rw [Qlt,t.dates_len]
def Jg (t:Tm):List Rw:=W0 t (W5 t) (mMoney t.p).1 t.periods
theorem Qna (t:Tm):(Jg t).length=t.count.toNat:=by
 unfold Jg
 rw [Qkv,Qdx]
theorem plan_Build {t:Tm} (h:mCheck t=0) (hc:t.count<=30):z165.F t.p t.r t.kind t.basis t.mode t.y t.m t.d t.every t.count=some ((Jg t).map rwv,0):=by
 obtain ⟨e1,e2,e3⟩:=Qn6 h hc
 have hz:=Qad t.p
 have hl:=Qdx t
 obtain ⟨st,r⟩:=Qi3 h e1 (by omega) (Qg4 h) (by omega) t.periods.length 0 (mMoney t.p).1 [] (Nat.zero_add _) hz.1 hz.2 rfl
 rw [List.drop_zero,List.nil_append] at r
 have er:=r.lfp
 unfold z165.F
 rw [dues_Periods,if_pos h,Zb]
 simp only [decide_true,Zn,Zc]
 rw [e3,Zb]
 simp only [decide_true,Zn,Zc]
 rw [terms_Money,Zb]
 simp only
 refine (congrArg (λo=>Option.bind o _) er).trans ?_
 rfl
theorem Qmm {t:Tm} (h:mCheck t≠0):z165.F t.p t.r t.kind t.basis t.mode t.y t.m t.d t.every t.count=some ([],mCheck t):=by
 unfold z165.F
 rw [dues_Periods,if_neg h,Zb]
 simp only
 rw [Zf h,Zo,Zd]
structure Ro where
 due:D3
 o:List UInt8
 n:List UInt8
 b:List UInt8
 pay:List UInt8
 c:List UInt8
def rov (x:Ro):List V:=[.int .i64 x.due.1,.int .i64 x.due.2.1,.int .i64 x.due.2.2,.str x.o,.str x.n,.str x.b,.str x.pay,.str x.c]
def Rw.ro (x:Rw):Ro:=⟨x.due,itxt x.o,itxt x.n,itxt x.b,itxt x.pay,itxt x.c⟩
theorem Qr7 (l:List Rw):l.map rwv=(l.map Rw.ro).map rov:=by rw [List.map_map];rfl
theorem asO0 {R:Type} (x:Ro) (K:Int->Option R):V.asInt .i64 ((rov x).getD 0 .undef) K=K x.due.1:=by simp [rov,V.asInt]
theorem asO1 {R:Type} (x:Ro) (K:Int->Option R):V.asInt .i64 ((rov x).getD 1 .undef) K=K x.due.2.1:=by simp [rov,V.asInt]
theorem asO2 {R:Type} (x:Ro) (K:Int->Option R):V.asInt .i64 ((rov x).getD 2 .undef) K=K x.due.2.2:=by simp [rov,V.asInt]
theorem asO3 {R:Type} (x:Ro) (K:J1->Option R):V.asStr ((rov x).getD 3 .undef) K=K x.o:=by simp [rov,V.asStr]
theorem asO4 {R:Type} (x:Ro) (K:J1->Option R):V.asStr ((rov x).getD 4 .undef) K=K x.n:=by simp [rov,V.asStr]
theorem asO5 {R:Type} (x:Ro) (K:J1->Option R):V.asStr ((rov x).getD 5 .undef) K=K x.b:=by simp [rov,V.asStr]
theorem asO6 {R:Type} (x:Ro) (K:J1->Option R):V.asStr ((rov x).getD 6 .undef) K=K x.pay:=by simp [rov,V.asStr]
theorem asO7 {R:Type} (x:Ro) (K:J1->Option R):V.asStr ((rov x).getD 7 .undef) K=K x.c:=by simp [rov,V.asStr]
def mSum:Int->Int->List Ro->Int×Int×Int
 |a,b,[]=>(a,b,0)
 |a,b,r::l=>if (mMoney r.n).2≠0 then (0,0,(mMoney r.n).2) else if (mMoney r.b).2≠0 then (0,0,(mMoney r.b).2) else mSum (a+(mMoney r.n).1) (b+(mMoney r.b).1) l
abbrev sumO (S:Int×Int×Int) (x:Int×J0×Bool×J0×Bool):(Int×J0×Bool×J0×Bool)⊕(Int×J0×Bool×J0×Bool×J0×Bool×J0×Bool):=
 if S.2.2=0 then .inl (x.1,lb S.1.natAbs,neg S.1,lb S.2.1.natAbs,neg S.2.1) else .inr (S.2.2,[],false,[],false,x.2)
theorem Qpf {a b:Int} {i:Nat} (h0:0<=a) (h1:a<=10^30*i) (hb0:0<=b) (hb:b<=10^30):0<=a+b/\a+b<=10^30*((i+1:Nat):Int):=by
 have e:(10:Int)^30=1000000000000000000000000000000:=by decide
 rw [e] at *
 omega
theorem Qnw {a:Int} {i:Nat} (h0:0<=a) (h1:a<=10^30*i) (hi:i<=1000000):sz a.natAbs<=40:=sz_le (by
 have e:(10:Int)^30=1000000000000000000000000000000:=by decide
 rw [e] at h1
 have e2:(10:Nat)^40=10000000000000000000000000000000000000000:=by decide
 omega)
theorem Qkp {l:List Ro} (hl:l.length<=1000000):∀(f i:Nat) (a b:Int),i+f=l.length->0<=a->a<=10^30*i->0<=b->b<=10^30*i ->
  ∃x,Runs (λrec x=>z154.l0P (l.map rov) (((l.map rov).length:Nat):Int) rec some x) ((i:Int),lb a.natAbs,neg a,lb b.natAbs,neg b) (sumO (mSum a b (l.drop i)) x)
 |
  0,i,a,b,hf,_,_,_,_=>by
  refine ⟨((i:Int),[],false,[],false),.done λrec=>?_⟩
  rw [List.drop_eq_nil_of_le (by omega)]
  unfold z154.l0P
  simp only
  rw [Qa (by rw [List.length_map];omega)]
  rfl
 |
  f+1,i,a,b,hf,ha0,ha,hb0,hb=>by
  have hi:i<l.length:=by omega
  have ek:wr .i64 ((i:Int)+1)=((i+1:Nat):Int):=by rw [Qc (by omega) (by omega)];rfl
  have hm1:=Qad l[i].n
  have hm2:=Qad l[i].b
  have z1:=Qcr l[i].n
  have z2:=Qcr l[i].b
  have za:=Qnw ha0 ha (by omega)
  have zb:=Qnw hb0 hb (by omega)
  have la:=Qh a.natAbs
  have lb':=Qh b.natAbs
  have l1:=Qh (mMoney l[i].n).1.natAbs
  have l2:=Qh (mMoney l[i].b).1.natAbs
  rw [List.drop_eq_getElem_cons hi]
  have hstep:∀rec:(Int×J0×Bool×J0×Bool)->Option ((Int×J0×Bool×J0×Bool)⊕(Int×J0×Bool×J0×Bool×J0×Bool×J0×Bool)),
    z154.l0P (l.map rov) (((l.map rov).length:Nat):Int) rec some ((i:Int),lb a.natAbs,neg a,lb b.natAbs,neg b) =
     if (mMoney l[i].n).2≠0 then some (.inr ((mMoney l[i].n).2,[],false,[],false,lb a.natAbs,neg a,lb b.natAbs,neg b)) else if (mMoney l[i].b).2≠0 then some (.inr ((mMoney l[i].b).2,[],false,[],false,lb a.natAbs,neg a,lb b.natAbs,neg b))
     else rec (((i+1:Nat):Int),lb (a+(mMoney l[i].n).1).natAbs,neg (a+(mMoney l[i].n).1),lb (b+(mMoney l[i].b).1).natAbs,neg (b+(mMoney l[i].b).1)):=λrec=>by
   unfold z154.l0P
   simp only
   rw [bif_t (by rw [List.length_map];omega),if_pos (by rw [List.length_map];omega),Zi,Qar rov hi]
   simp only [asO0,asO1,asO2,asO3,asO4,asO5,asO6,asO7]
   rw [terms_Money,Zb]
   simp only
   by_cases c1:(mMoney l[i].n).2=0
   ·rw [Zt c1,Zn,Zc,if_neg (λe=>e c1),terms_Money,Zb]
    simp only
    by_cases c2:(mMoney l[i].b).2=0
    ·rw [Zt c2,Zn,Zc,if_neg (λe=>e c2),Qcj (by omega),Zb,Qcj (by omega),Zb,ek]
    ·rw [Zf c2,Zo,Zd,if_pos c2]
   ·rw [Zf c1,Zo,Zd,if_pos c1]
  unfold mSum
  by_cases c1:(mMoney l[i].n).2≠0
  ·refine ⟨((i:Int),lb a.natAbs,neg a,lb b.natAbs,neg b),.done λrec=>?_⟩
   rw [hstep,if_pos c1,if_pos c1]
   show _=some (if (mMoney l[i].n).2=0 then _ else _)
   rw [if_neg c1]
  ·by_cases c2:(mMoney l[i].b).2≠0
   ·refine ⟨((i:Int),lb a.natAbs,neg a,lb b.natAbs,neg b),.done λrec=>?_⟩
    rw [hstep,if_neg c1,if_pos c2,if_neg c1,if_pos c2]
    show _=some (if (mMoney l[i].b).2=0 then _ else _)
    rw [if_neg c2]
   ·obtain ⟨p1,p2⟩:=Qpf ha0 ha hm1.1 hm1.2
    obtain ⟨p3,p4⟩:=Qpf hb0 hb hm2.1 hm2.2
    obtain ⟨x,r⟩:=Qkp hl f (i+1) (a+(mMoney l[i].n).1) (b+(mMoney l[i].b).1) (by omega) p1 p2 p3 p4
    refine ⟨x,?_⟩
    rw [if_neg c1,if_neg c2]
    exact .step (λrec=>by rw [hstep,if_neg c1,if_neg c2]) r
theorem plan_Sum {l:List Ro} (hl:l.length<=1000000):z154.F (l.map rov)=some (lb (mSum 0 0 l).1.natAbs,neg (mSum 0 0 l).1,lb (mSum 0 0 l).2.1.natAbs,neg (mSum 0 0 l).2.1,(mSum 0 0 l).2.2):=by
 obtain ⟨x,r⟩:=Qkp hl l.length 0 0 0 (Nat.zero_add _) (Int.le_refl _) (by decide) (Int.le_refl _) (by decide)
 rw [List.drop_zero] at r
 have er:=r.lfp
 rw [show Int.natAbs 0=0 from rfl,lb_zero] at er
 unfold z154.F
 refine (congrArg (λo=>Option.bind o _) er).trans ?_
 rw [Zb]
 by_cases h:(mSum 0 0 l).2.2=0
 ·unfold sumO
  rw [if_pos h,h]
 ·have hz:∀(l:List Ro) (a b:Int),(mSum a b l).2.2≠0->(mSum a b l).1=0/\(mSum a b l).2.1=0:=by
   intro l
   induction l with
   |nil=>intro a b h;exact absurd rfl h
   |
    cons r l ih=>
    intro a b h
    unfold mSum at h ⊢
    split
    ·exact ⟨rfl,rfl⟩
    ·rename_i c1
     rw [if_neg c1] at h
     split
     ·exact ⟨rfl,rfl⟩
     ·rename_i c2
      rw [if_neg c2] at h
      exact ih _ _ h
  obtain ⟨z1,z2⟩:=hz l 0 0 h
  unfold sumO
  rw [if_neg h,z1,z2,show Int.natAbs 0=0 from rfl,lb_zero]
  rfl
def s17:Tm:=⟨[49,48,48,48,48,48],[49,50],0,0,2,2024,1,1,1,2⟩
theorem Qtk:mCheck s17=0:=by decide +kernel
def r17a:Rw:=⟨(2024,2,1),100000,1000,49751,50751,50249⟩
def r17b:Rw:=⟨(2024,3,1),50249,502,50249,50751,0⟩
theorem Qtc:Jg s17=[r17a,r17b]:=by decide +kernel
theorem Qug:mSum 0 0 ([r17a,r17b].map Rw.ro)=(1502,100000,0):=by decide +kernel
theorem Qj7:z167.F=some true:=by
 have e1:z166.F=some (s17.p,s17.r,s17.kind,s17.basis,s17.mode,s17.y,s17.m,s17.d,s17.every,s17.count):=rfl
 have e2:=plan_Build Qtk (by decide)
 rw [Qtc] at e2
 have e3:=Qmm (t:=Qpr) (by rw [Qmh];decide)
 rw [Qmh] at e3
 have e4:z154.F ([r17a,r17b].map rwv)=some (lb 1502,neg 1502,lb 100000,neg 100000,0):=by
  rw [Qr7,plan_Sum (by decide),Qug];rfl
 have t0:itxt 50751=[53,48,55,53,49]:=by decide +kernel
 have t1:itxt 1000=[49,48,48,48]:=by decide +kernel
 have t2:itxt 0=[48]:=by decide +kernel
 have t3:itxt 100000=[49,48,48,48,48,48]:=by decide +kernel
 have g0:(([r17a,r17b].map rwv).getD 0 [])=rwv r17a:=rfl
 have g1:(([r17a,r17b].map rwv).getD 1 [])=rwv r17b:=rfl
 have p1:z132.F (lb 100000) (neg 100000)=some [49,48,48,48,48,48]:=by
  have h:=Qbh (z:=100000) (Nat.le_trans (sz_le (show Int.natAbs 100000<10^6 by decide)) (by decide))
  rw [t3] at h;exact h
 have p2:z20.F (lb 1502) (neg 1502)=some (cmpI 1502 0):=Yf 1502
 unfold z167.F
 rw [e1,Zb]
 simp only
 rw [e2,Zb]
 refine (congrArg (λo=>Option.bind o _) e3).trans ?_
 rw [Zb]
 simp only [decide_true,Zn,Zc]
 rw [show ((([r17a,r17b].map rwv).length:Nat):Int)=2 from rfl]
 simp only [decide_true,Zn,Zc]
 unfold z167.j4
 simp only
 rw [e4,Zb,if_pos (by decide),g0,g1]
 simp only [asW0,asW1,asW2,asW3,asW4,asW5,asW6,asW7]
 rw [show r17a.pay=50751 from rfl,show r17a.n=1000 from rfl,show r17b.c=0 from rfl,t0,t1,t2]
 simp only [decide_true,Zd]
 rw [if_pos (by decide),if_pos (by decide)]
 rw [p1,Zb]
 simp only [decide_true,Zd]
 rw [p2,Zb]
 rfl
theorem Qrk {t:Tm} (hk:kindsOK t) {z:Int} (hz:sz z.natAbs<=200) {a b:D3} (ha:rightD a) (hb:rightD b) (hab:numD a<=numD b) :
  z153.F (dg z.natAbs) (neg z) t.p t.r t.kind t.basis t.mode t.y t.m t.d t.every t.count a.1 a.2.1 a.2.2 b.1 b.2.1 b.2.2=some (dg (intN t z a b).natAbs,neg (intN t z a b)):=by
 obtain ⟨_,k2,k3,_⟩:=Qcw hk
 have q1:Sq 100 (z:Rat):=Sq.int (by omega) (by decide)
 unfold z153.F
 rw [Qgm,Zb,Qun k2 ha hb hab,Zb,Qkr,Zb,Qcp q1 (J8 t.r) (by decide),Zb,Qcp (q1.mul (J8 t.r)) (Qh8 t.basis ha hb) (by decide),Zb]
 have hw:=Qif k3 (Qig (t:=t) hz ha hb) (by decide)
 unfold intX at hw
 rw [hw,Zb]
 rfl
theorem Qvt {t:Tm} {most:Int} (h:Good t most) (hm:most<=40):mCheck t=0:=by
 have hb:=Qfk h.kinds.2.2.2 (c:=t.count) ⟨h.count.1,by have:=h.count.2;omega⟩
 have hc:=h.count
 have hev:=h.kinds.2.2.2
 exact h.check (by
  have h1:t.every<=12:=by rcases hev with h|h|h|h|h|h<;>omega
  have h2:t.every*t.count<=12*t.count:=Int.mul_le_mul_of_nonneg_right h1 (by omega)
  omega) (by omega)
theorem digits_Pow_any {n t:Nat} (ht:t<=1200) (hs:sz n<=100000):z157.F (lb n) (t:Int)=some (lb (n^t),0)\/z157.F (lb n) (t:Int)=some ([],6):=by
 have l1:=Qh n
 obtain ⟨b,hb,h1,h2⟩:=Qk3 (n:=n) (by omega)
 have hm0:0<=b*(t:Int):=Int.mul_nonneg h1 (by omega)
 have hm1:b*(t:Int)<=64*((lb n).length:Int)*(t:Int):=Int.mul_le_mul_of_nonneg_right h2 (by omega)
 have hm2:64*((lb n).length:Int)*(t:Int)<=64*((lb n).length:Int)*1200:=Int.mul_le_mul_of_nonneg_left (by omega) (by omega)
 have hp:t*sz n<=700000000:=Nat.le_trans (Nat.mul_le_mul ht hs) (by decide)
 unfold z157.F
 rw [Qa (by omega),Qa (by omega),hb,Zb,Qc (by omega) (by omega)]
 by_cases hc:b*(t:Int)>262144
 ·rw [bif_t hc];exact .inr rfl
 ·rw [Qa hc,digits_power (by omega) hp];exact .inl rfl
theorem power_Level_any {a r:Rat} {n:Nat} {k:Nat} (ha:Sq k a) (hk:k<=1000000) (hr:0<=r) (hr':Sq k r) (hn:1<=n/\n<=1200) (hs:sz (r.num.natAbs+r.den)<=136) :
  z159.F (fr a).1 (fr a).2.1 (fr a).2.2 (fr r).1 (fr r).2.1 (fr r).2.2 (n:Int)=some ((fr (lvl a r n)).1,(fr (lvl a r n)).2.1,(fr (lvl a r n)).2.2,0) \/
  z159.F (fr a).1 (fr a).2.1 (fr a).2.2 (fr r).1 (fr r).2.1 (fr r).2.2 (n:Int)=some ([],false,[],6):=by
 have hnum:0<=r.num:=Rat.num_nonneg.2 hr
 unfold z159.F
 rw [Qa (by omega),Zf (by omega)]
 unfold z159.j1
 rw [Zc]
 have es:=Qgi r (fr r).2.2
 rw [es,Zb,Qa (by rw [Wy];omega),Zb]
 by_cases h0:r=0
 ·left
  have hn0:((n:Int):Rat)≠0:=Y0 (n:=n) (by omega)
  have sn:sz n<=4:=sz_le (by omega)
  rw [bif_t (by rw [Jt,h0];rfl),whole_From (by omega),Zb]
  simp only
  rw [frac_From,Zb,Qml ha (Sq.int (k:=4) (z:=(n:Int)) (by rw [Int.natAbs_natCast];omega) (by decide)) hn0 (by omega)]
  have e:lvl a r n=a/((n:Int):Rat):=by unfold lvl;rw [if_pos h0];rfl
  rw [e];rfl
 ·have hpos:0<r:=by grind
  have hne:r.num≠0:=λe=>h0 (Rat.num_eq_zero.1 e)
  have a1:=ha.1;have a2:=ha.2;have r1:=hr'.1;have r2:=hr'.2
  have hden:=r.den_pos
  generalize hu:r.num.natAbs+r.den=u at *
  have hnu:n*sz u<=163200:=Nat.le_trans (Nat.mul_le_mul hn.2 hs) (by decide)
  have lu:=Qh u
  have hvu:sz r.den<=sz u:=Qy (by omega)
  have lv:=Qh r.den
  have hle:r.den^n<=u^n:=Nat.pow_le_pow_left (by omega) n
  have hlt:r.den^n<u^n:=Nat.pow_lt_pow_left (by omega) (by omega)
  have sp:sz (u^n)<=n*sz u:=Qex u (by omega)
  have lp:=Qh (u^n)
  have sl:sz (u^n-r.den^n)<=n*sz u:=Nat.le_trans (Qy (Nat.sub_le _ _)) sp
  have ll:=Qh (u^n-r.den^n)
  have ln:=Qh r.num.natAbs
  have ln2:=Qh a.num.natAbs
  have s1:=W6 a.num r.num
  have l1:=Qh (a.num*r.num).natAbs
  have s2:=W6 (a.num*r.num) ((u^n:Nat):Int)
  have s3:=Q1 a.den r.den
  have l3:=Qh (a.den*r.den)
  have l4:=Qh a.den
  have s4:=Q1 (a.den*r.den) (u^n-r.den^n)
  rw [Qa (by rw [Jt];exact hne)]
  have eD:=Yw r (fr r).1 (fr r).2.1 (by omega)
  rw [eD,Zb,show z134.F (fr r).1 (fr r).2.1 (fr r).2.2=some ((fr r).1,(fr r).2.1) from rfl,Zb]
  simp only
  rw [show z59.F (lb r.num.natAbs) (neg r.num)=some (lb r.num.natAbs) from rfl,Zb,Qaq (by omega),Zb,hu]
  rcases digits_Pow_any (n:=u) hn.2 (by omega) with e1|e1
  ·rcases digits_Pow_any (n:=r.den) hn.2 (by omega) with e2|e2
   ·left
    rw [e1,Zb,e2,Zb]
    simp only [decide_true,Zn,Zc]
    unfold z159.j13
    simp only
    rw [Qc3 (by omega),if_pos hle,Zb,show z134.F (lb a.num.natAbs) (neg a.num) (lb (a.den-1))=some (lb a.num.natAbs,neg a.num) from rfl,Zb,show z134.F (lb r.num.natAbs) (neg r.num) (lb (r.den-1))=some (lb r.num.natAbs,neg r.num) from rfl,Zb]
    simp only
    have m1:=Y9 (x:=a.num) (y:=r.num) (by omega)
    have m2:=Y9 (x:=a.num*r.num) (y:=((u^n:Nat):Int)) (by rw [Int.natAbs_natCast];omega)
    have o1:=Qda (num:=a.num*r.num*((u^n:Nat):Int)) (den:=((a.den*r.den*(u^n-r.den^n):Nat):Int)) (by
     have h1:0<a.den:=a.den_pos
     have h2:0<a.den*r.den:=Nat.mul_pos h1 hden
     have h3:0<a.den*r.den*(u^n-r.den^n):=Nat.mul_pos h2 (by omega)
     omega) (by rw [Int.natAbs_natCast] at s2;omega) (by rw [Int.natAbs_natCast];omega)
    rw [Int.natAbs_natCast] at m2
    rw [Qek] at m2
    rw [Int.natAbs_natCast ((a.den*r.den*(u^n-r.den^n):Nat)),Qek] at o1
    rw [m1,Zb,power_plain,Zb]
    simp only
    rw [m2,Zb,Yw a _ _ (by omega),Zb,Yj (by omega),Zb,Yj (by omega),Zb,power_plain,Zb]
    simp only
    rw [o1,Zb,<-hu,Qdl hpos (by omega)]
   ·right
    rw [e1,Zb,e2,Zb]
    rfl
  ·right
   rw [e1,Zb]
   rcases digits_Pow_any (n:=r.den) hn.2 (by omega) with e2|e2
   ·rw [e2];rfl
   ·rw [e2];rfl
theorem Qnz {a r:Rat} {n k:Nat} (ha:Sq k a) (hr:0<=r) (hr':Sq k r) (hn:1<=n/\n<=1200) (hk:4<=k) (hs:sz (r.num.natAbs+r.den)<=136):Sq (2*k+163300) (lvl a r n):=by
 have a1:=ha.1;have a2:=ha.2;have r1:=hr'.1;have r2:=hr'.2
 by_cases h0:r=0
 ·have sn:sz n<=4:=sz_le (by omega)
  unfold lvl
  rw [if_pos h0]
  have e:a/(n:Rat)=Rat.divInt (a.num) ((a.den*n:Nat):Int):=by
   rw [Rat.divInt_eq_div,Rat.intCast_natCast,Rat.natCast_mul]
   have:=Qc5 a
   have hn0:((n:Nat):Rat)≠0:=Y0 (by omega)
   have had:((a.den:Nat):Rat)≠0:=Y0 (by have:=a.den_pos;omega)
   grind
  rw [e]
  have hm:=Q1 a.den n
  exact Sq.div (by have:=Nat.mul_pos a.den_pos (show 0<n by omega);omega) (by omega) (by rw [Int.natAbs_natCast];omega)
 ·have hpos:0<r:=by grind
  rw [<-Qdl hpos (by omega)]
  have hden:=r.den_pos
  have hnum:0<=r.num:=Rat.num_nonneg.2 hr
  have hne:r.num≠0:=λe=>h0 (Rat.num_eq_zero.1 e)
  generalize hu:r.num.natAbs+r.den=u at *
  have hnu:n*sz u<=163200:=Nat.le_trans (Nat.mul_le_mul hn.2 hs) (by decide)
  have sp:sz (u^n)<=n*sz u:=Qex u (by omega)
  have sl:sz (u^n-r.den^n)<=n*sz u:=Nat.le_trans (Qy (Nat.sub_le _ _)) sp
  have hlt:r.den^n<u^n:=Nat.pow_lt_pow_left (by omega) (by omega)
  have s1:=W6 a.num r.num
  have s2:=W6 (a.num*r.num) ((u^n:Nat):Int)
  have s3:=Q1 a.den r.den
  have s4:=Q1 (a.den*r.den) (u^n-r.den^n)
  rw [Int.natAbs_natCast] at s2
  refine Sq.div ?_ (by omega) (by rw [Int.natAbs_natCast];omega)
  have h1:0<a.den:=a.den_pos
  have h2:0<a.den*r.den:=Nat.mul_pos h1 hden
  have h3:0<a.den*r.den*(u^n-r.den^n):=Nat.mul_pos h2 (by omega)
  omega
theorem each_any {t:Tm} (h:mCheck t=0):(0<=W5 t/\sz (W5 t).natAbs<=10000000/\z162.F t.p t.r t.kind t.basis t.mode t.y t.m t.d t.every t.count=some (lb (W5 t).natAbs,neg (W5 t),0)) \/
  ∃e:Int,e≠0/\z162.F t.p t.r t.kind t.basis t.mode t.y t.m t.d t.every t.count=some ([],false,e):=by
 obtain ⟨hk,hcc,_,_⟩:=Ya h
 obtain ⟨k1,k2,k3,k4⟩:=Qcw hk
 have he:=Qbl k4
 obtain ⟨i1,i2,_⟩:=(Qfw t).1 h
 obtain ⟨n,hn⟩:=Wx (show 0<=t.count by omega)
 have hz:=Qad t.p
 have hsz:=Qcr t.p
 have hq:Sq 102 (((mMoney t.p).1:Int):Rat):=Sq.int (by omega) (by decide)
 have hbits:=Qfi t.r he (n:=30) (Nat.le_refl _)
 have hs:sz ((perR t.r t.every).num.natAbs+(perR t.r t.every).den)<=136:=by omega
 have hr0:=Qal t.r he.1
 have hrS:=Qce t.r he
 unfold z162.F
 rw [terms_Money,Zb]
 simp only
 unfold W5
 by_cases c0:t.kind=0
 ·rw [if_pos c0,bif_t c0,hn,Zi]
  unfold z160.F
  rw [level_Rate i2 he,Zb]
  simp only [decide_true,Zn,Zc]
  rw [Yf,Zb,Qa (by rw [Wy];omega),frac_From,Zb]
  rcases power_Level_any (n:=n) hq (by decide) hr0 hrS (by omega) (by omega) with e|e
  ·left
   rw [e,Zb]
   simp only [decide_true,Zn,Zc]
   rw [round_Whole k3 (Qnz (n:=n) hq hr0 hrS (by omega) (by decide) (by omega)) (by decide),Zb]
   refine ⟨Qd9 _ (Qlp (Qnv hz.1) hr0 (by omega)),?_,rfl⟩
   have:=Qdn t.mode (Qnz (n:=n) hq hr0 hrS (by omega) (by decide) (by omega))
   show sz (rnd t.mode (lvl ((mMoney t.p).1:Rat) (perR t.r t.every) n)).natAbs<=10000000
   omega
  ·right
   rw [e,Zb]
   exact ⟨6,by decide,rfl⟩
 ·left
  rw [if_neg c0,Qa c0]
  by_cases c1:t.kind=1
  ·rw [if_pos c1,bif_t c1,hn,Zi,level_Part hz.1 (by omega) (by omega) k3,Zb]
   have sn:sz n<=4:=sz_le (by omega)
   refine ⟨Qd9 _ (Qjf hz.1 (by omega)),?_,rfl⟩
   have:=Qdn t.mode (Sq.div (k:=200) (n:=(mMoney t.p).1) (d:=(n:Int)) (by omega) (by omega) (by rw [Int.natAbs_natCast];omega))
   show sz (rnd t.mode (Rat.divInt (mMoney t.p).1 n)).natAbs<=10000000
   omega
  ·rw [if_neg c1,Qa c1]
   refine ⟨Int.le_refl _,by show sz 0<=_;rw [Jl];omega,?_⟩
   rw [show Int.natAbs 0=0 from rfl,lb_zero];rfl
theorem Qsi {t:Tm} (h:mCheck t=0):∃r,z165.F t.p t.r t.kind t.basis t.mode t.y t.m t.d t.every t.count=some r:=by
 obtain ⟨hk,hcc,_,_⟩:=Ya h
 have hz:=Qad t.p
 have hl:=Qdx t
 unfold z165.F
 rw [dues_Periods,if_pos h,Zb]
 simp only [decide_true,Zn,Zc]
 rcases each_any h with ⟨e1,e2,e3⟩|⟨e,e0,e3⟩
 ·obtain ⟨st,r⟩:=Qi3 h e1 e2 (Qg4 h) (by omega) t.periods.length 0 (mMoney t.p).1 [] (Nat.zero_add _) hz.1 hz.2 rfl
  have er:=r.lfp
  rw [e3,Zb]
  simp only [decide_true,Zn,Zc]
  rw [terms_Money,Zb]
  simp only
  exact ⟨_,(congrArg (λo=>Option.bind o _) er).trans rfl⟩
 ·rw [e3,Zb]
  simp only
  rw [Zf e0,Zo,Zd]
  exact ⟨_,rfl⟩
theorem Qwk (q:Rat):z171.F (rf q).1 (rf q).2.1 (rf q).2.2=some (rf (-q)):=by
 unfold z171.F
 rw [Qgv,Zb]
 rfl
theorem Qqq {k j:Nat} {q r:Rat} (hq:Sq k q) (hr:Sq j r) (hs:k+j<=10000000):z172.F (rf q).1 (rf q).2.1 (rf q).2.2 (rf r).1 (rf r).2.1 (rf r).2.2=some (rf (q-r)):=by
 unfold z172.F
 rw [Qwk,Zb,Qhs hq hr.neg hs,Zb,<-Rat.sub_eq_add_neg]
theorem Sq.one:Sq 1 1:=Sq.int (z:=1) (by have:=sz_le (show Int.natAbs 1<10^1 by decide);omega) (Nat.le_refl _)
theorem Sq.pow {k:Nat} {q:Rat} (h:Sq k q):∀n:Nat,Sq (n*k+1) (q^n)
 |0=>by rw [Rat.pow_zero];exact Sq.one.mono (by omega)
 |n+1=>by rw [Rat.pow_succ];exact ((Sq.pow h n).mul h).mono (by rw [Nat.succ_mul];omega)
theorem Sq.inv {k:Nat} {g:Rat} (h:Sq k g) (h0:0<g.num):Sq (2*k) (1/g):=by
 have e:1/g=Rat.divInt g.den g.num:=by
  rw [Rat.div_def,Rat.one_mul,Rat.inv_def]
 have h1:=h.1;have h2:=h.2
 rw [e]
 exact Sq.div h0 (by rw [Int.natAbs_natCast];omega) (by omega)
theorem Qh4 (a:Int):Rat.divInt a 1=(a:Rat):=by
 rw [Rat.divInt_eq_div]
 have e:((1:Int):Rat)=1:=rfl
 rw [e]
 grind
theorem Qv9 {q:Rat} {k n:Nat} (hq:Sq k q) (hs:n*k+k+1<=10000000) (hn:n<=1000000):z170.F (rf q).1 (rf q).2.1 (rf q).2.2 (n:Int)=some (rf (q^n)):=by
 have key:∀(f i:Nat),i+f=n->Runs (λrec x=>z170.l0P (n:Int) (rf q).1 (rf q).2.1 (rf q).2.2 rec some x) ((i:Int),rf (q^i)) ((n:Int),rf (q^n)):=by
  intro f
  induction f with
  |
   zero=>
   intro i hi
   have hi:i=n:=by omega
   subst hi
   refine .done λrec=>?_
   unfold z170.l0P
   simp only
   rw [Qa (by omega)]
  |
   succ f ih=>
   intro i hi
   have ek:wr .i64 ((i:Int)+1)=((i+1:Nat):Int):=by rw [Qc (by omega) (by omega)];rfl
   have hm:i*k<=n*k:=Nat.mul_le_mul_right k (by omega)
   refine .step (λrec=>?_) (ih (i+1) (by omega))
   unfold z170.l0P
   simp only
   rw [bif_t (by omega),Qcp (hq.pow i) hq (by omega),Zb,ek,Rat.pow_succ]
 have r:=(key n 0 (Nat.zero_add _)).lfp
 rw [Rat.pow_zero] at r
 unfold z170.F
 rw [Yi (by decide) (by decide) (by decide),Zb,Qh4]
 refine (congrArg (λo=>Option.bind o _) r).trans ?_
 rfl
theorem Qj2 {v:Rat} (hv:1<v):∀n:Nat,1<v^(n+1)
 |0=>by rw [Rat.pow_succ,Rat.pow_zero,Rat.one_mul];exact hv
 |
  n+1=>by
  have h:=Qj2 hv n
  rw [Rat.pow_succ]
  generalize v^(n+1)=x at *
  have h1:0<x*(v-1):=Rat.mul_pos (by grind) (by grind)
  grind
theorem Qrh {a r:Rat} {n:Nat} {k:Nat} (ha:Sq k a) (hr:0<=r) (hr':Sq k r) (hn:1<=n/\n<=30) (hk:1<=k/\k<=1000):z173.F (rf a).1 (rf a).2.1 (rf a).2.2 (rf r).1 (rf r).2.1 (rf r).2.2 (n:Int)=some (rf (lvl a r n)):=by
 have a1:=ha.1;have a2:=ha.2;have r1:=hr'.1;have r2:=hr'.2
 unfold z173.F
 by_cases h0:r=0
 ·have hn0:((n:Int):Rat)≠0:=Y0 (n:=n) (by omega)
  have sn:sz n<=4:=sz_le (by omega)
  have s1:sz 1<=1:=sz_le (by decide)
  rw [bif_t ((dg_len0 _).2 (by rw [h0];rfl)),Yi (by omega) (by decide) (by decide),Zb,Qh4]
  rw [Qfh hn0 (by show sz a.num.natAbs+sz 1<=_;omega) (by show sz (Int.natAbs (n:Int))+sz a.den<=_;rw [Int.natAbs_natCast];omega),Zb]
  have e:lvl a r n=a/((n:Int):Rat):=by unfold lvl;rw [if_pos h0];rfl
  rw [e]
 ·have hpos:0<r:=by grind
  have hnum:0<=r.num:=Rat.num_nonneg.2 hr
  have hne:r.num≠0:=λe=>h0 (Rat.num_eq_zero.1 e)
  rw [Qa (λe=>by have:=(dg_len0 _).1 e;omega)]
  have g1:1<1+r:=by grind
  have hg0:1+r≠0:=by grind
  have sg:Sq (1+k+1) (1+r):=Sq.one.add hr'
  have hgn:0<(1+r).num:=by
   have h1:0<=(1+r).num:=Rat.num_nonneg.2 (by grind)
   have h2:(1+r).num≠0:=λe=>hg0 (Rat.num_eq_zero.1 e)
   omega
  have sb:Sq (2*(1+k+1)) (1/(1+r)):=sg.inv hgn
  have hm:n*(2*(1+k+1))<=30*(2*(1+k+1)):=Nat.mul_le_mul_right _ hn.2
  have sp:Sq (n*(2*(1+k+1))+1) ((1/(1+r))^n):=sb.pow n
  have sd:Sq (1+(n*(2*(1+k+1))+1)+1) (1-(1/(1+r))^n):=by rw [Rat.sub_eq_add_neg];exact Sq.one.add sp.neg
  have sm:Sq (k+k) (a*r):=ha.mul hr'
  have hG:1<(1+r)^n:=by
   obtain ⟨j,rfl⟩:∃j,n=j+1:=⟨n-1,by omega⟩
   exact Qj2 g1 j
  have ep:(1/(1+r))^n=1/(1+r)^n:=by
   have h:=(Qht 1 (1+r) hg0 n).2
   have o:∀m:Nat,(1:Rat)^m=1:=λm=>by
    induction m with
    |zero=>exact Rat.pow_zero _
    |succ m ih=>rw [Rat.pow_succ,ih,Rat.one_mul]
   rw [o] at h
   exact h
  have hd0:1-(1/(1+r))^n≠0:=by
   rw [ep]
   generalize (1+r)^n=G at *
   intro h
   have:1/G*G=1:=Rat.div_mul_cancel (by grind)
   grind
  have q1:=sm.1;have q2:=sm.2;have d1:=sd.1;have d2:=sd.2
  rw [Yi (by decide) (by decide) (by decide),Zb,Qh4]
  rw [show ((1:Int):Rat)=1 from rfl,Qhs Sq.one hr' (by omega),Zb]
  have s1:=Sq.one.1;have s1':=Sq.one.2;have sg1:=sg.1;have sg2:=sg.2
  rw [Qfh hg0 (by omega) (by omega),Zb,Qv9 sb (by omega) (by omega),Zb,Qqq Sq.one sp (by omega),Zb,Qcp ha hr' (by omega),Zb,Qfh hd0 (by omega) (by omega),Zb]
  have e:a*r/(1-(1/(1+r))^n)=lvl a r n:=by
   unfold lvl
   rw [if_neg h0,ep]
   have hz:1-(1/(1+r))^n≠0:=hd0
   rw [ep] at hz
   generalize (1+r)^n=G at *
   have hG0:G≠0:=by grind
   have hG1:G-1≠0:=by grind
   have e1:1-1/G=(G-1)/G:=by grind
   rw [e1]
   grind
  rw [e]
theorem Qwb {s:J1} {e:Int} (h:(mRate s).2=0) (he:1<=e/\e<=12):z169.F s e=some ((rf (perR s e)).1,(rf (perR s e)).2.1,(rf (perR s e)).2.2,0):=by
 unfold z169.F
 rw [Yi (by decide) (by decide) (by decide),Zb,Qgm,Zb,h]
 simp only [decide_true,Zn,Zc]
 rw [Qa (by omega),Qa (by omega)]
 unfold z169.j3
 rw [Yi (by omega) (by decide) (by decide),Zb]
 simp only
 have hm:=Qcp (J8 s) (Qf3 he) (by decide)
 simp only at hm
 rw [hm,Zb]
 rfl
theorem Quk {a:Int} {s:J1} {e m:Int} {n:Nat} (ha:0<=a) (hz:sz a.natAbs<=200) (h:(mRate s).2=0) (he:1<=e/\e<=12) (hn:1<=n/\n<=30) (hm:0<=m/\m<=4) :
  z174.F (dg a.natAbs) (neg a) s e (n:Int) m=some (dg (payN m a s e n).natAbs,neg (payN m a s e n),0):=by
 have hq:Sq 102 (a:Rat):=Sq.int (by omega) (by decide)
 have hb:=Qfi s he hn.2
 unfold z174.F
 rw [W2 (by decide),Zb,Qwb h he,Zb]
 simp only [decide_true,Zn,Zc]
 rw [Qa (by omega),Qa (by omega),Qa (by omega)]
 unfold z174.j3
 rw [Qa (by omega),Qa (by omega)]
 unfold z174.j4
 rw [Qkr,Zb]
 have hl:=Qrh hq (Qal s he.1) (Qce s he) hn (by decide)
 simp only at hl ⊢
 rw [hl,Zb]
 have hw:=Qif hm (Qhg hq (Qal s he.1) (Qce s he) hn.1 (by decide) hb) (by decide)
 simp only at hw ⊢
 rw [hw,Zb]
 rfl
theorem Quo {a:Int} {m:Int} {n:Nat} (ha:0<=a) (hz:sz a.natAbs<=200) (hn:1<=n/\n<=1200) (hm:0<=m/\m<=4):z175.F (dg a.natAbs) (neg a) (n:Int) m=some (dg (Qcz m a n).natAbs,neg (Qcz m a n),0):=by
 have sn:sz n<=4:=sz_le (by omega)
 unfold z175.F
 rw [W2 (by decide),Zb,Qa (by omega),Qa (by omega),Qa (by omega),Qa (by omega),Qa (by omega)]
 unfold z175.j2
 rw [W2 (by omega),Zb]
 simp only
 rw [Qh0 (by omega) (by omega) (by rw [Int.natAbs_natCast];omega),Zb]
 have hw:=Qif hm (Sq.div (k:=200) (n:=a) (d:=(n:Int)) (by omega) (by omega) (by rw [Int.natAbs_natCast];omega)) (by decide)
 simp only at hw ⊢
 rw [hw,Zb]
 rfl
theorem Qng {ps:List (D3×D3)} {i:Nat} (hi:i<ps.length) (hl:ps.length<=1200) {s:List Rw} (hs:s.length=i) {z n b:Int} (hz:sz z.natAbs<=100) (hn:sz n.natAbs<=500) (hb:sz b.natAbs<=100)
  (rec:(Int×J0×Bool×J2)->Option (Int×J0×Bool×J2)) :
  z176.j6085a rec some (dg z.natAbs) (neg z) (dg b.natAbs) (neg b) (dg n.natAbs,neg n) (i:Int) (ps.map pv) (s.map rwv)=rec (((i+1:Nat):Int),dg (z-b).natAbs,neg (z-b),(s++[(⟨ps[i].2,z,n,b,n+b,z-b⟩:Rw)]).map rwv):=by
 have ek:wr .i64 ((i:Int)+1)=((i+1:Nat):Int):=by rw [Qc (by omega) (by omega)];rfl
 have l1:=Qo z.natAbs
 have l2:=Qo b.natAbs
 have l3:=Qo n.natAbs
 have sp:=Qa6 n b
 have sc:=Qa6 z (-b)
 rw [Int.natAbs_neg,<-Int.sub_eq_add_neg] at sc
 unfold z176.j6085a
 rw [Qgs (by omega),Zb]
 simp only
 rw [Qiq (by omega),Zb,if_pos (by rw [List.length_map];omega),Zi,Qar pv hi]
 simp only [asP0,asP1,asP2,asP3,asP4,asP5]
 rw [Qc7 (by omega),Zb,Qc7 (by omega),Zb,Qc7 (by omega),Zb,Qc7 (by omega),Zb,Qc7 (by omega),Zb]
 rw [if_pos (by simp only [List.length_map,List.length_cons,List.length_nil];omega),ek,List.map_append]
 rfl
theorem Qxt {ps:List (D3×D3)} {i:Nat} (hi:i<ps.length) (hl:ps.length<=1200) {s:List Rw} (hs:s.length=i) {z n x:Int} (hz:sz z.natAbs<=100) (hn:sz n.natAbs<=500) (hx:sz x.natAbs<=20000)
  (rec:(Int×J0×Bool×J2)->Option (Int×J0×Bool×J2)) (b:Int) (hb0:0<=b/\b<=z) (hb:b=if i=ps.length-1 then z else less x z) :
  z176.j6069a rec some (dg x.natAbs) (neg x) (dg z.natAbs) (neg z) (dg n.natAbs,neg n) (i:Int) (ps.map pv) (s.map rwv)=rec (((i+1:Nat):Int),dg (z-b).natAbs,neg (z-b),(s++[(⟨ps[i].2,z,n,b,n+b,z-b⟩:Rw)]).map rwv):=by
 have l1:=Qo z.natAbs
 have l2:=Qo x.natAbs
 have hw:wr .i64 ((((ps.map pv).length:Nat):Int)-1)=((ps.length-1:Nat):Int):=by rw [List.length_map,Qc (by omega) (by omega)];omega
 have sb:sz b.natAbs<=100:=Nat.le_trans (Qy (by omega)) hz
 have kz:=Qng hi hl hs hz hn hz rec
 have kb:=Qng hi hl hs hz hn sb rec
 unfold z176.j6069a
 rw [Qhx (by omega),Zb]
 by_cases c:z<x
 ·have e:b=z:=by unfold less at hb;split at hb<;>(try split at hb)<;>omega
  rw [e,bif_t (Wv.2 c)]
  unfold z176.j6085a at kz
  exact kz
 ·rw [Qa (λe=>c (Wv.1 e)),hw]
  by_cases hc:i=ps.length-1
  ·rw [bif_t (by omega)]
   have e:b=z:=by rw [hb,if_pos hc]
   rw [e];exact kz
  ·rw [Qa (by omega)]
   have e:b=x:=by rw [hb,if_neg hc];unfold less;split<;>omega
   rw [<-e];exact kb
theorem Qrp:@z176.j6101a=@z176.j6069a:=rfl
theorem Ql5 {t:Tm} (h:mCheck t=0) {one:Int} (h1:0<=one) (h1s:sz one.natAbs<=10000) {ps:List (D3×D3)} (hp:okP ps) (hl:ps.length<=1200):∀(f i:Nat) (z:Int) (s:List Rw),i+f=ps.length->0<=z->z<=10^30->s.length=i ->
  ∃st:Int×J0×Bool,Runs (λrec x=>z176.l0b5P (ps.map pv) t.p t.r t.kind t.basis t.mode t.y t.m t.d t.every t.count (dg one.natAbs) (neg one) rec some x) ((i:Int),dg z.natAbs,neg z,s.map rwv) (st.1,st.2.1,st.2.2,(s++W0 t one z (ps.drop i)).map rwv)
 |
  0,i,z,s,hf,hz,hz',hs=>by
  refine ⟨((i:Int),dg z.natAbs,neg z),.done λrec=>?_⟩
  rw [List.drop_eq_nil_of_le (by omega)]
  have ea:s++W0 t one z []=s:=List.append_nil s
  rw [ea]
  unfold z176.l0b5P
  simp only
  rw [Qa (by rw [List.length_map];omega)]
 |
  f+1,i,z,s,hf,hz,hz',hs=>by
  have hi:i<ps.length:=by omega
  obtain ⟨hk,_,_,_⟩:=Ya h
  obtain ⟨r1,r2,r3⟩:=hp ps[i] (List.getElem_mem hi)
  have s0:=Qeq hz hz'
  have sn:=Qm6 (t:=t) (z:=z) (by omega) r1 r2
  have hdrop:ps.drop i=ps[i]::ps.drop (i+1):=List.drop_eq_getElem_cons hi
  have hlast:decide (ps.drop (i+1)=[])=decide (i=ps.length-1):=by
   apply decide_eq_decide.2
   rw [List.drop_eq_nil_iff];omega
  have hb:=Qaj (t:=t) (p:=ps[i]) (last:=decide (i=ps.length-1)) h1 hz
  obtain ⟨st,r⟩:=Ql5 h h1 h1s hp hl f (i+1) (mRow t one z ps[i] (decide (i=ps.length-1))).c (s++[mRow t one z ps[i] (decide (i=ps.length-1))]) (by omega) hb.1 (by have:=hb.2.1;omega) (by rw [List.length_append,List.length_singleton];omega)
  refine ⟨st,?_⟩
  have hm:W0 t one z (ps.drop i)=mRow t one z ps[i] (decide (i=ps.length-1))::W0 t one (mRow t one z ps[i] (decide (i=ps.length-1))).c (ps.drop (i+1)):=by
   rw [hdrop]
   show mRow t one z ps[i] (decide (ps.drop (i+1)=[]))::W0 t one (mRow t one z ps[i] (decide (ps.drop (i+1)=[]))).c (ps.drop (i+1))=_
   rw [hlast]
  rw [hm,List.append_cons]
  refine .step (λrec=>?_) r
  have ebk:∀x:Int,(∀w,less x z=w->Wh t.kind one z (intN t z ps[i].1 ps[i].2)=w)->(mRow t one z ps[i] (decide (i=ps.length-1))).b=if i=ps.length-1 then z else less x z:=λx hx=>by
   show (if decide (i=ps.length-1)=true then z else Wh t.kind one z (intN t z ps[i].1 ps[i].2))=_
   rw [hx _ rfl]
   by_cases c:i=ps.length-1
   ·rw [if_pos c,if_pos (Zt c)]
   ·rw [if_neg c,if_neg (by rw [Zf c];decide)]
  have fin:∀x:Int,sz x.natAbs<=20000->(∀w,less x z=w->Wh t.kind one z (intN t z ps[i].1 ps[i].2)=w)->z176.j6069a rec some (dg x.natAbs) (neg x) (dg z.natAbs) (neg z) (dg (intN t z ps[i].1 ps[i].2).natAbs,neg (intN t z ps[i].1 ps[i].2)) (i:Int) (ps.map pv) (s.map rwv) =
    rec (((i+1:Nat):Int),dg (mRow t one z ps[i] (decide (i=ps.length-1))).c.natAbs,neg (mRow t one z ps[i] (decide (i=ps.length-1))).c,(s++[mRow t one z ps[i] (decide (i=ps.length-1))]).map rwv):=λx hx hw=>
   Qxt hi hl hs (by omega) (by omega) hx rec (mRow t one z ps[i] (decide (i=ps.length-1))).b ⟨hb.2.2.1,hb.2.2.2⟩ (ebk x hw)
  have sx:=Qa6 one (-(intN t z ps[i].1 ps[i].2))
  rw [Int.natAbs_neg,<-Int.sub_eq_add_neg] at sx
  have l1:=Qo one.natAbs
  have l2:=Qo (intN t z ps[i].1 ps[i].2).natAbs
  have z0:sz (Int.natAbs 0)<=20000:=by show sz 0<=_;rw [Jl];omega
  unfold z176.l0b5P
  simp only
  rw [bif_t (by rw [List.length_map];omega),if_pos (by rw [List.length_map];omega),Zi,Qar pv hi]
  simp only [asP0,asP1,asP2,asP3,asP4,asP5]
  rw [if_pos (by rw [List.length_map];omega),Qrk hk (by omega) r1 r2 r3,Zb]
  by_cases hk0:t.kind=0
  ·rw [bif_t hk0]
   simp only
   rw [Qgs (by omega),Zb]
   simp only
   by_cases c:one-intN t z ps[i].1 ps[i].2<0
   ·rw [bif_t c,W2 (by decide),Zb]
    refine fin 0 z0 λw hw=>?_
    unfold Wh
    rw [if_pos hk0,if_pos c,<-hw]
    unfold less
    split<;>omega
   ·rw [Qa c]
    refine fin _ (by omega) λw hw=>?_
    unfold Wh
    rw [if_pos hk0,if_neg c,hw]
  ·rw [Qa hk0,Qa (by omega),Qrp]
   refine fin one (by omega) λw hw=>?_
   unfold Wh
   rw [if_neg hk0,hw]
theorem Qol {t:Tm} (hp:t.p.length<=1000000) (h:mCheck t=0) (hc:t.count<=30):z176.F t.p t.r t.kind t.basis t.mode t.y t.m t.d t.every t.count=some ((Jg t).map rwv):=by
 obtain ⟨e1,e2,_⟩:=Qn6 h hc
 have hz:=Qad t.p
 have hsz:=Qcr t.p
 have hl:=Qdx t
 obtain ⟨hk,hcc,_,_⟩:=Ya h
 obtain ⟨k1,k2,k3,k4⟩:=Qcw hk
 have he:=Qbl k4
 obtain ⟨i1,i2,_⟩:=(Qfw t).1 h
 obtain ⟨st,r⟩:=Ql5 h e1 e2 (Qg4 h) (by omega) t.periods.length 0 (mMoney t.p).1 [] (Nat.zero_add _) hz.1 hz.2 rfl
 rw [List.drop_zero,List.nil_append] at r
 have er:=r.lfp
 have hj:∀one':Int,one'=W5 t->z176.j13 (t.periods.map pv) t.p t.r t.kind t.basis t.mode t.y t.m t.d t.every t.count (dg one'.natAbs) (neg one') (wr4 (mMoney t.p))=some ((Jg t).map rwv):=λone' ho=>by
  rw [ho]
  unfold z176.j13
  refine (congrArg (λo=>Option.bind o _) er).trans ?_
  rfl
 have hj':@z176.j17=@z176.j13:=rfl
 obtain ⟨n,hn⟩:=Wx (show 0<=t.count by omega)
 unfold z176.F
 rw [Qrx hp h,Zb,Qm2 _ hp,Zb,W2 (by decide),Zb]
 unfold W5 at hj
 by_cases c0:t.kind=0
 ·rw [bif_t c0]
  rw [if_pos c0] at hj
  have hpay:=Quk (a:=(mMoney t.p).1) (s:=t.r) (e:=t.every) (m:=t.mode) (n:=t.count.toNat) hz.1 (by omega) i2 he (by omega) k3
  rw [show ((t.count.toNat:Nat):Int)=t.count by omega] at hpay
  rw [hpay,Zb,Qa (by omega)]
  exact hj _ rfl
 ·rw [Qa c0]
  rw [if_neg c0] at hj
  by_cases c1:t.kind=1
  ·rw [bif_t c1]
   rw [if_pos c1] at hj
   have hpart:=Quo (a:=(mMoney t.p).1) (m:=t.mode) (n:=t.count.toNat) hz.1 (by omega) (by omega) k3
   rw [show ((t.count.toNat:Nat):Int)=t.count by omega] at hpart
   rw [hpart,Zb,hj']
   exact hj _ rfl
  ·rw [Qa c1,hj']
   rw [if_neg c1] at hj
   exact hj 0 rfl
theorem Ql2 {l:List Rw} (hl:l.length<=2000):z168.F (l.map rwv) (l.map rwv)=some true:=by
 have key:∀(f i:Nat),i+f=l.length->Runs (λrec x=>z168.l0P (l.map rwv) (l.map rwv) (((l.map rwv).length:Nat):Int) rec some x) (i:Int) (.inl ((l.length:Nat):Int)):=by
  intro f
  induction f with
  |
   zero=>
   intro i hi
   refine .done λrec=>?_
   unfold z168.l0P
   rw [Qa (by rw [List.length_map];omega)]
   have:(i:Int)=((l.length:Nat):Int):=by omega
   rw [this]
  |
   succ f ih=>
   intro i hi
   have hi':i<l.length:=by omega
   have ek:wr .i64 ((i:Int)+1)=((i+1:Nat):Int):=by rw [Qc (by omega) (by omega)];rfl
   refine .step (λrec=>?_) (ih (i+1) (by omega))
   unfold z168.l0P
   rw [bif_t (by rw [List.length_map];omega),if_pos (by rw [List.length_map];omega),Zi,Qar rwv hi']
   simp only [asW0,asW1,asW2,asW3,asW4,asW5,asW6,asW7]
   rw [if_pos (by rw [List.length_map];omega)]
   simp only [decide_true,Bool.and_true,Zn,Zc]
   rw [ek]
 have r:=(key l.length 0 (Nat.zero_add _)).lfp
 unfold z168.F
 rw [Zt rfl,Zn,Zc]
 refine (congrArg (λo=>Option.bind o _) r).trans ?_
 rfl
theorem Quh {x:Tm} (hx:mCheck x=0) (hc:x.count<=30) (hp:x.p.length<=1000000):z177.j10 ((Jg x).map rwv,0) (x.p,x.r,x.kind,x.basis,x.mode,x.y,x.m,x.d,x.every,x.count)=some true:=by
 have hl:=Qna x
 unfold z177.j10
 rw [Qj7,Zb,Zd]
 simp only [decide_true,Zd]
 rw [Qol hp hx hc,Zb,Ql2 (by omega)]
 rfl
theorem Qww {x:Tm} (hx:mCheck x=0) (hcx:x.count<=30) (hpx:x.p.length<=1000000) {a12 a13:J1} {T:Tm} (e12:a12.take ((if (100:Int)<(a12.length:Int) then (100:Int) else (a12.length:Int)).toNat)=T.p) (e13:a13.take ((if (100:Int)<(a13.length:Int) then (100:Int) else (a13.length:Int)).toNat)=T.r) (hlen:T.p.length<=1000000) :
  ((z165.F (a12.take ((if (100:Int)<(a12.length:Int) then (100:Int) else (a12.length:Int)).toNat)) (a13.take ((if (100:Int)<(a13.length:Int) then (100:Int) else (a13.length:Int)).toNat)) T.kind T.basis T.mode T.y T.m T.d T.every T.count).bind λr3=>((z126.F (a12.take ((if (100:Int)<(a12.length:Int) then (100:Int) else (a12.length:Int)).toNat)) (a13.take ((if (100:Int)<(a13.length:Int) then (100:Int) else (a13.length:Int)).toNat)) T.kind T.basis T.mode T.y T.m T.d T.every T.count).bind λr4=>(bif (decide (r4=(0:Int))) then (bif (decide (T.count>(14:Int))) then (z167.F.bind λr7=>(some r7)) else (z177.j7 r3 r4 a12 a13 T.kind T.basis T.mode T.y T.m T.d T.every T.count ((Jg x).map rwv,0) (x.p,x.r,x.kind,x.basis,x.mode,x.y,x.m,x.d,x.every,x.count)))
   else (z177.j7 r3 r4 a12 a13 T.kind T.basis T.mode T.y T.m T.d T.every T.count ((Jg x).map rwv,0) (x.p,x.r,x.kind,x.basis,x.mode,x.y,x.m,x.d,x.every,x.count)))))=some true:=by
 have hj:=Quh hx hcx hpx
 unfold z177.j7
 rw [e12,e13,Qkw T hlen]
 by_cases hc:mCheck T=0
 ·by_cases h14:T.count>14
  ·obtain ⟨r3,hr⟩:=Qsi hc
   rw [hr,Zb,Zb,bif_t hc,bif_t h14,Qj7]
   rfl
  ·rw [plan_Build hc (by omega),Zb,Zb,bif_t hc,Qa h14,hc]
   have hl:=Qna T
   simp only [decide_true,Zn,Zc,Zd]
   rw [Qol hlen hc (by omega),Zb,Ql2 (by omega),Zb]
   exact hj
 ·rw [Qmm hc,Zb,Zb,Qa hc]
  simp only [decide_true,Zn,Zo,Zc,Zd]
  rw [Zf hc]
  simp only [Zn,Zo,Zc,Zd]
  rw [Qa (by decide)]
  exact hj
theorem Qq3 {a0 a1 a2 a3 a4 a5 a6 a7 a8 a9 a10 a11:Int} {a12 a13:J1} {a14 a15 a16 a17 a18 a19 a20 a21:Int} (h0:(Lit.int .u64 a0).wf=true) (h1:(Lit.int .u16 a1).wf=true) (h2:(Lit.int .u32 a2).wf=true) (h3:(Lit.int .u8 a3).wf=true) (h4:(Lit.int .u8 a4).wf=true) (h5:(Lit.int .u8 a5).wf=true)
  (h6:(Lit.int .u8 a6).wf=true) (h7:(Lit.int .u8 a7).wf=true) (h8:(Lit.int .u8 a8).wf=true):z177.F a0 a1 a2 a3 a4 a5 a6 a7 a8 a9 a10 a11 a12 a13 a14 a15 a16 a17 a18 a19 a20 a21=some true:=by
 obtain ⟨x,g,e⟩:=Qxp (a9:=a9) (a10:=a10) (a11:=a11) (most:=14) (Qqp h0) (Qq0 h1) (Qqe h2) (Qcc h3) (Qcc h4) (Qcc h5) (Qcc h6) (Qcc h7) (Qcc h8) (by decide)
 have hx:=Qvt g (by decide)
 have hcx:=g.count
 have m:∀s:J1,((0:Int)<=(if (100:Int)<(s.length:Int) then (100:Int) else (s.length:Int))/\(if (100:Int)<(s.length:Int) then (100:Int) else (s.length:Int))<=((s).length:Int))/\(if (100:Int)<(s.length:Int) then (100:Int) else (s.length:Int)).toNat<=100:=λs=>by split<;>omega
 unfold z177.F
 rw [e,Zb]
 simp only
 rw [plan_Build hx (by omega),Zb,if_pos (m a12).1,if_pos (m a13).1]
 have h12:=(m a12).2
 have hlen:(a12.take ((if (100:Int)<(a12.length:Int) then (100:Int) else (a12.length:Int)).toNat)).length<=1000000:=by rw [List.length_take];omega
 exact Qww (T:=⟨a12.take ((if (100:Int)<(a12.length:Int) then (100:Int) else (a12.length:Int)).toNat),a13.take ((if (100:Int)<(a13.length:Int) then (100:Int) else (a13.length:Int)).toNat),a14,a15,a16,a17,a18,a19,a20,a21⟩) hx (by omega) g.plen rfl rfl hlen
end Go.Proofs.YtgjncgiekniniaaGreatDoor.A
end
section
set_option linter.unusedVariables false
namespace Go.Proofs.YtgjncgiekniniaaGreatDoor.A
open Go
namespace PlanBuilds
theorem law (a0:Int) (a1:Int) (a2:Int) (a3:Int) (a4:Int) (a5:Int) (a6:Int) (a7:Int) (a8:Int) (a9:Int) (a10:Int) (a11:Int) (a12:J1) (a13:J1) (a14:Int) (a15:Int) (a16:Int) (a17:Int) (a18:Int) (a19:Int) (a20:Int) (a21:Int) (h0:(Lit.int .u64 a0).wf=true) (h1:(Lit.int .u16 a1).wf=true) (h2:(Lit.int .u32 a2).wf=true) (h3:(Lit.int .u8 a3).wf=true) (h4:(Lit.int .u8 a4).wf=true) (h5:(Lit.int .u8 a5).wf=true) (h6:(Lit.int .u8 a6).wf=true) (h7:(Lit.int .u8 a7).wf=true) (h8:(Lit.int .u8 a8).wf=true) (h9:(Lit.int .i64 a9).wf=true) (h10:(Lit.int .i64 a10).wf=true) (h11:(Lit.int .i64 a11).wf=true) (h12:a12.length<=maxLen) (h13:a13.length<=maxLen) (h14:(Lit.int .i64 a14).wf=true) (h15:(Lit.int .i64 a15).wf=true) (h16:(Lit.int .i64 a16).wf=true) (h17:(Lit.int .i64 a17).wf=true) (h18:(Lit.int .i64 a18).wf=true) (h19:(Lit.int .i64 a19).wf=true) (h20:(Lit.int .i64 a20).wf=true) (h21:(Lit.int .i64 a21).wf=true):z177.F a0 a1 a2 a3 a4 a5 a6 a7 a8 a9 a10 a11 a12 a13 a14 a15 a16 a17 a18 a19 a20 a21=some true:=
 Qq3 h0 h1 h2 h3 h4 h5 h6 h7 h8
end PlanBuilds
end Go.Proofs.YtgjncgiekniniaaGreatDoor.A
end
section
set_option maxRecDepth 100000
namespace Go.Proofs.YtgjncgiekniniaaGreatDoor.A
open Go Go.RowKit Go.ChangeShapes Go.WideShapes Go.ChangeAt
noncomputable section
namespace PlanBuilds
theorem wide:Qbf Tryz.prog 8 Tryz.f21.params.toList=some [(.agg [.sc (.i .u64),.sc (.i .u16),.sc (.i .u32),.sc (.i .u8),.sc (.i .u8),.sc (.i .u8),.sc (.i .u8),.sc (.i .u8),.sc (.i .u8),.sc (.i .i64),.sc (.i .i64),.sc (.i .i64)]),(.agg [.sc .s,.sc .s,.sc (.i .i64),.sc (.i .i64),.sc (.i .i64),.sc (.i .i64),.sc (.i .i64),.sc (.i .i64),.sc (.i .i64),.sc (.i .i64)])]:=by kernel_rfl
theorem readable:Tryz.f21.params.toList.all (λt=>Tryz.prog.readableRec t&&decide (t<Tryz.prog.types.size))=true:=by kernel_rfl
noncomputable def args0:Array Value:=#[.agg #[.int .u64 0,.int .u16 0,.int .u32 0,.int .u8 0,.int .u8 0,.int .u8 0,.int .u8 0,.int .u8 0,.int .u8 0,.int .i64 0,.int .i64 0,.int .i64 0],.agg #[.string ⟨#[]⟩,.string ⟨#[]⟩,.int .i64 0,.int .i64 0,.int .i64 0,.int .i64 0,.int .i64 0,.int .i64 0,.int .i64 0,.int .i64 0]]
theorem laid_met (os:Os):laidMet Tryz.prog Rows.planBuildsRow.laid ((Qhm os).forCall (λ_ _=>0) ⟨#[],args0,[]⟩).memory:=
 laidMet_of_run' 12 (by kernel_rfl) (by kernel_rfl)
theorem reads (os:Os) {H:Type} (enc:TypeId×Value->H):∃ds places,DataW.whole enc Tryz.prog ((Qhm os).forCall (λ_ _=>0) ⟨#[],args0,[]⟩).memory Tryz.f21.params.toList Rows.planBuildsSpec.vars false args0.toList 12=some (ds,[],places):=
 ⟨[.agg [.lit (.int .u64 0),.lit (.int .u16 0),.lit (.int .u32 0),.lit (.int .u8 0),.lit (.int .u8 0),.lit (.int .u8 0),.lit (.int .u8 0),.lit (.int .u8 0),.lit (.int .u8 0),.agg [.lit (.int .i64 0),.lit (.int .i64 0),.lit (.int .i64 0)]],.agg [.lit (.string []),.lit (.string []),.lit (.int .i64 0),.lit (.int .i64 0),.lit (.int .i64 0),.agg [.lit (.int .i64 0),.lit (.int .i64 0),.lit (.int .i64 0)],.lit (.int .i64 0),.lit (.int .i64 0)]],[],by kernel_rfl⟩
theorem plainly (vs:List V) (h:okAL [(.agg [.sc (.i .u64),.sc (.i .u16),.sc (.i .u32),.sc (.i .u8),.sc (.i .u8),.sc (.i .u8),.sc (.i .u8),.sc (.i .u8),.sc (.i .u8),.sc (.i .i64),.sc (.i .i64),.sc (.i .i64)]),(.agg [.sc .s,.sc .s,.sc (.i .i64),.sc (.i .i64),.sc (.i .i64),.sc (.i .i64),.sc (.i .i64),.sc (.i .i64),.sc (.i .i64),.sc (.i .i64)])] vs):∃p r,SoundC Tryz.prog 21 vs p/\p.m=some r/\p.enc r=.bool true:=by
 obtain ⟨_,_,rfl,⟨_,rfl,_,_,rfl,⟨a0,rfl,h0⟩,_,_,rfl,⟨a1,rfl,h1⟩,_,_,rfl,⟨a2,rfl,h2⟩,_,_,rfl,⟨a3,rfl,h3⟩,_,_,rfl,⟨a4,rfl,h4⟩,_,_,rfl,⟨a5,rfl,h5⟩,_,_,rfl,⟨a6,rfl,h6⟩,_,_,rfl,⟨a7,rfl,h7⟩,_,_,rfl,⟨a8,rfl,h8⟩,_,_,rfl,⟨a9,rfl,h9⟩,_,_,rfl,⟨a10,rfl,h10⟩,_,_,rfl,⟨a11,rfl,h11⟩,rfl⟩,_,_,rfl,⟨_,rfl,_,_,rfl,⟨a12,rfl,h12⟩,_,_,rfl,⟨a13,rfl,h13⟩,_,_,rfl,⟨a14,rfl,h14⟩,_,_,rfl,⟨a15,rfl,h15⟩,_,_,rfl,⟨a16,rfl,h16⟩,_,_,rfl,⟨a17,rfl,h17⟩,_,_,rfl,⟨a18,rfl,h18⟩,_,_,rfl,⟨a19,rfl,h19⟩,_,_,rfl,⟨a20,rfl,h20⟩,_,_,rfl,⟨a21,rfl,h21⟩,rfl⟩,rfl⟩:=h
 exact ⟨⟨Bool,z177.F a0 a1 a2 a3 a4 a5 a6 a7 a8 a9 a10 a11 a12 a13 a14 a15 a16 a17 a18 a19 a20 a21,z10.enc⟩,true,z177.sound _ _ (by kernel_rfl),law a0 a1 a2 a3 a4 a5 a6 a7 a8 a9 a10 a11 a12 a13 a14 a15 a16 a17 a18 a19 a20 a21 h0 h1 h2 h3 h4 h5 h6 h7 h8 h9 h10 h11 h12 h13 h14 h15 h16 h17 h18 h19 h20 h21,rfl⟩
theorem specFn {H:Type} (ds:List (DataW H)) (h:ds.length=Tryz.f21.params.toList.length):Rows.planBuildsSpec.fn H ds={results:=[.lit (.bool true)],args:=ds}:=by
 have h:ds.length=2:=h.trans (by kernel_rfl)
 match ds,h with
 |[d0,d1],_=>rfl
theorem clos:Tryz.prog.closure 21=[21,43,95,153,219,60,152,113,131,208,234,235,26,102,132,86,49,48,44,36,76,160,223,260,161,200,250,249,251,253,276,252,255,279,289,277,287,278,288,292,283,290,293,285,284,254,158,222,185,164,227,268,183,99,184,104,91,28,114,195,247,74,90,110,24,100,186,146,212,245,273,187,38,118,198,248,275,286,291,199,201,69,119,202,120,121,203,204,156,122,123,176,92,163,226,162,188,224,261,262,280,225,263,264,265,266,267,281,68,124,157,130,133,47,137,209,228,257,149,214,215,134,142,210,258,259,138,173,87,88,89,175,71,216,238,270,239,150,217,236,79,165,57,145,229,230,231,65,140,211,232,269,78,174,237,25,101,189,190,246,274,191,45,37,115,196,103,192,116,117,63,35,85,170,171,172,197,39,125,205,206,256,221,126,127,128,207,129,80,135,83,169,84,94,52,50,139,177,240,168,167,241,220,271,272,282,155,178,82,166,233,93]:=by kernel_rfl
theorem inPlace:(Rows.planBuildsRow.inPlace == Tryz.prog.inPlace 21)=true:=by unfold Program.inPlace;rw [clos];kernel_rfl
theorem unfollowed:(Rows.planBuildsRow.unfollowed == Tryz.prog.unfollowed 21)=true:=by unfold Program.unfollowed;rw [clos];kernel_rfl
theorem recurses:(Rows.planBuildsRow.recurses == Tryz.prog.recurses 21)=true:=by unfold Program.recurses Program.unfollowed;rw [clos];kernel_rfl
theorem named:(Rows.planBuildsRow.named == Tryz.prog.varsNamed 21)=true:=by unfold Program.varsNamed;rw [clos];kernel_rfl
theorem number:Tryz.prog.funcNamed "chattel/chattellaw17.PlanBuilds" = some 21:=by kernel_rfl
theorem goes:false=Rows.planBuildsRow.goesBy Tryz.prog:=by
 have h:Tryz.prog.goes 21=false:=by unfold Program.goes Program.unfollowed;rw [clos];kernel_rfl
 have e:Rows.planBuildsRow.goesBy Tryz.prog=((Tryz.prog.funcNamed "chattel/chattellaw17.PlanBuilds").any Tryz.prog.goes||false):=by kernel_rfl
 rw [e,number]
 simp [h]
theorem j_wf:Rows.planBuildsRow.wf (OpenSpec.ofChange (OpenSpec.ofChange Rows.planBuildsSpec).bare)=true:=by kernel_rfl
theorem j_params:(Tryz.f21.params.all (Tryz.pinned.checked.prog.readableRec ·))=true:=by kernel_rfl
theorem j_vars:namedTie Tryz.pinned.checked.prog Rows.planBuildsRow.named (OpenSpec.ofChange Rows.planBuildsSpec).bare.vars=true:=by kernel_rfl
theorem j_stops:(Rows.planBuildsRow.stops == [])=true:=by kernel_rfl
theorem j_knobs:(Rows.planBuildsRow.knobs == [])=true:=by kernel_rfl
theorem j_maps:(Rows.planBuildsRow.maps == (Tryz.f21.params.toList++DataSpec.varTypes Tryz.pinned.checked.prog (OpenSpec.ofChange Rows.planBuildsSpec).bare.plain).any (Tryz.pinned.checked.prog.mapsRec ·))=true:=by kernel_rfl
theorem j_ifaces:(Rows.planBuildsRow.ifaces == (Tryz.f21.params.toList++DataSpec.varTypes Tryz.pinned.checked.prog (OpenSpec.ofChange Rows.planBuildsSpec).bare.plain).any (Tryz.pinned.checked.prog.ifacesRec ·))=true:=by kernel_rfl
theorem j_mapsOut:(Rows.planBuildsRow.mapsOut == Tryz.pinned.checked.prog.mapsAmong Tryz.f21.resultTypes.toList)=true:=by kernel_rfl
theorem j_loops:(Rows.planBuildsRow.loops == (Tryz.f21.params.toList++DataSpec.varTypes Tryz.pinned.checked.prog (OpenSpec.ofChange Rows.planBuildsSpec).bare.plain).any (Tryz.pinned.checked.prog.loopsFrom ·))=true:=by kernel_rfl
theorem j_wideKeys:(Rows.planBuildsRow.wideKeys == (Tryz.f21.params.toList++DataSpec.varTypes Tryz.pinned.checked.prog (OpenSpec.ofChange Rows.planBuildsSpec).bare.plain++Tryz.f21.resultTypes.toList).any (Tryz.pinned.checked.prog.wideKeysFrom ·))=true:=by kernel_rfl
theorem j_varsRead:(OpenSpec.ofChange Rows.planBuildsSpec).bare.vars.all (Tryz.pinned.checked.prog.varReadable ·)=true:=by kernel_rfl
theorem j_results:(Tryz.f21.resultTypes.all λt=>Tryz.pinned.checked.prog.readableRec t&&decide (t<Tryz.pinned.checked.prog.types.size))=true:=by kernel_rfl
theorem j_ifacesOut:(Rows.planBuildsRow.ifacesOut == Tryz.f21.resultTypes.toList.any (Tryz.pinned.checked.prog.ifacesRec ·))=true:=by kernel_rfl
theorem j_loopsOut:(Rows.planBuildsRow.loopsOut == Tryz.f21.resultTypes.toList.any (Tryz.pinned.checked.prog.loopsFrom ·))=true:=by kernel_rfl
theorem j_plainKeys:(Rows.planBuildsRow.plainKeys == Tryz.pinned.checked.prog.plainKeys)=true:=by kernel_rfl
theorem j_short:Rows.planBuildsRow.shortTexts.isNone=true:=by kernel_rfl
theorem j_lift:(Rows.planBuildsRow.lifted == Tryz.pinned.checked.prog.liftsFinal)=true:=by kernel_rfl
theorem j_make:(Tryz.pinned.checked.prog.make == some Rows.planBuildsRow.make)=true:=by kernel_rfl
theorem j_kinds:(Rows.planBuildsRow.kinds == (if Rows.planBuildsRow.domain.isEmpty then [] else Tryz.f21.params.toList.map λt=>match Tryz.pinned.checked.prog.underlying t with|some (.int k)=>some k|_=>none))=true:=by kernel_rfl
theorem j_pinned:(Rows.planBuildsRow.pinned == Rows.planBuildsRow.pinnedBy)=true:=by kernel_rfl
theorem j_veiled:(Rows.planBuildsRow.veiled == (Tryz.f21.params.toList++DataSpec.varTypes Tryz.pinned.checked.prog (OpenSpec.ofChange Rows.planBuildsSpec).bare.plain++Tryz.f21.resultTypes.toList).any (Tryz.pinned.checked.prog.veiledRec ·))=true:=by kernel_rfl
theorem j_veiledFits:Rows.planBuildsRow.veiledFits Tryz.pinned.checked.prog Tryz.f21.params.toList (Tryz.f21.params.toList++DataSpec.varTypes Tryz.pinned.checked.prog (OpenSpec.ofChange Rows.planBuildsSpec).bare.plain++Tryz.f21.resultTypes.toList)=true:=by kernel_rfl
theorem joined:joinedFacts Tryz.pinned.checked.prog 21 Tryz.f21 (OpenSpec.ofChange Rows.planBuildsSpec).bare Rows.planBuildsRow=true:=by
 unfold joinedFacts
 simp only [Bool.and_eq_true]
 and_intros
 ·exact j_wf
 ·exact laidOut
 ·exact rowed
 ·exact j_params
 ·exact j_vars
 ·exact j_stops
 ·exact Qr1
 ·exact j_knobs
 ·exact Qsp
 ·exact inPlace
 ·exact unfollowed
 ·exact recurses
 ·exact named
 ·exact j_maps
 ·exact j_ifaces
 ·exact j_mapsOut
 ·exact j_loops
 ·exact j_wideKeys
 ·exact j_varsRead
 ·exact j_results
 ·exact j_ifacesOut
 ·exact j_loopsOut
 ·exact j_plainKeys
 ·exact j_short
 ·exact Qsm
 ·exact Quc
 ·exact j_lift
 ·exact j_make
 ·exact j_kinds
 ·exact j_pinned
 ·exact j_veiled
 ·exact j_veiledFits
theorem lifted (os:Os) (started:os.Started) (H:Type) (enc:TypeId×Value->H) (F:Stop.Interp) :
  ReturnsInHanded {} Tryz.checked os 21 .any ((OpenSpec.ofChange Rows.planBuildsSpec).preRow enc Tryz.prog Tryz.f21 Rows.planBuildsRow.domain false Rows.planBuildsRow.laid) (((OpenSpec.ofChange Rows.planBuildsSpec).at F).post enc Tryz.prog Tryz.f21 false true false false):=by
 obtain ⟨ds0,places,hx⟩:=reads os enc
 refine returnsInHanded_of_row (C:=Tryz.checked) (s:=OpenSpec.ofChange Rows.planBuildsSpec) own started (by kernel_rfl) Tryz.func21
  (witness_row_at (enc:=enc) (C:=Tryz.checked) false (Qhm os) args0 rfl (by kernel_rfl) (by kernel_rfl) (by kernel_rfl)
   (OpenSpec.preRow_of_cond 12 hx (by kernel_rfl) (λk hk=>by cases hk) (by kernel_rfl) (laid_met os))) ?_
 intro W base args ds gs before hval hW _ _ _ hL _ _
 exact Qrb Qo3 laidOut readable wide (tb:=4) (by kernel_rfl) (by kernel_rfl) rfl specFn plainly W base args ds gs before hval hW
theorem wrapped:Tryz.f21.isWrapper Tryz.pinned.checked.prog Rows.planBuildsRow.wrapper Rows.planBuildsRow.mainSum:=by
 unfold Func.isWrapper;first|(rw [if_pos (by decide +kernel)];kernel_rfl)|(rw [if_neg (by decide +kernel)];exact ⟨rfl,rfl⟩)
theorem origin:Tryz.f21.isInstance Tryz.pinned.checked.prog Rows.planBuildsRow.origin Rows.planBuildsRow.targs:=of_decide_eq_true (by kernel_rfl)
theorem said:Rows.PlanBuildsSaid:=
 OpenClaim.holds_of_cond 21 Tryz.f21 rfl rfl rfl rfl rfl rfl rfl ⟨rfl,rfl,rfl,rfl,rfl⟩ rfl rfl rfl rfl rfl number Tryz.func21 joined origin wrapped
  (λos started H enc _ F=>by rw [OpenClaim.pre_eq_preRow];exact lifted os started H enc F)
theorem plainRow (f:FuncId) (fn:Func) (hf:Tryz.pinned.checked.prog.funcNamed "chattel/chattellaw17.PlanBuilds" = some f) (hfn:Tryz.pinned.checked.prog.funcs[f]? = some fn) :
  false=Tryz.pinned.checked.prog.looks []/\∀(j:Nat) t,fn.params[j]? = some t->Tryz.pinned.checked.prog.wantsStandIn t=false:=by
 obtain rfl:f=21:=Option.some.inj (number.symm.trans hf) |>.symm
 obtain rfl:fn=Tryz.f21:=(Option.some.inj (Tryz.func21.symm.trans hfn)).symm
 refine ⟨Qrf,λj t ht=>?_⟩
 have hall:Tryz.f21.params.toList.all (λt=>!Tryz.prog.wantsStandIn t)=true:=by kernel_rfl
 have:=List.all_eq_true.1 hall t (by simpa using Array.mem_of_getElem? ht)
 exact Bool.not_eq_true' _ |>.mp this
theorem card:Rows.PlanBuildsCardSaid:=
 Claim7.holds_tied_plain_at .later [] _ _ _ _ said (λ_ h=>by cases h) (by kernel_rfl) (λ_ h=>by cases h) planBuilds_row_tie rfl ⟨rfl,rfl⟩ main rfl plainRow goes
end PlanBuilds
end
end Go.Proofs.YtgjncgiekniniaaGreatDoor.A
end
