/- PlanInterest: part 1 of what is its own. -/
import Derived.Test.YtgjncgiekniniaaGreatDoorCadPlanInterest0
import Derived.Deep.DeepHandedRow
import Derived.Lib.LaidTab
set_option linter.unusedVariables false
set_option linter.unusedSimpArgs false
section
namespace Go.Proofs.YtgjncgiekniniaaGreatDoor.A
open Go
theorem Qne {a b:List Int} (ha:inB 10000 a) (hb:inB 10000 b) (hl:a.length=b.length) (hal:a.length<=900000000):∀k:Nat,k<=a.length ->
  ∃o:Int⊕Int,Runs (λrec x=>z108.l0P a b rec some x) ((k:Int)-1) o/\(match o with | .inl _=>(0:Int) | .inr q=>q)=cmpI (valB 10000 (a.take k)) (valB 10000 (b.take k))
 |0,_=>⟨.inl (-1),.done λrec=>by unfold z108.l0P;rw [Qa (by omega)];rfl,by simp [cmpI,valB]⟩
 |
  k+1,hk=>by
  have hka:k<a.length:=by omega
  have hkb:k<b.length:=by omega
  have e0:((k+1:Nat):Int)-1=(k:Int):=by omega
  obtain ⟨p1,p2⟩:=Qha b4 ha hb hka hkb
  obtain ⟨p3,_⟩:=Qha b4 hb ha hkb hka
  have c1:(0:Int)<=(k:Int)/\(k:Int)<(a.length:Int):=by omega
  have c2:(0:Int)<=(k:Int)/\(k:Int)<(b.length:Int):=by omega
  rw [e0]
  rcases Int.lt_trichotomy a[k] b[k] with h|h|h
  ·refine ⟨.inr (-1),.done λrec=>?_,?_⟩
   ·unfold z108.l0P
    rw [bif_t (by omega),if_pos c1,if_pos c2,Zi,Wa hka,Wa hkb,bif_t h]
   ·have:=p1 h
    unfold cmpI;rw [if_pos this]
  ·obtain ⟨o,r1,r2⟩:=Qne ha hb hl hal k (by omega)
   refine ⟨o,.step (λrec=>?_) r1,?_⟩
   ·unfold z108.l0P
    rw [bif_t (by omega),Zi,Wa hka,Wa hkb]
    simp only [if_pos c1,if_pos c2]
    rw [Qa (by omega),Qa (by omega),Qc (by omega) (by omega)]
   ·rw [r2]
    have:=p2 h
    unfold cmpI
    split<;>split<;>(try split)<;>(try split)<;>first|rfl|omega
  ·refine ⟨.inr 1,.done λrec=>?_,?_⟩
   ·unfold z108.l0P
    rw [bif_t (by omega),Zi,Wa hka,Wa hkb]
    simp only [if_pos c1,if_pos c2]
    rw [Qa (by omega),bif_t h]
   ·have:=p3 h
    unfold cmpI;rw [if_neg (by omega),if_neg (by omega)]
theorem Qjy {m n:Nat} (hl:(dg m).length<=900000000):z108.F (dg m) (dg n)=some (cmpI m n):=by
 unfold z108.F
 by_cases he:(dg m).length=(dg n).length
 ·have e1:((dg m).length:Int)=((dg n).length:Int):=by omega
  rw [Zt e1]
  simp only [Zn,Zc]
  obtain ⟨o,r1,r2⟩:=Qne (Qx b4 m) (Qx b4 n) he hl (dg m).length (Nat.le_refl _)
  rw [Qc (by omega) (by omega)]
  unfold z108.l0
  rw [r1.lfp]
  simp only [Zb]
  rw [List.take_length,he,List.take_length,Q8 b4,Q8 b4] at r2
  rw [<-r2]
  cases o<;>rfl
 ·have e1:¬((dg m).length:Int)=((dg n).length:Int):=by omega
  rw [Zf e1]
  simp only [Zo,Zd]
  rcases Nat.lt_or_gt_of_ne he with h|h
  ·have:=Qb1 b4 h
   rw [bif_t (by omega)];unfold cmpI;rw [if_pos (by omega)]
  ·have:=Qb1 b4 h
   rw [Qa (by omega)];unfold cmpI;rw [if_neg (by omega),if_neg (by omega)]
theorem Qlk {a b:List Int} (ha:inB 10000 a) (hb:inB 10000 b) (hal:a.length<=900000000) :
  ∀
   (f i:Nat) (c:Int) (s:List Int),i+f=a.length->s.length=i->inB 10000 s->0<=c/\c<=1 ->
   valB 10000 s-c*(10000^i:Nat)=valB 10000 (a.take i)-valB 10000 (b.take i) ->
   ∃c' s',Runs (λrec x=>z109.l0P a b rec some x) (c,(i:Int),s) (c',(a.length:Int),s')/\inB 10000 s'/\s'.length=a.length/\(0<=c'/\c'<=1)/\valB 10000 s'-c'*(10000^a.length:Nat)=valB 10000 a-valB 10000 (b.take a.length)
 |
  0,i,c,s,hf,hl,hs,hc,hv=>by
  have:i=a.length:=by omega
  subst this
  refine ⟨c,s,.done λrec=>?_,hs,hl,hc,by rwa [List.take_length] at hv⟩
  unfold z109.l0P
  simp only
  rw [Qa (by omega)]
 |
  f+1,i,c,s,hf,hl,hs,hc,hv=>by
  have hi:i<a.length:=by omega
  have h1:=Q2 (B:=10000) (by decide) ha i
  have h2:=Q2 (B:=10000) (by decide) hb i
  have eb:valB 10000 (b.take (i+1))=valB 10000 (b.take i)+(10000^i:Nat)*b.getD i 0:=by
   by_cases hb':i<b.length
   ·rw [Yp hb',Wa hb']
   ·rw [List.take_of_length_le (by omega),List.take_of_length_le (by omega)]
    simp [List.getD,List.getElem?_eq_none (show b.length<=i by omega)]
  have e1:wr .i64 (a.getD i 0-b.getD i 0)=a.getD i 0-b.getD i 0:=Qc (by omega) (by omega)
  have e2:wr .i64 (a.getD i 0-b.getD i 0-c)=a.getD i 0-b.getD i 0-c:=Qc (by omega) (by omega)
  have e3:wr .i64 ((i:Int)+1)=((i+1:Nat):Int):=by rw [Qc (by omega) (by omega)];omega
  have e4:wr .i64 (a.getD i 0-b.getD i 0-c+10000)=a.getD i 0-b.getD i 0-c+10000:=Qc (by omega) (by omega)
  have c1:∀x:Int,(s.length+[x].length)*8<=140737488355328:=λx=>by simp;omega
  have c2:(0:Int)<=(i:Int)/\(i:Int)<(a.length:Int):=by omega
  by_cases hd:a.getD i 0-b.getD i 0-c<0
  ·obtain ⟨c',s',r1,r2,r3,r4,r5⟩:=Qlk ha hb hal f (i+1) 1 (s++[a.getD i 0-b.getD i 0-c+10000]) (by omega) (by simp [hl]) (Qep hs (by omega)) (by omega) (by
    rw [Qev,Yp hi,eb,hl,Nat.pow_succ,Nat.mul_comm (10000^i) 10000,Int.natCast_mul,<-Wa hi]
    generalize ((10000^i:Nat):Int)=p at *
    grind)
   refine ⟨c',s',.step (λrec=>?_) r1,r2,r3,r4,r5⟩
   unfold z109.l0P
   simp only [Qgb,Zb,Zi,e1,e2,e3,e4]
   rw [bif_t (by omega),if_pos c2,bif_t hd,if_pos (c1 _)]
  ·obtain ⟨c',s',r1,r2,r3,r4,r5⟩:=Qlk ha hb hal f (i+1) 0 (s++[a.getD i 0-b.getD i 0-c]) (by omega) (by simp [hl]) (Qep hs (by omega)) (by omega) (by
    rw [Qev,Yp hi,eb,hl,Nat.pow_succ,Nat.mul_comm (10000^i) 10000,Int.natCast_mul,<-Wa hi]
    generalize ((10000^i:Nat):Int)=p at *
    grind)
   refine ⟨c',s',.step (λrec=>?_) r1,r2,r3,r4,r5⟩
   unfold z109.l0P
   simp only [Qgb,Zb,Zi,e1,e2,e3,e4]
   rw [bif_t (by omega),if_pos c2,Qa hd,if_pos (c1 _)]
theorem Qh1 {m n:Nat} (hmn:n<=m) (hl:(dg m).length<=900000000):z109.F (dg m) (dg n)=some (dg (m-n)):=by
 obtain ⟨c',s',r1,r2,r3,r4,r5⟩:=Qlk (a:=dg m) (b:=dg n) (Qx b4 m) (Qx b4 n) hl (dg m).length 0 0 [] (by omega) rfl (inB_nil _) (by omega) (by simp [valB])
 have hlen:(dg n).length<=(dg m).length:=by
  rcases Nat.lt_or_ge (dg m).length (dg n).length with h|h
  ·have:=Qb1 b4 h;omega
  ·exact h
 rw [List.take_of_length_le hlen,Q8 b4,Q8 b4] at r5
 have h1:=Yb b4 r2
 rw [r3] at h1
 have hc:c'=0:=by
  rcases (show c'=0\/c'=1 by omega) with h|h
  ·exact h
  ·subst h;omega
 subst hc
 have e:z109.l0 (dg m) (dg n) ((0:Int),(0:Int),[])=some ((0:Int),((dg m).length:Int),s'):=r1.lfp
 unfold z109.F
 rw [e]
 simp only [Zb]
 rw [Qcf r2 (by show List.length _<=_;omega)]
 simp only [Zb]
 congr 2;omega
theorem Qsj {s:List UInt8} (hs:Qv s) (hl:s.length<=900000000) (e:Nat) (he:e<=s.length):∀(f i:Nat) (d:Int),i+f=e->f<=4->0<=d/\d<10^12/(10^f:Nat) ->
  Runs (λrec x=>z101.l2P s (e:Int) rec some x) (d,(i:Int)) (tv d ((s.take e).drop i),(e:Int))
 |
  0,i,d,hf,_,_=>by
  have:i=e:=by omega
  subst this
  refine .done λrec=>?_
  unfold z101.l2P
  simp only
  rw [Qa (by omega),List.drop_eq_nil_of_le (by simp;omega)]
  rfl
 |
  f+1,i,d,hf,h4,hd=>by
  have hi:i<s.length:=by omega
  have hb:=hs s[i] (List.getElem_mem hi)
  unfold digit at hb
  have hd':d<10^11:=by
   have:f=0\/f=1\/f=2\/f=3:=by omega
   rcases this with rfl|rfl|rfl|rfl<;>simp at hd ⊢<;>omega
  have hn:0<=10*d+(s[i].toNat:Int)-48/\10*d+(s[i].toNat:Int)-48<10^12/(10^f:Nat):=by
   have:f=0\/f=1\/f=2\/f=3:=by omega
   rcases this with rfl|rfl|rfl|rfl<;>simp at hd ⊢<;>omega
  have ih:=Qsj hs hl e he f (i+1) (10*d+(s[i].toNat:Int)-48) (by omega) (by omega) hn
  have hlt:i<(s.take e).length:=by simp;omega
  rw [List.drop_eq_getElem_cons hlt,List.getElem_take]
  refine .step (λrec=>?_) ih
  unfold z101.l2P
  simp only
  have eg:s.getD i 0=s[i]:=by simp [List.getD,hi]
  rw [bif_t (by omega),if_pos (by omega),Zi,eg,Qc (n:=10*d) (by omega) (by omega),Qc (n:=(s[i].toNat:Int)) (by omega) (by omega),Qc (n:=10*d+(s[i].toNat:Int)) (by omega) (by omega),Qc (n:=10*d+(s[i].toNat:Int)-48) (by omega) (by omega),Qc (n:=(i:Int)+1) (by omega) (by omega)]
  rfl
theorem Qnr {s:List UInt8} (hs:Qv s) (hl:s.length<=900000000):∀(f e:Nat) (out:List Int),e<=4*f->e<=s.length->out.length<=900000000-e->inB 10000 out->valB 10000 out+(10000^out.length:Nat)*tv 0 (s.take e)=tv 0 s ->
  ∃e' out',Runs (λrec x=>z101.l0P s rec some x) ((e:Int),out) (e',out')/\inB 10000 out'/\out'.length<=900000004/\valB 10000 out'=tv 0 s
 |
  0,e,out,hf,he,ho,hi,hv=>by
  have:e=0:=by omega
  subst this
  refine ⟨0,out,.done λrec=>?_,hi,by omega,by simpa [tv] using hv⟩
  unfold z101.l0P;simp
 |
  f+1,e,out,hf,he,ho,hi,hv=>by
  rcases Nat.eq_zero_or_pos e with rfl|h0
  ·refine ⟨0,out,.done λrec=>?_,hi,by omega,by simpa [tv] using hv⟩
   unfold z101.l0P;simp
  ·have hds:Qv ((s.take e).drop (e-4)):=λb hb=>hs b (List.mem_of_mem_take (List.mem_of_mem_drop hb))
   have hlen:((s.take e).drop (e-4)).length<=4:=by rw [List.length_drop,List.length_take];omega
   have htb:=Jh hds
   have hlt:tv 0 ((s.take e).drop (e-4))<10000:=by
    have h1:(10^((s.take e).drop (e-4)).length:Nat)<=10^4:=Nat.pow_le_pow_right (by decide) hlen
    have h2:((10^((s.take e).drop (e-4)).length:Nat):Int)<=10000:=Int.ofNat_le.2 h1
    omega
   have r:=Qsj hs hl e he (e-(e-4)) (e-4) 0 (by omega) (by omega) ⟨Int.le_refl 0,by
    have:e-(e-4)=1\/e-(e-4)=2\/e-(e-4)=3\/e-(e-4)=4:=by omega
    rcases this with h|h|h|h<;>rw [h]<;>omega⟩
   have er:z101.l2 s (e:Int) ((0:Int),((e-4:Nat):Int))=some (tv 0 ((s.take e).drop (e-4)),(e:Int)):=r.lfp
   have e1:wr .i64 ((e:Int)-4)=(e:Int)-4:=Qc (by omega) (by omega)
   have e2:(if (e:Int)-4>0 then (e:Int)-4 else 0)=((e-4:Nat):Int):=by split<;>omega
   have c1:∀x:Int,(out.length+[x].length)*8<=140737488355328:=λx=>by simp;omega
   have step:∀rec,z101.l0P s rec some ((e:Int),out)=rec ((e:Int)-4,out++[tv 0 ((s.take e).drop (e-4))]):=λrec=>by
    unfold z101.l0P
    simp only [e1,e2]
    rw [bif_t (by omega),er]
    simp only [Zb]
    rw [if_pos (c1 _)]
   by_cases h4:4<=e
   ·obtain ⟨e',out',r1,r2,r3,r4⟩:=Qnr hs hl f (e-4) (out++[tv 0 ((s.take e).drop (e-4))]) (by omega) (by omega) (by rw [List.length_append,List.length_singleton];omega) (Qep hi (by omega)) (by
     rw [Qev,<-hv]
     have e3:s.take e=s.take (e-4)++(s.take e).drop (e-4):=by
      have:=List.take_append_drop (e-4) (s.take e)
      rw [List.take_take,Nat.min_eq_left (by omega)] at this
      exact this.symm
     have e4:tv 0 (s.take e)=tv 0 (s.take (e-4))*10000+tv 0 ((s.take e).drop (e-4)):=by
      conv=>lhs;rw [e3]
      rw [Qfz,Qc8]
      have:((s.take e).drop (e-4)).length=4:=by rw [List.length_drop,List.length_take];omega
      rw [this];rfl
     rw [e4,List.length_append,List.length_singleton,Nat.pow_succ,Int.natCast_mul]
     generalize ((10000^out.length:Nat):Int)=p
     grind)
    have e5:(e:Int)-4=((e-4:Nat):Int):=by omega
    exact ⟨e',out',.step (λrec=>by rw [step rec,e5]) r1,r2,r3,r4⟩
   ·refine ⟨(e:Int)-4,out++[tv 0 ((s.take e).drop (e-4))],.step step (.done λrec=>?_),Qep hi (by omega),by rw [List.length_append,List.length_singleton];omega,?_⟩
    ·unfold z101.l0P
     simp only
     rw [Qa (by omega)]
    ·have e6:e-4=0:=by omega
     rw [Qev,<-hv,e6,List.drop_zero]
theorem Qfu {s:List UInt8} (hs:Qv s) (hl:s.length<=800000000):z101.F s=some (dg (tv 0 s).toNat):=by
 obtain ⟨e',out',r1,r2,r3,r4⟩:=Qnr hs (by omega) s.length s.length [] (by omega) (Nat.le_refl _) (Nat.zero_le _) (inB_nil _) (by simp [valB])
 have e:z101.l0 s ((s.length:Int),[])=some (e',out'):=r1.lfp
 unfold z101.F
 rw [e]
 simp only [Zb]
 rw [Qcf r2 (by show List.length _<=_;omega),r4]
 rfl
theorem dg_len0 (n:Nat):(((dg n).length:Nat):Int)=0↔n=0:=by
 constructor
 ·intro h;exact (toB_nil b4).1 (List.length_eq_zero_iff.1 (Int.ofNat_eq_zero.1 h))
 ·rintro rfl;simp [dg,toB_zero]
theorem Qhn (n:Nat):(((dg n).length:Nat):Int)>0↔0<n:=by
 have:=dg_len0 n;omega
theorem Qem (n:Nat) (b:Bool):z7.F (dg n) b=some (dg n,b&&decide (0<n)):=by
 unfold z7.F
 cases b
 ·rfl
 ·simp only [Zd,Bool.true_and]
  congr 2
  exact decide_eq_decide.2 (Qhn n)
theorem ref04_Of' {z:Int} {b:Bool} (h:(b=true/\z<=0)\/(b=false/\0<=z)):z7.F (dg z.natAbs) b=some (dg z.natAbs,neg z):=by
 rw [Qem]
 congr 2
 rcases h with ⟨rfl,h⟩|⟨rfl,h⟩
 ·rw [Bool.true_and];exact decide_eq_decide.2 (by omega)
 ·rw [Bool.false_and];symm;exact Zf (by omega)
theorem Wk {z:Int} (h:-9223372036854775808<z/\z<9223372036854775808):z9.F z=some (dg z.natAbs,neg z):=by
 unfold z9.F
 by_cases hz:z<0
 ·have e:wr .i64 (0-z)=((z.natAbs:Nat):Int):=by rw [Qc (by omega) (by omega)];omega
  rw [bif_t hz,e,Qfk (by omega)]
  simp only [Zb]
  rw [ref04_Of' (z:=z) (.inl ⟨rfl,by omega⟩)];rfl
 ·have e:z=((z.natAbs:Nat):Int):=by omega
  rw [Qa hz]
  conv=>lhs;rw [e]
  rw [Qfk (by omega)]
  simp only [Zb]
  rw [ref04_Of' (z:=z) (.inr ⟨rfl,by omega⟩)];rfl
theorem Qkc (z:Int):z106.F (dg z.natAbs) (neg z)=some (dg (-z).natAbs,neg (-z)):=by
 unfold z106.F
 have e:z.natAbs=(-z).natAbs:=by omega
 rw [e,Qem]
 simp only [Zb]
 congr 2
 show (!decide (z<0)&&_)=decide (-z<0)
 by_cases h:z<0
 ·rw [Zt h];symm;simp;omega
 ·rw [Zf h,Zo,Bool.true_and];exact decide_eq_decide.2 (by omega)
theorem Qhi {x y:Int} (hl:(dg x.natAbs).length+(dg y.natAbs).length<=900000000):z16.F (dg x.natAbs) (neg x) (dg y.natAbs) (neg y)=some (dg (x*y).natAbs,neg (x*y)):=by
 unfold z16.F
 rw [Qdp hl,<-Int.natAbs_mul]
 simp only [Zb]
 rw [Qem]
 simp only [Zb]
 congr 2
 have h0:0<(x*y).natAbs↔x≠0/\y≠0:=by
  rw [Int.natAbs_mul]
  constructor
  ·intro h;exact ⟨by rintro rfl;simp at h,by rintro rfl;simp at h⟩
  ·rintro ⟨h1,h2⟩;exact Nat.mul_pos (by omega) (by omega)
 rw [Bool.eq_iff_iff]
 simp only [Bool.and_eq_true,Bool.not_eq_true',decide_eq_true_eq,decide_eq_false_iff_not,h0]
 rcases Int.lt_trichotomy x 0 with hx|hx|hx<;>rcases Int.lt_trichotomy y 0 with hy|hy|hy
 ·have:=Int.mul_pos_of_neg_of_neg hx hy;simp [hx,hy];omega
 ·subst hy;simp
 ·have:=Int.mul_neg_of_neg_of_pos hx hy;simp [hx];omega
 ·subst hx;simp
 ·subst hx;simp
 ·subst hx;simp
 ·have:=Int.mul_neg_of_pos_of_neg hx hy;simp [hy];omega
 ·subst hy;simp
 ·have:=Int.mul_pos hx hy;simp;omega
theorem Qkl {z:Int} (hs:4*(dg z.natAbs).length<=1000000000) (hl:(txt z.natAbs).length<=1000000000):z6.F (dg z.natAbs) (neg z)=some (if z<0 then 45::txt z.natAbs else txt z.natAbs):=by
 unfold z6.F
 rw [Qle hs]
 simp only [Zb]
 by_cases h:z<0
 ·rw [bif_t h,if_pos (by simp;omega),if_pos h];rfl
 ·rw [Qa h,if_neg h]
theorem Y5 {z:Int} {n:Nat} {b:Bool} (hn:n=z.natAbs) (h:(b=true/\z<=0)\/(b=false/\0<=z)):z7.F (dg n) b=some (dg z.natAbs,neg z):=by
 subst hn;exact ref04_Of' h
theorem Qd8 {x y:Int} (hl:(dg x.natAbs).length+(dg y.natAbs).length<=900000000):z110.F (dg x.natAbs) (neg x) (dg y.natAbs) (neg y)=some (dg (x+y).natAbs,neg (x+y)):=by
 unfold z110.F
 by_cases hs:neg x=neg y
 ·have hs':(x<0↔y<0):=by simpa [neg] using hs
  rw [bif_t hs,Qoq hl]
  simp only [Zb]
  rw [Y5 (z:=x+y) (by omega) (by by_cases hx:x<0;exact .inl ⟨Zt hx,by omega⟩;exact .inr ⟨Zf hx,by omega⟩)]
  rfl
 ·have hs':¬(x<0↔y<0):=by simpa [neg] using hs
  rw [Qa hs,Qjy (by omega)]
  simp only [Zb]
  by_cases hc:cmpI (x.natAbs:Int) (y.natAbs:Int)>=0
  ·have hc':=W7.1 hc
   rw [bif_t hc,Qh1 (by omega) (by omega)]
   simp only [Zb]
   rw [Y5 (z:=x+y) (by omega) (by by_cases hx:x<0;exact .inl ⟨Zt hx,by omega⟩;exact .inr ⟨Zf hx,by omega⟩)]
   rfl
  ·have hc':¬((y.natAbs:Int)<=x.natAbs):=λh=>hc (W7.2 h)
   rw [Qa hc,Qh1 (by omega) (by omega)]
   simp only [Zb]
   rw [Y5 (z:=x+y) (by omega) (by by_cases hy:y<0;exact .inl ⟨Zt hy,by omega⟩;exact .inr ⟨Zf hy,by omega⟩)]
   rfl
theorem Qf5 {x y:Int} (hl:(dg x.natAbs).length+(dg y.natAbs).length<=900000000):z111.F (dg x.natAbs) (neg x) (dg y.natAbs) (neg y)=some (dg (x-y).natAbs,neg (x-y)):=by
 unfold z111.F
 rw [Qkc]
 simp only [Zb]
 rw [Qd8 (by rw [Int.natAbs_neg];exact hl)]
 rfl
theorem Qvo (z:Int):z112.F (dg z.natAbs) (neg z)=some (cmpI z 0):=by
 unfold z112.F cmpI
 by_cases h0:z=0
 ·subst h0;rw [bif_t ((dg_len0 (Int.natAbs 0)).2 rfl)];rfl
 ·rw [Qa (λh=>h0 (by have:=(dg_len0 _).1 h;omega))]
  by_cases h:z<0
  ·rw [bif_t h,if_pos h]
  ·rw [Qa h,if_neg h,if_neg h0]
theorem Qj2 {x y:Int} (hl:(dg x.natAbs).length+(dg y.natAbs).length<=900000000):z113.F (dg x.natAbs) (neg x) (dg y.natAbs) (neg y)=some (cmpI x y):=by
 unfold z113.F
 rw [Qf5 hl]
 simp only [Zb]
 rw [Qvo,Qnj]
 rfl
theorem Qp (n:Nat):(dg n).length<=sz n:=Yj b4 (Nat.lt_of_lt_of_le (J6 n) (Nat.pow_le_pow_left (by decide) _))
theorem Qcg:dg 0=[]:=toB_zero 10000
theorem Qj9 (y:Int):z10.F y=some (decide (goodY y/\leap y)):=by
 unfold z10.F z10.j1
 simp only [Qc2 (show (0:Int)<4 by decide),Qc2 (show (0:Int)<100 by decide),Qc2 (show (0:Int)<400 by decide)]
 by_cases h1:y<1
 ·rw [bif_t h1];congr 1;symm;exact Zf (by omega)
 ·rw [Qa h1]
  by_cases h2:y>9999
  ·rw [bif_t h2];congr 1;symm;exact Zf (by omega)
  ·rw [Qa h2]
   by_cases h4:y%400=0
   ·rw [bif_t h4];congr 1;symm;exact Zt (by omega)
   ·rw [Qa h4]
    by_cases h3:y%4=0
    ·rw [bif_t h3];congr 1
     by_cases h5:y%100=0
     ·rw [Zt h5];symm;exact Zf (by omega)
     ·rw [Zf h5];symm;exact Zt (by omega)
    ·rw [Qa h3];congr 1;symm;exact Zf (by omega)
theorem Qcx (y m:Int):z11.F y m=some (dDays y m):=by
 unfold z11.F z11.j1 dDays
 by_cases h0:y<1
 ·rw [bif_t h0,if_pos (by omega)]
 ·rw [Qa h0]
  by_cases h9:y>9999
  ·rw [bif_t h9,if_pos (by omega)]
  ·rw [Qa h9]
   by_cases h1:m<1
   ·rw [bif_t h1,if_pos (by omega)]
   ·rw [Qa h1]
    by_cases h12:m>12
    ·rw [bif_t h12,if_pos (by omega)]
    ·rw [Qa h12,if_neg (by omega)]
     by_cases h2:m=2
     ·rw [bif_t h2,if_pos h2,Qj9]
      simp only [Zb]
      by_cases hl:leap y
      ·rw [Zt ⟨by omega,hl⟩,if_pos hl];rfl
      ·rw [Zf (λhh=>hl hh.2),if_neg hl];rfl
     ·rw [Qa h2,if_neg h2]
      by_cases g4:m=4
      ·rw [bif_t g4,if_pos (.inl g4)]
      ·rw [Qa g4]
       by_cases g6:m=6
       ·rw [bif_t g6,if_pos (by omega)]
       ·rw [Qa g6]
        by_cases g9:m=9
        ·rw [bif_t g9,if_pos (by omega)]
        ·rw [Qa g9]
         by_cases g11:m=11
         ·rw [bif_t g11,if_pos (by omega)]
         ·rw [Qa g11,if_neg (by omega)]
theorem Y3 (y m d:Int):z126.F y m d=some (decide (right y m d)):=by
 unfold z126.F
 rw [Qcx]
 simp only [Zb]
 by_cases h:d>=1
 ·rw [bif_t h];congr 1;exact decide_eq_decide.2 (by omega)
 ·rw [Qa h];congr 1;symm;exact Zf (by omega)
def addM (y m d k:Int):Int×Int×Int:=(((12*y+m-1)+k)/12,((12*y+m-1)+k)%12+1,min d (dDays (((12*y+m-1)+k)/12) (((12*y+m-1)+k)%12+1)))
theorem Qkq {y m d k:Int} (h:right y m d) (ho:okM y m k):right (addM y m d k).1 (addM y m d k).2.1 (addM y m d k).2.2:=by
 have h1:=Q3 h
 have h2:=Qbn (y:=((12*y+m-1)+k)/12) (m:=((12*y+m-1)+k)%12+1) (by omega) (by omega)
 show 1<=min d _/\min d _<=dDays _ _
 simp only [addM]
 omega
theorem Qpm (a b:Int):(if a<b then a else b)=min b a:=by omega
theorem month_Add {y m d k:Int}:z90.F y m d k=some (if right y m d/\okM y m k then ((addM y m d k).1,(addM y m d k).2.1,(addM y m d k).2.2,0) else (0,0,0,11)):=by
 unfold z90.F
 rw [date_Check]
 simp only [Zb]
 by_cases h:right y m d
 ·have hg:=Q3 h
  rw [if_pos h]
  simp only [decide_true,Zn,Zc]
  by_cases h1:k < -119988
  ·rw [bif_t h1,if_neg (by omega)]
  ·rw [Qa h1]
   by_cases h2:k>119988
   ·rw [bif_t h2,if_neg (by omega)]
   ·rw [Qa h2]
    unfold z90.j2 z90.j3
    rw [Qc (n:=12*y) (by omega) (by omega),Qc (n:=12*y+m) (by omega) (by omega),Qc (n:=12*y+m-1) (by omega) (by omega),Qc (n:=12*y+m-1+k) (by omega) (by omega)]
    by_cases h3:12*y+m-1+k<12
    ·rw [bif_t h3,if_neg (by omega)]
    ·rw [Qa h3,Yd (by omega),Qc (n:=(12*y+m-1+k)/12) (by omega) (by omega)]
     by_cases h4:(12*y+m-1+k)/12>9999
     ·rw [bif_t h4,if_neg (by omega)]
     ·rw [Qa h4,Yk (by omega),Qc (n:=(12*y+m-1+k)%12+1) (by omega) (by omega),date_Days,if_pos (by exact ⟨h,by omega⟩)]
      simp only [Zb,Qpm]
      rfl
 ·rw [if_neg h,if_neg (λhh=>h hh.1)];rfl
theorem terms_Word (k:Int):∃w,z78.F k=some w/\decide (w=[])=decide (¬(0<=k/\k<=2)):=by
 unfold z78.F
 by_cases h:k<0
 ·rw [bif_t h];exact ⟨_,rfl,by simp;omega⟩
 ·rw [Qa h]
  by_cases h':k>=3
  ·rw [bif_t h'];exact ⟨_,rfl,by simp;omega⟩
  ·rw [Qa h']
   have:k=0\/k=1\/k=2:=by omega
   rcases this with rfl|rfl|rfl<;>exact ⟨_,rfl,rfl⟩
theorem Q0p {e:Int} (h:1<=e) (h5:e≠5):Int.tmod 12 e=0↔Qbo e:=by
 rw [Yk (by decide)]
 by_cases hb:12<e
 ·rw [Int.emod_eq_of_lt (by decide) hb];omega
 ·have:e=1\/e=2\/e=3\/e=4\/e=6\/e=7\/e=8\/e=9\/e=10\/e=11\/e=12:=by omega
  rcases this with rfl|rfl|rfl|rfl|rfl|rfl|rfl|rfl|rfl|rfl|rfl<;>decide
theorem terms_odd (t:Tm):z85.F t.p t.r t.kind t.basis t.mode t.y t.m t.d t.every t.count=some (decide (¬kindsOK t)):=by
 obtain ⟨w1,e1,d1⟩:=terms_Word t.kind
 obtain ⟨w2,e2,d2⟩:=Qmd t.basis
 obtain ⟨w3,e3,d3⟩:=Qjh t.mode
 unfold z85.F
 rw [e1]
 simp only [Zb]
 rw [d1]
 by_cases h1:0<=t.kind/\t.kind<=2
 ·rw [Qa (λhh=>hh h1),e2]
  simp only [Zb]
  rw [d2]
  by_cases h2:0<=t.basis/\t.basis<=2
  ·rw [Qa (λhh=>hh h2),e3]
   simp only [Zb]
   rw [d3]
   by_cases h3:0<=t.mode/\t.mode<=4
   ·rw [Qa (λhh=>hh h3)]
    by_cases h4:t.every<1
    ·rw [bif_t h4];congr 1;symm;exact Zt (by omega)
    ·rw [Qa h4]
     by_cases h5:t.every=5
     ·rw [bif_t h5];congr 1;symm;exact Zt (by omega)
     ·rw [Qa h5,if_neg (by omega)]
      congr 1
      have:=Q0p (e:=t.every) (by omega) h5
      rw [<-decide_not]
      exact decide_eq_decide.2 (by omega)
   ·rw [bif_t h3];congr 1;symm;exact Zt (by omega)
  ·rw [bif_t h2];congr 1;symm;exact Zt (by omega)
 ·rw [bif_t h1];congr 1;symm;exact Zt (by omega)
theorem terms_Check (t:Tm):z91.F t.p t.r t.kind t.basis t.mode t.y t.m t.d t.every t.count=some (mCheck t):=by
 unfold z91.F mCheck
 rw [terms_Money]
 simp only [Zb]
 by_cases h1:(mMoney t.p).2=0
 ·rw [Zt h1,if_neg (by omega)]
  simp only [Zn,Zc]
  rw [W0]
  simp only [Zb]
  by_cases h2:(mMoney t.p).1=0
  ·rw [bif_t (Yt.2 h2),if_pos h2]
  ·rw [Qa (λh=>h2 (Yt.1 h)),if_neg h2,terms_Rate]
   simp only [Zb]
   by_cases h3:(mRate t.r).2=0
   ·rw [Zt h3,if_neg (by omega)]
    simp only [Zn,Zc]
    rw [terms_odd]
    simp only [Zb]
    by_cases h4:kindsOK t
    ·rw [Qa (λhh=>hh h4),if_neg (λhh=>hh h4)]
     by_cases h5:t.count<1
     ·rw [bif_t h5,if_pos (.inl h5)]
     ·rw [Qa h5]
      by_cases h6:t.count>1200
      ·rw [bif_t h6,if_pos (.inr h6)]
      ·have hb:=Qe5 (e:=t.every) (c:=t.count) h4.2.2.2 (by omega)
       rw [Qa h6,if_neg (by omega),Qc (by omega) (by omega),month_Add]
       simp only [Zb]
       by_cases h7:right t.y t.m t.d/\okM t.y t.m (t.every*t.count)
       ·rw [if_pos h7,if_pos h7]
       ·rw [if_neg h7,if_neg h7]
    ·rw [bif_t h4,if_pos h4]
   ·rw [Zf h3,if_pos h3];rfl
 ·rw [Zf h1,if_pos h1];rfl
theorem Qjz {a b:Int} (hb:0<b):(Int.tmod a b<0->Int.tmod a b+b=a%b)/\(¬Int.tmod a b<0->Int.tmod a b=a%b)/\-b<Int.tmod a b/\Int.tmod a b<b:=by
 have h1:=Int.emod_nonneg a (show b≠0 by omega)
 have h2:=Int.emod_lt_of_pos a hb
 have h3:=Int.tmod_eq_emod (a:=a) (b:=b)
 by_cases h:0<=a\/b∣a
 ·rw [if_pos h] at h3;omega
 ·rw [if_neg h] at h3
  have:a%b≠0:=λe=>h (.inr (Int.dvd_of_emod_eq_zero e))
  omega
theorem Qks {a b c n:Int} (hn:1<=n/\n<=9999):∃y m d,z12.F a b c n=some (y,m,d)/\right y m d/\y<=n:=by
 have f1:=Qjz (a:=a) (b:=n) (by omega)
 have f2:=Qjz (a:=b) (b:=12) (by omega)
 have m1:=Int.emod_nonneg a (show n≠0 by omega)
 have m2:=Int.emod_lt_of_pos a (show 0<n by omega)
 have hd:=Qbn (y:=a%n+1) (m:=b%12+1) (by omega) (by omega)
 have hd':=Qdg (a%n+1) (b%12+1)
 have f3:=Qjz (a:=c) (b:=dDays (a%n+1) (b%12+1)) (by omega)
 have m5:=Int.emod_nonneg c (show dDays (a%n+1) (b%12+1)≠0 by omega)
 have m6:=Int.emod_lt_of_pos c (show 0<dDays (a%n+1) (b%12+1) by omega)
 refine ⟨a%n+1,b%12+1,c%dDays (a%n+1) (b%12+1)+1,?_,⟨by omega,by omega⟩,by omega⟩
 have hj8:∀j,j=b%12->Int.tmod a n=a%n->z12.j8 a n j c=some (a%n+1,b%12+1,c%dDays (a%n+1) (b%12+1)+1):=λj hj ht=>by
  subst hj
  unfold z12.j8
  rw [ht,Qc (n:=a%n+1) (by omega) (by omega),Qc (n:=b%12+1) (by omega) (by omega),Qcx]
  simp only [Zb]
  rw [if_neg (by omega)]
  generalize dDays (a%n+1) (b%12+1)=k at *
  by_cases h:Int.tmod c k<0
  ·rw [bif_t h,Qc (n:=Int.tmod c k+k) (by omega) (by omega),f3.1 h,Qc (by omega) (by omega)]
  ·rw [Qa h,f3.2.1 h,Qc (by omega) (by omega)]
 have hj5:∀j,j=b%12->Int.tmod a n<0->z12.j5 a n j c=some (a%n+1,b%12+1,c%dDays (a%n+1) (b%12+1)+1):=λj hj ht=>by
  subst hj
  unfold z12.j5 z12.j7
  rw [Qc (n:=Int.tmod a n+n) (by omega) (by omega),f1.1 ht,Qc (n:=a%n+1) (by omega) (by omega),Qc (n:=b%12+1) (by omega) (by omega),Qcx]
  simp only [Zb]
  rw [if_neg (by omega)]
  generalize dDays (a%n+1) (b%12+1)=k at *
  by_cases h:Int.tmod c k<0
  ·rw [bif_t h,Qc (n:=Int.tmod c k+k) (by omega) (by omega),f3.1 h,Qc (by omega) (by omega)]
  ·rw [Qa h,f3.2.1 h,Qc (by omega) (by omega)]
 unfold z12.F
 rw [if_neg (by omega)]
 by_cases h1:Int.tmod a n<0
 ·rw [bif_t h1]
  by_cases h2:Int.tmod b 12<0
  ·rw [bif_t h2,Qc (by omega) (by omega),f2.1 h2];exact hj5 _ rfl h1
  ·rw [Qa h2,f2.2.1 h2];exact hj5 _ rfl h1
 ·rw [Qa h1]
  by_cases h2:Int.tmod b 12<0
  ·rw [bif_t h2,Qc (by omega) (by omega),f2.1 h2];exact hj8 _ rfl (f1.2.1 h1)
  ·rw [Qa h2,f2.2.1 h2];exact hj8 _ rfl (f1.2.1 h1)
theorem Qw4 (s:List UInt8) (k:Nat) (hk:k<=1000000000):∀(f:Nat),k+1-s.length=f->Runs (λrec x=>z17.l0P (k:Int) rec some x) s (List.replicate f 48++s):=by
 intro f
 induction f generalizing s with
 |
  zero=>
  intro h
  refine .done λrec=>?_
  unfold z17.l0P
  rw [Qa (by omega)];rfl
 |
  succ f ih=>
  intro h
  have:=ih (48::s) (by simp;omega)
  have e:List.replicate f (48:UInt8)++48::s=List.replicate (f+1) 48++s:=by
   rw [List.replicate_succ',List.append_assoc];rfl
  rw [e] at this
  refine .step (λrec=>?_) this
  unfold z17.l0P
  rw [bif_t (by omega),if_pos (by simp;omega)]
  rfl
theorem Qty {n k:Nat} (hk:0<k/\k<=1000000) (hn:4*(dg n).length<=1000000000) (hl:(txt n).length<=100000000):z17.F (dg n) false (k:Int)=some (decTxt n k):=by
 have r:=Qw4 (txt n) k (by omega) _ rfl
 have e:z17.l0 (k:Int) (txt n)=some (padded n k):=r.lfp
 have pl:=Qnl n k
 unfold z17.F
 rw [Qle hn]
 simp only [Zb]
 rw [e]
 simp only [Zb]
 have ew:wr .i64 (((padded n k).length:Int)-(k:Int))=(((padded n k).length-k:Nat):Int):=by rw [Qc (by omega) (by omega)];omega
 rw [bif_t (by omega),ew,if_pos (by omega),if_pos (by simp;omega),if_pos (by omega),if_pos (by simp;omega),Zi]
 unfold z17.j3 decTxt
 simp
theorem shr2 (a:Int):Int.fdiv a (2^(min 2 (64:Nat)))=a/4:=by
 rw [Int.fdiv_eq_ediv_of_nonneg _ (by decide)];rfl
theorem shr4 (a:Int):Int.fdiv a (2^(min 4 (64:Nat)))=a/16:=by
 rw [Int.fdiv_eq_ediv_of_nonneg _ (by decide)];rfl
theorem Js {a b:Int} (ha:0<=a) (hb:0<b):Int.tmod a b=a%b/\0<=a%b/\a%b<b:=⟨Yk ha,Int.emod_nonneg a (by omega),Int.emod_lt_of_pos a hb⟩
theorem Qgx {a0 a1 a2 a3 a4 a5 a6 a7 a8 a9 a10 a11 most:Int} (h0:0<=a0/\a0<18446744073709551616) (h1:0<=a1/\a1<65536) (h2:0<=a2/\a2<4294967296) (h3:0<=a3/\a3<256) (h4:0<=a4/\a4<256) (h5:0<=a5/\a5<256)
  (h6:0<=a6/\a6<256) (h7:0<=a7/\a7<256) (h8:0<=a8/\a8<256) (hm:1<=most/\most<=1000) :
  ∃t:Tm,Good t most/\z18.F a0 a1 a2 a3 a4 a5 a6 a7 a8 a9 a10 a11 most=some (t.p,t.r,t.kind,t.basis,t.mode,t.y,t.m,t.d,t.every,t.count):=by
 obtain ⟨y,m,d,ed,hd,hy⟩:=Qks (a:=a9) (b:=a10) (c:=a11) (n:=9000) (by omega)
 have w8:wr .i64 a8=a8:=Qc (by omega) (by omega)
 have t8:=Js h8.1 (show (0:Int)<7 by decide)
 have t7:=Js h7.1 (show 0<most by omega)
 have t6:=Js h6.1 (show (0:Int)<5 by decide)
 have t5:=Js h5.1 (show (0:Int)<3 by decide)
 have t4:=Js h4.1 (show (0:Int)<3 by decide)
 have t3:=Js h3.1 (show (0:Int)<7 by decide)
 have t2:=Js h2.1 (show (0:Int)<100000 by decide)
 have hev:Qbo ([(1:Int),(1:Int),(2:Int),(3:Int),(4:Int),(6:Int),(12:Int)].getD (a8%7).toNat 0):=by
  have:a8%7=0\/a8%7=1\/a8%7=2\/a8%7=3\/a8%7=4\/a8%7=5\/a8%7=6:=by omega
  rcases this with h|h|h|h|h|h|h<;>rw [h]<;>decide
 have hp:∀(x:Int) (p:List UInt8),(∃n:Nat,p=txt n/\0<n/\n<=10^30)->Good ⟨p,decTxt (a2%100000).toNat (a3%7+2).toNat,a4%3,a5%3,a6%5,y,m,d,[(1:Int),(1:Int),(2:Int),(3:Int),(4:Int),(6:Int),(12:Int)].getD (a8%7).toNat 0,1+a7%most⟩ most:=λx p h=>{
  money:=h
  rate:=⟨_,_,rfl,by omega,by omega,by omega⟩
  kinds:=⟨by show 0<=a4%3/\a4%3<=2;omega,by show 0<=a5%3/\a5%3<=2;omega,by show 0<=a6%5/\a6%5<=4;omega,hev⟩
  date:=hd
  year:=hy
  count:=by show 1<=1+a7%most/\1+a7%most<=most;omega}
 have hrate:∀{α:Type} (f:List UInt8->Option α),((z9.F (Int.tmod (wr .i64 a2) 100000)).bind λr7=>((z17.F r7.1 r7.2 (wr .i64 (Int.tmod (wr .i64 a3) 7+2))).bind λr8=>f r8))=f (decTxt (a2%100000).toNat (a3%7+2).toNat):=λf=>by
  rw [Qc (n:=a2) (by omega) (by omega),Qc (n:=a3) (by omega) (by omega),t2.1,t3.1,Qc (n:=a3%7+2) (by omega) (by omega),Wk (by omega)]
  simp only [Zb]
  have e1:neg (a2%100000)=false:=Zf (by omega)
  have e2:(a2%100000).natAbs=(a2%100000).toNat:=by omega
  have e3:a3%7+2=((a3%7+2).toNat:Int):=by omega
  have l1:(dg (a2%100000).toNat).length<=5:=Yj b4 (Nat.lt_of_lt_of_le (show (a2%100000).toNat<100000 by omega) (by decide))
  have l2:(txt (a2%100000).toNat).length<=5:=Y2 (show (a2%100000).toNat<10^5 by omega) (by decide)
  rw [e1,e2]
  conv=>lhs;rw [e3]
  rw [Qty (by omega) (by omega) (by omega)]
  rfl
 have e11:((Int.natAbs 100000000000:Nat))=100000000000:=rfl
 unfold z18.F
 rw [w8,t8.1,if_pos ⟨t8.2.1,by simp;omega⟩,if_neg (by omega),ed]
 simp only [Zb]
 rw [shr2,shr4,Qc (n:=a0/4) (by omega) (by omega),Qc (n:=a0/4+1) (by omega) (by omega),Qc (n:=a0/16) (by omega) (by omega),Qc (n:=a0/16+1) (by omega) (by omega)]
 rw [Qc (n:=a4) (by omega) (by omega),Qc (n:=a5) (by omega) (by omega),Qc (n:=a6) (by omega) (by omega),Qc (n:=a7) (by omega) (by omega),t4.1,t5.1,t6.1,t7.1,Qc (n:=1+a7%most) (by omega) (by omega)]
 rw [Wk (z:=a0/4+1) (by omega)]
 simp only [Zb]
 by_cases hc:a1>60000
 ·rw [bif_t hc,Wk (by omega)]
  simp only [Zb]
  rw [Wk (by omega)]
  simp only [Zb]
  have g1:(dg (a0/16+1).natAbs).length<=20:=Nat.le_trans (Qp _) (sz_le (by omega))
  have g2:(dg (Int.natAbs 100000000000)).length<=20:=Nat.le_trans (Qp _) (sz_le (by decide))
  have hb:((a0/16+1)*100000000000).natAbs=(a0/16+1).toNat*100000000000:=by omega
  have g3:(dg ((a0/16+1)*100000000000).natAbs).length<=40:=Nat.le_trans (Qp _) (sz_le (by omega))
  have g4:(txt ((a0/16+1)*100000000000).natAbs).length<=40:=Y2 (by omega) (by decide)
  rw [Qhi (by omega)]
  simp only [Zb]
  rw [Qkl (by omega) (by omega),if_neg (by omega)]
  simp only [Zb]
  refine ⟨_,hp 0 (txt ((a0/16+1)*100000000000).natAbs) ⟨_,rfl,by omega,by omega⟩,?_⟩
  rw [hrate]
 ·rw [Qa hc]
  have g3:(dg (a0/4+1).natAbs).length<=20:=Nat.le_trans (Qp _) (sz_le (by omega))
  have g4:(txt (a0/4+1).natAbs).length<=20:=Y2 (by omega) (by decide)
  rw [Qkl (by omega) (by omega),if_neg (by omega)]
  simp only [Zb]
  refine ⟨_,hp 0 (txt (a0/4+1).natAbs) ⟨_,rfl,by omega,by omega⟩,?_⟩
  rw [hrate]
def dv (x:D3):List V:=[.int .i64 x.1,.int .i64 x.2.1,.int .i64 x.2.2]
def pv (x:D3×D3):List V:=[.int .i64 x.1.1,.int .i64 x.1.2.1,.int .i64 x.1.2.2,.int .i64 x.2.1,.int .i64 x.2.2.1,.int .i64 x.2.2.2]
theorem asD0 {R:Type} (x:D3) (K:Int->Option R):V.asInt .i64 ((dv x).getD 0 .undef) K=K x.1:=by simp [dv,V.asInt]
theorem asD1 {R:Type} (x:D3) (K:Int->Option R):V.asInt .i64 ((dv x).getD 1 .undef) K=K x.2.1:=by simp [dv,V.asInt]
theorem asD2 {R:Type} (x:D3) (K:Int->Option R):V.asInt .i64 ((dv x).getD 2 .undef) K=K x.2.2:=by simp [dv,V.asInt]
theorem asP0 {R:Type} (x:D3×D3) (K:Int->Option R):V.asInt .i64 ((pv x).getD 0 .undef) K=K x.1.1:=by simp [pv,V.asInt]
theorem asP1 {R:Type} (x:D3×D3) (K:Int->Option R):V.asInt .i64 ((pv x).getD 1 .undef) K=K x.1.2.1:=by simp [pv,V.asInt]
theorem asP2 {R:Type} (x:D3×D3) (K:Int->Option R):V.asInt .i64 ((pv x).getD 2 .undef) K=K x.1.2.2:=by simp [pv,V.asInt]
theorem asP3 {R:Type} (x:D3×D3) (K:Int->Option R):V.asInt .i64 ((pv x).getD 3 .undef) K=K x.2.1:=by simp [pv,V.asInt]
theorem asP4 {R:Type} (x:D3×D3) (K:Int->Option R):V.asInt .i64 ((pv x).getD 4 .undef) K=K x.2.2.1:=by simp [pv,V.asInt]
theorem asP5 {R:Type} (x:D3×D3) (K:Int->Option R):V.asInt .i64 ((pv x).getD 5 .undef) K=K x.2.2.2:=by simp [pv,V.asInt]
def Wv (y m d step:Int) (n:Nat):List D3:=(List.range n).map λk:Nat=>addM y m d ((k+1:Nat)*step)
theorem Qkf (y m d step:Int) (n:Nat):(Wv y m d step n).length=n:=by simp [Wv]
theorem Qdc {y m d step:Int} {n i:Nat} (h:i<(Wv y m d step n).length):(Wv y m d step n)[i]=addM y m d ((i+1:Nat)*step):=by simp [Wv]
theorem Qq7 (y m d step:Int) (n:Nat):Wv y m d step (n+1)=Wv y m d step n++[addM y m d ((n+1:Nat)*step)]:=by
 unfold Wv;rw [List.range_succ,List.map_append];rfl
theorem Qfp {y m k k':Int} (h:okM y m k) (h0:0<=k') (hk:k'<=k) (hm:12<=(12*y+m-1)):okM y m k':=by omega
theorem Ql4 {y m d step:Int} {n:Nat} (hr:right y m d) (hs:1<=step/\step<=12) (hn:n<=1200) (ho:okM y m (n*step)):∀(f k:Nat),k+f=n ->
  Runs (λrec x=>z92.l0P step (n:Int) y m d rec some x) (((k+1:Nat):Int),(Wv y m d step k).map dv) (.inl (((n+1:Nat):Int),(Wv y m d step n).map dv))
 |
  0,k,hk=>by
  have:k=n:=by omega
  subst this
  refine .done λrec=>?_
  unfold z92.l0P
  simp only
  rw [Qa (by omega)]
 |
  f+1,k,hk=>by
  have g:=Q3 hr
  have ih:=Ql4 hr hs hn ho f (k+1) (by omega)
  have hb:((k+1:Nat):Int)*step<=n*step:=Int.mul_le_mul_of_nonneg_right (by omega) (by omega)
  have hb0:0<=((k+1:Nat):Int)*step:=Int.mul_nonneg (by omega) (by omega)
  have hb1:(n:Int)*step<=1200*12:=Int.mul_le_mul (by omega) (by omega) (by omega) (by omega)
  refine .step (λrec=>?_) ih
  unfold z92.l0P
  simp only
  rw [bif_t (by omega),if_neg (by omega),Qc (n:=((k+1:Nat):Int)*step) (by omega) (by omega),month_Add,if_pos ⟨hr,Qfp ho hb0 hb (by omega)⟩]
  simp only [Zb,decide_true,Zn,Zc]
  rw [if_pos (by rw [List.length_map,Qkf];simp;omega),Qc (by omega) (by omega),Qq7,List.map_append]
  rfl
theorem month_Series {y m d step:Int} {n:Nat} (hr:right y m d) (hs:1<=step/\step<=12) (hn:n<=1200) (ho:okM y m (n*step)):z92.F y m d step (n:Int)=some ((Wv y m d step n).map dv,0):=by
 have e:z92.l0 step (n:Int) y m d ((1:Int),[])=some (.inl (((n+1:Nat):Int),(Wv y m d step n).map dv)):=(Ql4 hr hs hn ho n 0 (by omega)).lfp
 unfold z92.F z92.j1
 rw [Qa (by omega),Qa (by omega),Qa (by omega),date_Check]
 simp only [Zb]
 rw [if_pos hr,e]
 rfl
def Tm.dates (t:Tm):List D3:=Wv t.y t.m t.d t.every t.count.toNat
theorem W6 {t:Tm} (h:mCheck t=0):kindsOK t/\(1<=t.count/\t.count<=1200)/\right t.y t.m t.d/\okM t.y t.m (t.every*t.count):=by
 unfold mCheck at h
 split at h
 ·exact absurd h ‹_›
 ·split at h
  ·simp at h
  ·split at h
   ·exact absurd h ‹_›
   ·split at h
    ·simp at h
    ·rename_i hk
     split at h
     ·simp at h
     ·split at h
      ·rename_i h5 h6
       exact ⟨Decidable.not_not.1 hk,by omega,h6.1,h6.2⟩
      ·simp at h
theorem J5 {e:Int} (h:Qbo e):1<=e/\e<=12:=by omega
theorem dues_Dates (t:Tm):z93.F t.p t.r t.kind t.basis t.mode t.y t.m t.d t.every t.count=some (if mCheck t=0 then (t.dates.map dv,0) else ([],mCheck t)):=by
 unfold z93.F
 rw [terms_Check]
 simp only [Zb]
 by_cases h:mCheck t=0
 ·obtain ⟨hk,hc,hr,ho⟩:=W6 h
  have he:=J5 hk.2.2.2
  have ec:t.count=(t.count.toNat:Int):=by omega
  rw [Zt h,if_pos h]
  simp only [Zn,Zc]
  have hs:=month_Series (y:=t.y) (m:=t.m) (d:=t.d) (step:=t.every) (n:=t.count.toNat) hr he (by omega) (by rw [<-ec,Int.mul_comm];exact ho)
  rw [<-ec] at hs
  rw [hs];rfl
 ·rw [Zf h,if_neg h];rfl
def pairs (a:D3):List D3->List (D3×D3)
 |[]=>[]
 |b::l=>(a,b)::pairs b l
theorem Qfh:∀(a:D3) (l:List D3),(pairs a l).length=l.length
 |_,[]=>rfl
 |a,b::l=>by simp [pairs,Qfh b l]
theorem Qpo {l:List D3} (hl:l.length<=2000):∀(f i:Nat) (s:List (List V)) (a:D3),i+f=l.length->s.length=i ->
  ∃z,Runs (λrec x=>z94.l0P (l.map dv) (l.length:Int) rec some x) ((i:Int),s,a.1,a.2.1,a.2.2) ((l.length:Int),s++(pairs a (l.drop i)).map pv,z)
 |
  0,i,s,a,hf,hs=>by
  have:i=l.length:=by omega
  refine ⟨(a.1,a.2.1,a.2.2),.done λrec=>?_⟩
  ·unfold z94.l0P
   simp only
   rw [Qa (by omega),List.drop_eq_nil_of_le (by omega),this];simp [pairs]
 |
  f+1,i,s,a,hf,hs=>by
  have hi:i<l.length:=by omega
  obtain ⟨z,r⟩:=Qpo hl f (i+1) (s++[pv (a,l[i])]) l[i] (by omega) (by simp;omega)
  refine ⟨z,.step (λrec=>?_) (by rw [List.drop_eq_getElem_cons hi];simp only [pairs,List.map_cons];rw [<-List.append_cons] at r;exact r)⟩
  unfold z94.l0P
  simp only
  rw [bif_t (by omega),if_pos (by rw [List.length_map];omega),Zi,Q1 dv hi]
  rw [asD0,asD1,asD2,if_pos (by simp;omega),Qc (by omega) (by omega)]
  rfl
def Tm.start (t:Tm):D3:=(t.y,t.m,t.d)
def Tm.periods (t:Tm):List (D3×D3):=pairs t.start t.dates
theorem Tm.dates_len (t:Tm):t.dates.length=t.count.toNat:=Qkf _ _ _ _ _
theorem dues_Periods (t:Tm):z94.F t.p t.r t.kind t.basis t.mode t.y t.m t.d t.every t.count=some (if mCheck t=0 then (t.periods.map pv,0) else ([],mCheck t)):=by
 unfold z94.F
 rw [dues_Dates]
 simp only [Zb]
 by_cases h:mCheck t=0
 ·obtain ⟨hk,hc,hr,ho⟩:=W6 h
  rw [if_pos h,if_pos h]
  simp only [decide_true,Zn,Zc,List.length_map]
  have hl:=t.dates_len
  obtain ⟨z,r⟩:=Qpo (l:=t.dates) (by omega) t.dates.length 0 [] t.start (by omega) rfl
  have e:z94.l0 (t.dates.map dv) (t.dates.length:Int) ((0:Int),[],t.y,t.m,t.d)=_:=r.lfp
  rw [e]
  rfl
 ·rw [if_neg h,if_neg h]
  simp only
  rw [Zf h];rfl
theorem Qqq {y m d k k':Int} (h:right y m d) (h1:okM y m k) (h2:okM y m k') (hlt:k<k'):numD (addM y m d k)<numD (addM y m d k'):=by
 refine Qhg (Qkq h h1) (Qkq h h2) ?_
 show ((12*y+m-1)+k)/12<((12*y+m-1)+k')/12\/((12*y+m-1)+k)/12=((12*y+m-1)+k')/12/\(((12*y+m-1)+k)%12+1<((12*y+m-1)+k')%12+1\/_)
 omega
theorem Qnb {y m d:Int} (h:right y m d):addM y m d 0=(y,m,d):=by
 have g:=Q3 h
 unfold addM
 have e1:((12*y+m-1)+0)/12=y:=by omega
 have e2:((12*y+m-1)+0)%12+1=m:=by omega
 rw [e1,e2]
 have:=h.2
 congr 2;omega
structure Qwt (t:Tm):Prop where
 right:∀j (h:j<t.dates.length),rightD t.dates[j]
 start:rightD t.start
 first:∀j (h:j<t.dates.length),numD t.start<numD t.dates[j]
 lt:∀i j (hi:i<t.dates.length) (hj:j<t.dates.length),i<j->numD t.dates[i]<numD t.dates[j]
theorem Qwn {t:Tm} (h:mCheck t=0):Qwt t:=by
 obtain ⟨hk,hc,hr,ho⟩:=W6 h
 have he:=J5 hk.2.2.2
 have hl:=t.dates_len
 have g:=Q3 hr
 have key:∀j:Nat,j<t.dates.length->okM t.y t.m ((j+1:Nat)*t.every)/\0<((j+1:Nat):Int)*t.every:=λj hj=>by
  have a1:((j+1:Nat):Int)*t.every<=t.count*t.every:=Int.mul_le_mul_of_nonneg_right (by omega) (by omega)
  have a2:0<((j+1:Nat):Int)*t.every:=Int.mul_pos (by omega) (by omega)
  rw [Int.mul_comm t.count] at a1
  exact ⟨Qfp ho (by omega) a1 (by omega),a2⟩
 have h0:okM t.y t.m 0:=by omega
 refine ⟨λj hj=>?_,hr,λj hj=>?_,λi j hi hj hij=>?_⟩
 ·have e:t.dates[j]=addM t.y t.m t.d ((j+1:Nat)*t.every):=Qdc hj
  rw [e];exact Qkq hr (key j hj).1
 ·have e:t.dates[j]=addM t.y t.m t.d ((j+1:Nat)*t.every):=Qdc hj
  have z:t.start=addM t.y t.m t.d 0:=(Qnb hr).symm
  rw [e,z];exact Qqq hr h0 (key j hj).1 (key j hj).2
 ·have e:t.dates[j]=addM t.y t.m t.d ((j+1:Nat)*t.every):=Qdc hj
  have e':t.dates[i]=addM t.y t.m t.d ((i+1:Nat)*t.every):=Qdc hi
  rw [e,e']
  exact Qqq hr (key i hi).1 (key j hj).1 (Int.mul_lt_mul_of_pos_right (by omega) (by omega))
def Qet:Tm:=⟨[],[],0,0,0,0,0,0,0,0⟩
theorem Qe8:mCheck Qet=5:=by decide +kernel
theorem Qj0 (t:Tm):mCheck t=0↔((mMoney t.p).2=0/\(mMoney t.p).1≠0)/\(mRate t.r).2=0/\kindsOK t/\(1<=t.count/\t.count<=1200)/\right t.y t.m t.d/\okM t.y t.m (t.every*t.count):=by
 constructor
 ·intro h
  have h':=W6 h
  unfold mCheck at h
  split at h
  ·exact absurd h ‹_›
  ·split at h
   ·simp at h
   ·split at h
    ·exact absurd h ‹_›
    ·rename_i h1 h2 h3
     exact ⟨⟨Decidable.not_not.1 h1,h2⟩,Decidable.not_not.1 h3,h'⟩
 ·rintro ⟨⟨h1,h2⟩,h3,h4,h5,h6,h7⟩
  unfold mCheck
  rw [if_neg (λhh=>hh h1),if_neg h2,if_neg (λhh=>hh h3),if_neg (λhh=>hh h4),if_neg (by omega),if_pos ⟨h6,h7⟩]
theorem Qiv {b r:Nat} (hb:0<b) (hs:sz b+sz r<=300000000):∀(f lo hi:Nat),hi-lo<=f->lo<=hi->hi<=9999->b*lo<=r->r<b*(hi+1) ->
  Runs (λrec x=>z115.l2P (dg b) (dg r) rec some x) ((lo:Int),(hi:Int)) (((r/b:Nat):Int),((r/b:Nat):Int))
 |
  0,lo,hi,hf,hl,hh,h1,h2=>by
  have:lo=hi:=by omega
  subst this
  have e:r/b=lo:=Nat.div_eq_of_lt_le (by rw [Nat.mul_comm];exact h1) (by rw [Nat.mul_comm];exact h2)
  rw [e]
  refine .done λrec=>?_
  unfold z115.l2P
  simp only
  rw [Qa (by omega)]
 |
  f+1,lo,hi,hf,hl,hh,h1,h2=>by
  by_cases h:lo<hi
  ·have e1:wr .i64 (Int.tdiv (wr .i64 (wr .i64 ((lo:Int)+(hi:Int))+1)) 2)=(((lo+hi+1)/2:Nat):Int):=by
    rw [Qc (n:=(lo:Int)+(hi:Int)) (by omega) (by omega),Qc (n:=(lo:Int)+(hi:Int)+1) (by omega) (by omega),Yd (by omega),Qc (by omega) (by omega)];omega
   obtain ⟨mid,hmid⟩:∃mid,(lo+hi+1)/2=mid:=⟨_,rfl⟩
   rw [hmid] at e1
   have sm:sz mid<=4:=sz_le (by omega)
   have sbm:=Q7 b mid
   have l1:=Qp b
   have l2:=Qp mid
   have l3:=Qp (b*mid)
   have step:∀rec:(Int×Int)->Option (Int×Int),z115.l2P (dg b) (dg r) rec some ((lo:Int),(hi:Int))=if b*mid<=r then rec ((mid:Int),(hi:Int)) else rec ((lo:Int),((mid-1:Nat):Int)):=λrec=>by
    unfold z115.l2P
    simp only
    rw [bif_t (by omega),e1,Qfk (by omega)]
    simp only [Zb]
    rw [Qdp (by omega)]
    simp only [Zb]
    rw [Qjy (by omega)]
    simp only [Zb]
    by_cases hc:b*mid<=r
    ·rw [if_pos hc,bif_t (by
      rcases Nat.lt_or_eq_of_le hc with h3|h3
      ·exact Int.le_of_lt (Q6.2 (by exact_mod_cast h3))
      ·exact Int.le_of_eq (Yt.2 (by exact_mod_cast h3)))]
    ·rw [if_neg hc,Qa (by
      have:=Wh (m:=((b*mid:Nat):Int)) (n:=(r:Int))
      have h4:=this.2 (by exact_mod_cast Nat.lt_of_not_le hc)
      omega),Qc (n:=(mid:Int)-1) (by omega) (by omega)]
     congr 2;omega
   by_cases hc:b*mid<=r
   ·refine .step (λrec=>?_) (Qiv hb hs f mid hi (by omega) (by omega) hh hc h2)
    rw [step,if_pos hc]
   ·refine .step (λrec=>?_) (Qiv hb hs f lo (mid-1) (by omega) (by omega) (by omega) h1 (by rw [show mid-1+1=mid by omega];omega))
    rw [step,if_neg hc]
  ·have:lo=hi:=by omega
   subst this
   have e:r/b=lo:=Nat.div_eq_of_lt_le (by rw [Nat.mul_comm];exact h1) (by rw [Nat.mul_comm];exact h2)
   rw [e]
   refine .done λrec=>?_
   unfold z115.l2P
   simp only
   rw [Qa (by omega)]
theorem Qn6 {a:List Int} {b N:Nat} (ha:inB 10000 a) (hb:0<b) (hs:sz b<=100000000) (hl:a.length<=800000000) (hN:(N:Int)=valB 10000 a) :
  ∀
   (k:Nat),k<=a.length->∀(m:Nat) (q:List Int),(m:Int)=valB 10000 (a.drop k)->q.length=a.length->inB 10000 q->valB 10000 (q.drop k)=((m/b:Nat):Int) ->
   ∃q',Runs (λrec x=>z115.l0aP a (dg b) rec some x) (dg (m%b),(k:Int)-1,q) (dg (N%b),(-1:Int),q')/\q'.length=a.length/\inB 10000 q'/\valB 10000 q'=((N/b:Nat):Int)
 |
  0,hk,m,q,hm,hq,hi,hv=>by
  have:m=N:=by rw [List.drop_zero] at hm;omega
  subst this
  refine ⟨q,.done λrec=>?_,hq,hi,by rwa [List.drop_zero] at hv⟩
  unfold z115.l0aP
  simp only
  rw [Qa (by omega)];rfl
 |
  k+1,hk,m,q,hm,hq,hi,hv=>by
  have hka:k<a.length:=by omega
  have hkq:k<q.length:=by omega
  have hd:=Q2 (B:=10000) (by decide) ha k
  obtain ⟨d,hd'⟩:∃d:Nat,a.getD k 0=(d:Int):=⟨(a.getD k 0).toNat,by omega⟩
  have hd2:d<10000:=by omega
  obtain ⟨r,hr⟩:∃r,m%b=r:=⟨_,rfl⟩
  have hrb:r<b:=hr▸Nat.mod_lt m hb
  obtain ⟨x,hx⟩:∃x,d+10000*r=x:=⟨_,rfl⟩
  have hxb:x<b*10000:=by omega
  have sx:sz x<=sz b+4:=sz_le (by
   have h1:=J6 b
   rw [Nat.pow_add]
   exact Nat.lt_of_lt_of_le hxb (Nat.mul_le_mul_right _ (Nat.le_of_lt h1)))
  have sr:sz r<=sz b:=Qu (by omega)
  have l1:=Qp x
  have l2:=Qp r
  have l3:=Qp b
  obtain ⟨z,hz⟩:∃z,x/b=z:=⟨_,rfl⟩
  obtain ⟨w,hw⟩:∃w,x%b=w:=⟨_,rfl⟩
  obtain ⟨y,hy⟩:∃y,m/b=y:=⟨_,rfl⟩
  have hq1:z<10000:=hz▸Nat.div_lt_of_lt_mul hxb
  have hdm:b*z+w=x:=by rw [<-hz,<-hw];exact Nat.div_add_mod x b
  have hmm:b*y+r=m:=by rw [<-hy,<-hr];exact Nat.div_add_mod m b
  have hm':((d+10000*m:Nat):Int)=valB 10000 (a.drop k):=by rw [Wb,hd',<-hm];omega
  have e:d+10000*m=x+b*(10000*y):=by
   have h4:b*(10000*y)=10000*(b*y):=by rw [<-Nat.mul_assoc,Nat.mul_comm b 10000,Nat.mul_assoc]
   omega
  have hdiv:(d+10000*m)/b=z+10000*y:=by rw [e,Nat.add_mul_div_left _ _ hb,hz]
  have hmod:(d+10000*m)%b=w:=by rw [e,Nat.add_mul_mod_self_left,hw]
  have hvq:valB 10000 ((q.set k (z:Int)).drop k)=(((d+10000*m)/b:Nat):Int):=by
   rw [Wb,Qfj,hv,hdiv,hy]
   have:(q.set k (z:Int)).getD k 0=(z:Int):=by simp [List.getD,hkq]
   rw [this];omega
  obtain ⟨q',r1,r2,r3,r4⟩:=Qn6 ha hb hs hl hN k (by omega) (d+10000*m) (q.set k (z:Int)) hm' (by simp [hq]) (Yc hi (by show (0:Int)<=(z:Int)/\(z:Int)<10000;omega)) hvq
  rw [hmod] at r1
  refine ⟨q',.step (λrec=>?_) r1,r2,r3,r4⟩
  have hsr:=Qiv (b:=b) (r:=x) hb (by omega) 9999 0 9999 (by omega) (by omega) (by omega) (by omega) (by omega)
  have es:z115.l2 (dg b) (dg x) ((0:Int),(9999:Int))=some (((x/b:Nat):Int),((x/b:Nat):Int)):=hsr.lfp
  rw [hz] at es
  have et:z14.F ([(d:Int)]++dg r)=some (dg x):=by
   rw [Qcf (Qkb.2 ⟨Wt.2 ⟨by omega,inB_nil _⟩,Qx b4 r⟩) (by show ([(d:Int)]++dg r).length<=1000000000;rw [List.length_append,List.length_singleton];omega)]
   have:valB 10000 ([(d:Int)]++dg r)=(x:Int):=by
    show (d:Int)+((10000:Nat):Int)*valB 10000 (dg r)=x
    rw [Q8 b4];omega
   rw [this];rfl
  have szz:sz z<=4:=sz_le (by omega)
  have l4:=Qp z
  have l5:=Qp (b*z)
  have sbz:=Q7 b z
  have ek:((k+1:Nat):Int)-1=(k:Int):=by omega
  unfold z115.l0aP
  simp only
  rw [ek,bif_t (by omega),if_pos (by omega),Zi,hd',hr,if_pos (by rw [List.length_singleton];omega),et]
  simp only [Zb]
  rw [es]
  simp only [Zb]
  rw [if_pos (by omega),if_pos hkq,Qfk (by omega)]
  simp only [Zb]
  rw [Qdp (by omega)]
  simp only [Zb]
  rw [Qh1 (by omega) (by omega)]
  simp only [Zb]
  rw [Qc (by omega) (by omega),show x-b*z=w by omega]
theorem Qd0 {a b:Nat} (hb:0<b) (ha:sz a<=700000000) (hs:sz b<=100000000):z115.F (dg a) (dg b)=some (dg (a/b),dg (a%b)):=by
 have l1:=Qp a
 obtain ⟨q',r1,r2,r3,r4⟩:=Qn6 (a:=dg a) (b:=b) (N:=a) (Qx b4 a) hb hs (by omega) (by rw [Q8 b4]) (dg a).length (Nat.le_refl _) 0 (List.replicate (dg a).length 0) (by rw [List.drop_length];rfl) (by simp) (Qa4 (by decide) _) (by rw [List.drop_eq_nil_of_le (by simp)];simp [valB])
 rw [Nat.zero_mod,Qcg] at r1
 have e:z115.l0a (dg a) (dg b) ([],((dg a).length:Int)-1,List.replicate (dg a).length 0)=some (dg (a%b),(-1:Int),q'):=r1.lfp
 unfold z115.F
 rw [if_pos (by omega),Zi,Qc (by omega) (by omega),e]
 simp only [Zb]
 rw [Qcf r3 (by show List.length _<=_;omega),r4]
 rfl
theorem Q10 {a b:Nat} (ha:sz a<=100000000) (hb:sz b<=100000000):z116.F (dg a) (dg b)=some (dg (Nat.gcd a b)):=by
 have key:∀(f a b:Nat),b<f->sz a<=100000000->sz b<=100000000->Runs (λrec x=>z116.l0P rec some x) (dg a,dg b) (dg (Nat.gcd a b),[]):=by
  intro f
  induction f with
  |zero=>intro a b h;omega
  |
   succ f ih=>
   intro a b h ha hb
   rcases Nat.eq_zero_or_pos b with h0|h0
   ·subst h0
    refine .done λrec=>?_
    unfold z116.l0P
    simp only
    rw [Qa (by rw [Qcg];simp),Nat.gcd_zero_right,Qcg]
   ·have hm:=Nat.mod_lt a h0
    have e:Nat.gcd a b=Nat.gcd b (a%b):=by rw [Nat.gcd_comm,Nat.gcd_rec,Nat.gcd_comm]
    have hsm:sz (a%b)<=sz b:=Qu (by omega)
    rw [e]
    refine .step (λrec=>?_) (ih b (a%b) (by omega) hb (by omega))
    unfold z116.l0P
    simp only
    rw [bif_t ((Qhn b).2 h0),Qd0 h0 (by omega) hb]
    rfl
 unfold z116.F
 have e:z116.l0 (dg a,dg b)=some (dg (Nat.gcd a b),[]):=(key (b+1) a b (by omega) ha hb).lfp
 rw [e];rfl
abbrev rf (q:Rat):List Int×Bool×List Int:=(dg q.num.natAbs,neg q.num,dg q.den)
theorem Qdt {num:Int} {den:Nat} (h0:0<den) (hn:sz num.natAbs<=100000000) (hd:sz den<=100000000):z117.F (dg num.natAbs) (neg num) (dg den)=some (rf (mkRat num den)):=by
 have hg:0<Nat.gcd num.natAbs den:=Nat.gcd_pos_of_pos_right _ h0
 have hgs:sz (Nat.gcd num.natAbs den)<=sz den:=Qu (Nat.gcd_le_right _ h0)
 obtain ⟨q1,q2⟩:=Qh0 (Nat.gcd_dvd_left num.natAbs den) hg
 unfold z117.F
 rw [Q10 hn hd]
 simp only [Zb]
 show _=some (dg (mkRat num den).num.natAbs,neg (mkRat num den).num,dg (mkRat num den).den)
 rw [Rat.num_mkRat,Rat.den_mkRat,if_neg (by omega),if_neg (by omega),Nat.gcd_comm den]
 generalize Nat.gcd num.natAbs den=g at *
 rw [Qd0 hg (by omega) (by omega)]
 simp only [Zb]
 rw [Qd0 hg (by omega) (by omega)]
 simp only [Zb]
 rw [Y5 (z:=num/(g:Int)) q1.symm (by
  have hz:num/(g:Int)<0↔num<0:=q2
  by_cases h:num<0
  ·exact .inl ⟨Zt h,by omega⟩
  ·exact .inr ⟨Zf h,by omega⟩)]
 rfl
theorem Qja {num den:Int} (h0:den≠0) (hn:sz num.natAbs<=100000000) (hd:sz den.natAbs<=100000000):z118.F (dg num.natAbs) (neg num) (dg den.natAbs) (neg den)=some (rf (Rat.divInt num den)):=by
 unfold z118.F
 by_cases h:den<0
 ·have e:Rat.divInt num den=mkRat (-num) den.natAbs:=by
   have:den = -((den.natAbs:Nat):Int):=by omega
   conv=>lhs;rw [this]
   rw [Rat.divInt_neg',Rat.divInt_ofNat]
  rw [bif_t h,Qkc]
  simp only [Zb]
  rw [Qdt (by omega) (by rw [Int.natAbs_neg];exact hn) hd,e]
  rfl
 ·have e:Rat.divInt num den=mkRat num den.natAbs:=by
   have:den=((den.natAbs:Nat):Int):=by omega
   conv=>lhs;rw [this]
   rw [Rat.divInt_ofNat]
  rw [Qa h,Qdt (by omega) hn hd,e]
  rfl
theorem Yf {a b:Int} (ha:-9223372036854775808<a/\a<9223372036854775808) (hb:-9223372036854775808<b/\b<9223372036854775808) (h0:b≠0):z119.F a b=some (rf (Rat.divInt a b)):=by
 have s1:sz a.natAbs<=20:=sz_le (by omega)
 have s2:sz b.natAbs<=20:=sz_le (by omega)
 unfold z119.F
 rw [Wk ha]
 simp only [Zb]
 rw [Wk hb]
 simp only [Zb]
 rw [Qja h0 (by omega) (by omega)]
 rfl
theorem Qee {q r:Rat} (hs:sz q.num.natAbs+sz r.den<=800000000) (a:List Int) (b:List Int) (c:Bool):z122.F (dg q.num.natAbs) (neg q.num) a b c (dg r.den)=some (dg (q.num*r.den).natAbs,neg (q.num*r.den)):=by
 have l1:=Qp q.num.natAbs
 have l2:=Qp r.den
 have l3:(dg (r.den:Int).natAbs).length=(dg r.den).length:=rfl
 unfold z122.F
 rw [Y5 (z:=(r.den:Int)) (n:=r.den) (by omega) (.inr ⟨rfl,by omega⟩)]
 simp only [Zb]
 rw [Qhi (by omega)]
 rfl
theorem Qxn {q r:Rat} (hs:sz q.num.natAbs+sz r.den<=300000000) (hs':sz r.num.natAbs+sz q.den<=300000000):z123.F (rf q).1 (rf q).2.1 (rf q).2.2 (rf r).1 (rf r).2.1 (rf r).2.2=some (cmpI (q.num*r.den) (r.num*q.den)):=by
 have m1:=Q7 q.num.natAbs (r.den:Int).natAbs
 have m2:=Q7 r.num.natAbs (q.den:Int).natAbs
 rw [<-Int.natAbs_mul] at m1 m2
 have e1:sz (r.den:Int).natAbs=sz r.den:=rfl
 have e2:sz (q.den:Int).natAbs=sz q.den:=rfl
 have l1:=Qp (q.num*r.den).natAbs
 have l2:=Qp (r.num*q.den).natAbs
 unfold z123.F
 rw [Qee (by omega)]
 simp only [Zb]
 rw [Qee (by omega)]
 simp only [Zb]
 rw [Qj2 (by omega)]
 rfl
theorem Qhd {q r:Rat} (h0:r≠0) (hs:sz q.num.natAbs+sz r.den<=90000000) (hs':sz r.num.natAbs+sz q.den<=90000000):z124.F (rf q).1 (rf q).2.1 (rf q).2.2 (rf r).1 (rf r).2.1 (rf r).2.2=some (rf (q/r)):=by
 have m1:=Q7 q.num.natAbs (r.den:Int).natAbs
 have m2:=Q7 r.num.natAbs (q.den:Int).natAbs
 rw [<-Int.natAbs_mul] at m1 m2
 have e1:sz (r.den:Int).natAbs=sz r.den:=rfl
 have e2:sz (q.den:Int).natAbs=sz q.den:=rfl
 have l1:=Qp r.num.natAbs
 have l2:=Qp (q.den:Int).natAbs
 have hr:r.num≠0:=λh=>h0 (Rat.num_eq_zero.1 h)
 have hqd:=q.den_nz
 unfold z124.F
 rw [Qee (by omega)]
 simp only [Zb]
 rw [Y5 (z:=(q.den:Int)) (n:=q.den) (by omega) (.inr ⟨rfl,by omega⟩)]
 simp only [Zb]
 rw [Qhi (by omega)]
 simp only [Zb]
 rw [Qja (Int.mul_ne_zero hr (by omega)) (by omega) (by omega),Qkh,Int.mul_comm (q.den:Int)]
 rfl
theorem Y4 {s:List UInt8} {i:Nat} (h:i<s.length):s.getD i 0=s[i]:=by simp [List.getD,h]
theorem Qrl (t:Nat) (ht:t<=1000000):∀(f i:Nat),i+f=t->Runs (λrec x=>z105.l0P (t:Int) rec some x) ((49:UInt8)::List.replicate i 48,(i:Int)) ((49:UInt8)::List.replicate t 48,(t:Int))
 |
  0,i,hf=>by
  have:i=t:=by omega
  subst this
  refine .done λrec=>?_
  unfold z105.l0P
  simp only
  rw [Qa (by omega)]
 |
  f+1,i,hf=>by
  refine .step (λrec=>?_) (Qrl t ht f (i+1) (by omega))
  unfold z105.l0P
  simp only
  rw [bif_t (by omega),if_pos (by simp;omega),Qc (by omega) (by omega),List.replicate_succ']
  rfl
theorem Ql2:∀(t:Nat) (a:Int),tv a (List.replicate t 48)=a*(10^t:Nat)
 |0,a=>by simp [tv]
 |
  t+1,a=>by
  rw [List.replicate_succ]
  show tv (10*a+((48:UInt8).toNat:Int)-48) (List.replicate t 48)=_
  rw [Ql2 t,Nat.pow_succ,Int.natCast_mul]
  have:((48:UInt8).toNat:Int)=48:=rfl
  rw [this]
  generalize ((10^t:Nat):Int)=p
  grind
theorem Qos {t:Nat} (ht:t<=1000000):z105.F (t:Int)=some (dg (10^t)):=by
 have e:z105.l0 (t:Int) ([49],(0:Int))=some ((49:UInt8)::List.replicate t 48,(t:Int)):=(Qrl t ht t 0 (by omega)).lfp
 have hd:Qv ((49:UInt8)::List.replicate t 48):=λb hb=>by
  rcases List.mem_cons.1 hb with h|h
  ·subst h;unfold digit;decide
  ·rw [List.eq_of_mem_replicate h];unfold digit;decide
 have hv:tv 0 ((49:UInt8)::List.replicate t 48)=((10^t:Nat):Int):=by
  show tv 1 (List.replicate t 48)=_
  rw [Ql2];simp
 unfold z105.F
 rw [e]
 simp only [Zb]
 rw [Qfu hd (by simp;omega),hv]
 rfl
def scan:List UInt8->List UInt8->Int->Int->Bool->Option (List UInt8×Int×Int×Bool)
 |[],all,ah,bh,z=>some (all,ah,bh,z)
 |
  b::t,all,ah,bh,z=>
  if b.toNat=46/\bh<0 then scan t all ah 0 z
  else if isD b=false then none
  else if bh<0 then scan t (all++[b]) (ah+1) bh (z&&decide (b.toNat=48))
  else scan t (all++[b]) ah (bh+1) (z&&decide (b.toNat=48))
def Qec (n:Int):Option (List UInt8×Int×Int×Bool)->(Int×List UInt8×Int×Int×Bool)⊕Int
 |none=>.inr 5
 |some r=>.inl (n,r.1,r.2.1,r.2.2.1,r.2.2.2)
theorem Qsv {s:List UInt8} (hs:s.length<=1000000) {i:Nat} (hi:i<s.length) (all:List UInt8) (ha:all.length<=1000000) (z:Bool) (x y:Int) {R:Type} (rec:(Int×List UInt8×Int×Int×Bool)->Option R) (done:((Int×List UInt8×Int×Int×Bool)⊕Int)->Option R) :
  z120.j11016a rec done z (i:Int) s all x y=rec (((i+1:Nat):Int),all++[s[i]],x,y,(z&&decide (s[i].toNat=48))):=by
 have e1:wr .i64 ((i:Int)+1)=((i+1:Nat):Int):=by rw [Qc (by omega) (by omega)];rfl
 have e2:(s.drop i).take (i+1-i)=[s[i]]:=by
  rw [show i+1-i=1 by omega,List.drop_eq_getElem_cons hi];rfl
 have e3:decide ((s[i].toNat:Int)=48)=decide (s[i].toNat=48):=decide_eq_decide.2 (by omega)
 unfold z120.j11016a
 simp only [e1,Zi,e2,Y4 hi,e3]
 cases z with
 |true=>simp only [Zd,Bool.true_and];rw [if_pos (by omega),if_pos (by omega),if_pos (by simp;omega)]
 |false=>simp only [Zc,Bool.false_and];rw [if_pos (by omega),if_pos (by simp;omega)]
theorem Qfv {s:List UInt8} (hs:s.length<=1000000):∀(f i:Nat) (all:List UInt8) (ah bh:Int) (z:Bool),i+f=s.length->all.length<=i->(0<=ah/\ah<=i)->(-1<=bh/\bh<=i) ->
  Runs (λrec x=>z120.l0b10P s rec some x) ((i:Int),all,ah,bh,z) (Qec (s.length:Int) (scan (s.drop i) all ah bh z))
 |
  0,i,all,ah,bh,z,hf,_,_,_=>by
  refine .done λrec=>?_
  unfold z120.l0b10P
  simp only
  rw [Qa (by omega),List.drop_eq_nil_of_le (by omega),show (i:Int)=(s.length:Int) by omega];rfl
 |
  f+1,i,all,ah,bh,z,hf,ha,hah,hbh=>by
  have hi:i<s.length:=by omega
  have c1:(0:Int)<=(i:Int)/\(i:Int)<(s.length:Int):=by omega
  have e1:wr .i64 ((i:Int)+1)=((i+1:Nat):Int):=by rw [Qc (by omega) (by omega)];rfl
  rw [List.drop_eq_getElem_cons hi]
  by_cases hdot:s[i].toNat=46/\bh<0
  ·have ih:=Qfv hs f (i+1) all ah 0 z (by omega) (by omega) (by omega) (by omega)
   have es:scan (s[i]::s.drop (i+1)) all ah bh z=scan (s.drop (i+1)) all ah 0 z:=by rw [scan];rw [if_pos hdot]
   rw [es]
   refine .step (λrec=>?_) ih
   unfold z120.l0b10P
   simp only
   rw [bif_t (by omega),if_pos c1,Zi,Y4 hi,bif_t (by omega),bif_t hdot.2,e1]
  ·by_cases hd:isD s[i]=true
   ·have hd':48<=s[i].toNat/\s[i].toNat<=57:=by unfold isD at hd;simpa using hd
    have hnd:¬((s[i].toNat:Int)=46):=by omega
    by_cases hb:bh<0
    ·have ih:=Qfv hs f (i+1) (all++[s[i]]) (ah+1) bh (z&&decide (s[i].toNat=48)) (by omega) (by simp;omega) (by omega) (by omega)
     have es:scan (s[i]::s.drop (i+1)) all ah bh z=scan (s.drop (i+1)) (all++[s[i]]) (ah+1) bh (z&&decide (s[i].toNat=48)):=by rw [scan];rw [if_neg hdot,if_neg (by rw [hd];simp),if_pos hb]
     rw [es]
     refine .step (λrec=>?_) ih
     unfold z120.l0b10P
     simp only
     rw [bif_t (by omega),if_pos c1,Zi,Y4 hi,Qa hnd,if_pos c1,Qa (by omega),if_pos c1,Qa (by omega),bif_t hb,Qc (n:=ah+1) (by omega) (by omega)]
     exact Qsv hs hi all (by omega) z _ _ rec some
    ·have ih:=Qfv hs f (i+1) (all++[s[i]]) ah (bh+1) (z&&decide (s[i].toNat=48)) (by omega) (by simp;omega) (by omega) (by omega)
     have es:scan (s[i]::s.drop (i+1)) all ah bh z=scan (s.drop (i+1)) (all++[s[i]]) ah (bh+1) (z&&decide (s[i].toNat=48)):=by rw [scan];rw [if_neg hdot,if_neg (by rw [hd];simp),if_neg hb]
     rw [es]
     refine .step (λrec=>?_) ih
     unfold z120.l0b10P
     simp only
     rw [bif_t (by omega),if_pos c1,Zi,Y4 hi,Qa hnd,if_pos c1,Qa (by omega),if_pos c1,Qa (by omega),Qa hb,Qc (n:=bh+1) (by omega) (by omega)]
     exact Qsv hs hi all (by omega) z _ _ rec some
   ·have hd2:isD s[i]=false:=by simpa using hd
    have hd':s[i].toNat<48\/57<s[i].toNat:=by
     unfold isD at hd2
     simp at hd2
     omega
    have es:scan (s[i]::s.drop (i+1)) all ah bh z=none:=by rw [scan];rw [if_neg hdot,if_pos hd2]
    rw [es]
    refine .done λrec=>?_
    unfold z120.l0b10P
    simp only
    rw [bif_t (by omega),if_pos c1,Zi,Y4 hi]
    by_cases h46:(s[i].toNat:Int)=46
    ·rw [bif_t h46,Qa (by omega),if_pos c1,bif_t (by omega)];rfl
    ·rw [Qa h46,if_pos c1]
     by_cases h48:(s[i].toNat:Int)<48
     ·rw [bif_t h48];rfl
     ·rw [Qa h48,if_pos c1,bif_t (by omega)];rfl
theorem Qkv (b:UInt8) (t:List UInt8):zeros (b::t)=(decide (b.toNat=48)&&zeros t):=by
 show ((b == 48)&&zeros t)=_
 rw [Qml];rfl
theorem Qlt:∀(t all:List UInt8) (ah bh:Int) (z:Bool),0<=bh->scan t all ah bh z=if digs t then some (all++t,ah,bh+t.length,z&&zeros t) else none
 |[],all,ah,bh,z,h=>by simp [scan,digs,zeros]
 |
  b::t,all,ah,bh,z,h=>by
  have e:digs (b::t)=(isD b&&digs t):=rfl
  rw [scan,if_neg (by omega),e,Qkv]
  by_cases hd:isD b=true
  ·rw [if_neg (by rw [hd];simp),if_neg (by omega),Qlt t _ _ _ _ (by omega),hd,Bool.true_and,Bool.and_assoc,List.append_assoc]
   congr 3
   simp;omega
  ·have hd2:isD b=false:=by simpa using hd
   rw [if_pos hd2,hd2];rfl
theorem Qq2:∀(t all:List UInt8) (ah:Int) (z:Bool),scan t all ah (-1) z =
  if digs (cutDot t).1 then (match (cutDot t).2 with
   |none=>some (all++(cutDot t).1,ah+(cutDot t).1.length,(-1:Int),z&&zeros (cutDot t).1)
   |some b=>if digs b then some (all++(cutDot t).1++b,ah+(cutDot t).1.length,(b.length:Int),z&&zeros (cutDot t).1&&zeros b) else none) else none
 |[],all,ah,z=>by simp [scan,cutDot,digs,zeros]
 |
  b::t,all,ah,z=>by
  by_cases h46:b=46
  ·subst h46
   rw [scan,if_pos ⟨rfl,by decide⟩,Qlt _ _ _ _ _ (Int.le_refl 0)]
   have:cutDot (46::t)=([],some t):=by rw [cutDot,if_pos rfl]
   rw [this]
   simp [digs,zeros]
  ·have hc:cutDot (b::t)=(b::(cutDot t).1,(cutDot t).2):=by rw [cutDot,if_neg h46]
   have h46':¬(b.toNat=46/\(-1:Int)<0):=λhh=>h46 (UInt8.toNat_inj.1 hh.1)
   have e:∀x,digs (b::x)=(isD b&&digs x):=λx=>rfl
   rw [scan,if_neg h46',hc,e]
   by_cases hd:isD b=true
   ·rw [if_neg (by rw [hd];simp),if_pos (by decide),Qq2 t,hd,Bool.true_and]
    split
    ·cases (cutDot t).2 with
     |
      none=>
      simp only [Qkv,List.append_assoc,List.singleton_append,Bool.and_assoc,List.length_cons]
      congr 3
      omega
     |
      some c=>
      simp only [Qkv,List.append_assoc,List.singleton_append,Bool.and_assoc,List.length_cons,List.cons_append]
      split
      ·congr 3;omega
      ·rfl
    ·rfl
   ·have hd2:isD b=false:=by simpa using hd
    rw [if_pos hd2,hd2];rfl
abbrev decD (m:Int×Nat×Int):List Int×Bool×Int×Int:=(dg m.1.natAbs,neg m.1,(m.2.1:Int),m.2.2)
theorem decD0 (e:Int):decD (0,0,e)=([],false,0,e):=by unfold decD;simp [Qcg]
theorem Qi8 {s t:List UInt8} {below:Bool} {i:Nat} (hs:s.length<=4096) (hi:i<=1) (hil:i<=s.length) (ht:s.drop i=t) :
  z120.j3 s (i:Int) below=some (decD (Jk below (cutDot t).1 (cutDot t).2)):=by
 have r:=Qfv (s:=s) (by omega) (s.length-i) i [] 0 (-1) true (by omega) (by simp) (by omega) (by omega)
 have e:z120.l0b10 s ((i:Int),[],(0:Int),(-1:Int),true)=some (Qec (s.length:Int) (scan t [] 0 (-1) true)):=by rw [<-ht];exact r.lfp
 have htl:t.length<=4096:=by rw [<-ht,List.length_drop];omega
 unfold z120.j3
 rw [e,Qq2]
 simp only [Zb,List.nil_append,Int.zero_add,Bool.true_and]
 have fin:∀(all:List UInt8) (n ah bh:Int) (z:Bool) (sc:Nat),Qv all->all.length<=4096->(sc:Int)=max bh 0 ->
   z120.j7 (n,all,ah,bh,z) below=some (decD (if 64<bh then (0,0,10) else (if below then -tv 0 all else tv 0 all,sc,0))):=λall n ah bh z sc hd hl hsc=>by
  unfold z120.j7
  simp only
  by_cases h64:64<bh
  ·rw [bif_t h64,if_pos h64,decD0]
  ·obtain ⟨v,hv⟩:∃v:Nat,tv 0 all=(v:Int):=⟨_,(Int.toNat_of_nonneg (Jh hd).1).symm⟩
   rw [Qa h64,if_neg h64,Qfu hd (by omega),hv]
   simp only [Zb,Zi]
   have em:(if (0:Int)>bh then (0:Int) else bh)=(sc:Int):=by split<;>omega
   rw [em]
   cases below with
   |true=>rw [Y5 (z:=-(v:Int)) (by omega) (.inl ⟨rfl,by omega⟩)];rfl
   |false=>rw [Y5 (z:=(v:Int)) (by omega) (.inr ⟨rfl,by omega⟩)];rfl
 unfold Jk plainB
 cases hda:digs (cutDot t).1 with
 |
  false=>
  simp only [Bool.false_eq_true,if_false,Bool.and_false,Zo,Bool.true_or,if_true]
  rw [decD0];rfl
 |
  true=>
  have hdd:=Je.1 hda
  simp only [if_true,Bool.and_true,Bool.not_not]
  cases ho:(cutDot t).2 with
  |
   none=>
   have hct:=Qgg ho
   rw [hct] at hdd ⊢
   simp only [Qec,Option.isSome_none,Bool.false_and,Bool.or_false,Option.getD_none,List.append_nil,List.length_nil]
   by_cases h0:t=[]
   ·subst h0
    rw [bif_t (p:=((([]:List UInt8).length:Nat):Int)=0) rfl,Zt (p:=([]:List UInt8)=[]) rfl]
    simp only [Bool.true_or,if_true]
    rw [decD0]
   ·have hpos:=List.length_pos_iff.2 h0
    rw [Qa (by omega),Qa (by omega),Zf h0]
    simp only [Bool.false_or]
    have hfin:=fin t (s.length:Int) (t.length:Int) (-1) (zeros t) 0 hdd htl (by omega)
    rw [if_neg (by decide)] at hfin
    have rest:(bif below then bif zeros t then some ([],false,0,5) else z120.j7 ((s.length:Int),t,(t.length:Int),-1,zeros t) below else z120.j7 ((s.length:Int),t,(t.length:Int),-1,zeros t) below)=some (decD (if (below&&zeros t)=true then (0,0,5) else (if below then -tv 0 t else tv 0 t,0,0))):=by
     rw [hfin]
     cases below<;>cases zeros t<;>first|rfl|(simp only [Zd,Bool.true_and,if_true];rw [decD0])
    by_cases h1:1<t.length
    ·rw [bif_t (by omega),if_pos (by omega),Zt h1]
     by_cases h48:(t.getD 0 0).toNat=48
     ·rw [bif_t (by omega),Zt h48]
      simp only [Bool.true_and,if_true]
      rw [decD0]
     ·rw [Qa (by omega),Zf h48]
      simp only [Bool.and_false,Bool.false_eq_true,if_false]
      exact rest
    ·rw [Qa (by omega),Zf h1]
     simp only [Bool.false_and,Bool.false_eq_true,if_false]
     exact rest
  |
   some b=>
   have hct:=Qg6 ho
   generalize (cutDot t).1=a at *
   have hlen:t.length=a.length+(b.length+1):=by rw [hct];simp
   simp only [Option.isSome_some,Bool.true_and,Option.getD_some]
   cases hdb:digs b with
   |
    false=>
    simp only [Qec,Bool.false_eq_true,if_false,Bool.and_false,Zo,Bool.or_true,Bool.true_or,if_true]
    rw [decD0]
   |
    true=>
    have hdd2:=Je.1 hdb
    simp only [Qec,if_true,Bool.and_true,Bool.not_not]
    have hdall:Qv (a++b):=λx hx=>(List.mem_append.1 hx).elim (hdd x) (hdd2 x)
    by_cases h0:a=[]
    ·subst h0
     rw [bif_t (p:=((([]:List UInt8).length:Nat):Int)=0) rfl,Zt (p:=([]:List UInt8)=[]) rfl]
     simp only [Bool.true_or,if_true]
     rw [decD0]
    ·have hpos:=List.length_pos_iff.2 h0
     rw [Qa (by omega),Zf h0]
     by_cases hb0:b=[]
     ·subst hb0
      rw [bif_t (p:=((([]:List UInt8).length:Nat):Int)=0) rfl,Zt (p:=([]:List UInt8)=[]) rfl]
      simp only [Bool.true_or,Bool.or_true,if_true]
      rw [decD0]
     ·have hbpos:=List.length_pos_iff.2 hb0
      rw [Qa (by omega),Zf hb0]
      simp only [Bool.false_or]
      have hz:zeros (a++b)=(zeros a&&zeros b):=by simp [zeros]
      have hg:(a++b).getD 0 0=a.getD 0 0:=by
       rw [Y4 (by simp;omega),Y4 hpos,List.getElem_append_left hpos]
      have hfin:=fin (a++b) (s.length:Int) (a.length:Int) (b.length:Int) (zeros a&&zeros b) b.length hdall (by rw [List.length_append];omega) (by omega)
      have e64:(64<(b.length:Int))=(64<b.length):=by apply propext;omega
      simp only [e64] at hfin
      have rest:(bif below then bif (zeros a&&zeros b) then some ([],false,0,5) else z120.j7 ((s.length:Int),a++b,(a.length:Int),(b.length:Int),(zeros a&&zeros b)) below else z120.j7 ((s.length:Int),a++b,(a.length:Int),(b.length:Int),(zeros a&&zeros b)) below)=some (decD (if (below&&zeros (a++b))=true then (0,0,5) else if 64<b.length then (0,0,10) else (if below then -tv 0 (a++b) else tv 0 (a++b),b.length,0))):=by
       rw [hfin,hz]
       cases below<;>cases (zeros a&&zeros b)<;>first|rfl|(simp only [Zd,Bool.true_and,if_true];rw [decD0])
      rw [hg]
      by_cases h1:1<a.length
      ·rw [bif_t (by omega),if_pos (by rw [List.length_append];omega),Zt h1]
       by_cases h48:(a.getD 0 0).toNat=48
       ·rw [bif_t (by omega),Zt h48]
        simp only [Bool.true_and,if_true]
        rw [decD0]
       ·rw [Qa (by omega),Zf h48]
        simp only [Bool.and_false,Bool.false_eq_true,if_false]
        exact rest
      ·rw [Qa (by omega),Zf h1]
       simp only [Bool.false_and,Bool.false_eq_true,if_false]
       exact rest
theorem Qul {s:List UInt8} (hs:s.length<=4096):z120.F s=some (decD (mDec s)):=by
 have h4:¬4096<s.length:=by omega
 unfold z120.F mDec
 rw [if_neg h4]
 cases s with
 |
  nil=>
  rw [Qa (by simp)]
  exact Qi8 (s:=[]) (t:=[]) (below:=false) (i:=0) (by simp) (by omega) (by simp) rfl
 |
  cons b t=>
  rw [bif_t (by simp),if_pos (by simp)]
  by_cases h:b=45
  ·subst h
   rw [bif_t (by rfl)]
   exact Qi8 (s:=45::t) (t:=t) (below:=true) (i:=1) hs (by omega) (by simp) rfl
  ·have hb:¬((((b::t).getD 0 0).toNat:Int)=45):=λhh=>h (UInt8.toNat_inj.1 (by have e:(b::t).getD 0 0=b:=rfl;rw [e] at hh;show b.toNat=45;omega))
   rw [Qa hb]
   have hc:cutNeg (b::t)=(b::t,false):=by unfold cutNeg;simp [h]
   rw [hc]
   exact Qi8 (s:=b::t) (t:=b::t) (below:=false) (i:=0) hs (by omega) (by simp) rfl
theorem Qzs {c:Int} {s:Nat} (hs:s<=4096) (hc:sz c.natAbs<=100000000):z121.F (dg c.natAbs) (neg c) (s:Int)=some (rf (mkRat c (10^s))):=by
 have hp:0<10^s:=Nat.pow_pos (by decide)
 have l:=Qdh s
 unfold z121.F
 rw [Qos (by omega)]
 simp only [Zb]
 rw [Qdt hp hc (by omega)]
 rfl
theorem Qy9 {n:Int} {d:Nat} (hd:0<d) (k:Int):k*(mkRat n d).den<(mkRat n d).num↔k*d<n:=by
 have hg:0<Nat.gcd d n.natAbs:=Nat.gcd_pos_of_pos_left _ hd
 have e1:(mkRat n d).num*(Nat.gcd d n.natAbs:Nat)=n:=by
  rw [Rat.num_mkRat,if_neg (by omega)]
  exact Int.ediv_mul_cancel (Int.ofNat_dvd_left.2 (Nat.gcd_dvd_right _ _))
 have e2:((mkRat n d).den:Int)*(Nat.gcd d n.natAbs:Nat)=d:=by
  rw [Rat.den_mkRat,if_neg (by omega)]
  exact_mod_cast Nat.div_mul_cancel (Nat.gcd_dvd_left _ _)
 generalize Nat.gcd d n.natAbs=g at *
 have hg':(0:Int)<(g:Int):=by omega
 have e3:k*(d:Int)=k*(mkRat n d).den*g:=by rw [<-e2,Int.mul_assoc]
 constructor
 ·intro h
  have:=Int.mul_lt_mul_of_pos_right h hg'
  rw [e1] at this
  rw [e3];exact this
 ·intro h
  refine Int.lt_of_mul_lt_mul_right ?_ (Int.le_of_lt hg')
  rw [e1,<-e3];exact h
theorem Qkz (n:Int):Rat.divInt n 1=(n:Rat):=by
 rw [show (1:Int)=((1:Nat):Int) from rfl,Rat.divInt_ofNat,Rat.mkRat_eq_div]
 have:(n:Rat)/((1:Nat):Rat)=(n:Rat):=by
  rw [Rat.div_def]
  have:(((1:Nat):Rat))⁻¹=1:=by decide +kernel
  rw [this,Rat.mul_one]
 exact this
theorem Qe7 (s:List UInt8):z125.F s=some ((rf (mRate s).1).1,(rf (mRate s).1).2.1,(rf (mRate s).1).2.2,(mRate s).2):=by
 have s0:z119.F 0 1=some (rf 0):=by
  rw [Yf (by omega) (by omega) (by omega),Qkz];rfl
 have s1000:z119.F 1000 1=some (rf 1000):=by
  rw [Yf (by omega) (by omega) (by omega),Qkz];rfl
 have s100:z119.F 100 1=some (rf 100):=by
  rw [Yf (by omega) (by omega) (by omega),Qkz];rfl
 obtain ⟨hb1,hb2⟩:=Qjk s
 unfold z125.F mRate
 rw [s0]
 simp only [Zb]
 by_cases hl:4096<s.length
 ·have hm:mDec s=(0,0,7):=by unfold mDec;rw [if_pos hl]
  rw [bif_t (by omega),hm,if_pos (by decide)]
 ·rw [Qa (by omega),Qul (by omega)]
  simp only [Zb,decD]
  generalize mDec s=d at *
  obtain ⟨c,sc,e⟩:=d
  simp only at *
  by_cases h:e=0
  ·rw [Zt h,if_neg (by omega)]
   simp only [Zn,Zc]
   have hp0:0<10^sc:=Nat.pow_pos (by decide)
   have n1:=Qu (Qbb c hp0)
   have n2:=Qu (Qbf c hp0)
   have l:=Qdh sc
   have k1:sz (Rat.num 1000).natAbs<=4:=sz_le (by decide)
   have k2:sz (Rat.den 1000)<=1:=sz_le (by decide)
   have k3:sz (Rat.num 100).natAbs<=3:=sz_le (by decide)
   have k4:sz (Rat.den 100)<=1:=sz_le (by decide)
   rw [Qzs (by omega) (by omega)]
   simp only [Zb]
   rw [s1000]
   simp only [Zb]
   have hcmp:=Qxn (q:=mkRat c (10^sc)) (r:=1000) (by omega) (by omega)
   rw [hcmp]
   simp only [Zb]
   have hgt:=Qy9 (n:=c) hp0 1000
   have e1:(mkRat c (10^sc)).num*((Rat.den 1000:Nat):Int)=(mkRat c (10^sc)).num:=by
    show _*((1:Nat):Int)=_
    simp
   have e2:Rat.num 1000=1000:=rfl
   rw [e1,e2]
   by_cases h1:c<0
   ·rw [bif_t h1,if_pos (.inl h1)]
   ·rw [Qa h1]
    by_cases h2:1000*((10^sc:Nat):Int)<c
    ·rw [bif_t (Wh.2 (hgt.2 h2)),if_pos (.inr (.inl h2))]
    ·rw [Qa (λh=>h2 (hgt.1 (Wh.1 h)))]
     by_cases h3:12<sc
     ·rw [bif_t (by omega),if_pos (.inr (.inr h3))]
     ·rw [Qa (by omega),if_neg (by omega)]
      unfold z125.j6
      rw [s100]
      simp only [Zb]
      rw [Qhd (q:=mkRat c (10^sc)) (r:=100) (by decide) (by omega) (by omega)]
      rfl
  ·rw [Zf h,if_pos h];rfl
theorem Qef (a b c a' b' c':Int):z132.F a b c a' b' c'=some (dcmp a b c a' b' c'):=by
 have e0:wr .i64 (0+1)=1:=by decide
 have e1:wr .i64 (1+1)=2:=by decide
 have e2:wr .i64 (2+1)=3:=by decide
 have step:∀(i:Nat) (x y:Int) (o:Int⊕Int),i<3->[a,b,c].getD i 0=x->[a',b',c'].getD i 0=y->Runs (λrec z=>z132.l0P [a,b,c] [a',b',c'] rec some z) (wr .i64 ((i:Int)+1)) o ->
   Runs (λrec z=>z132.l0P [a,b,c] [a',b',c'] rec some z) (i:Int) (if x<y then .inr (-1) else if y<x then .inr 1 else o):=λi x y o hi hx hy r=>by
  have c1:(0:Int)<=(i:Int)/\(i:Int)<([a,b,c].length:Int):=by simp;omega
  have c2:(0:Int)<=(i:Int)/\(i:Int)<([a',b',c'].length:Int):=by simp;omega
  by_cases h1:x<y
  ·rw [if_pos h1]
   refine .done λrec=>?_
   unfold z132.l0P
   rw [bif_t (by omega),if_pos c1,if_pos c2,Zi,hx,hy,bif_t h1]
  ·rw [if_neg h1]
   by_cases h2:y<x
   ·rw [if_pos h2]
    refine .done λrec=>?_
    unfold z132.l0P
    rw [bif_t (by omega),if_pos c1,if_pos c2,Zi,hx,hy,Qa h1,if_pos c1,if_pos c2,bif_t h2]
   ·rw [if_neg h2]
    refine .step (λrec=>?_) r
    unfold z132.l0P
    rw [bif_t (by omega),if_pos c1,if_pos c2,Zi,hx,hy,Qa h1,if_pos c1,if_pos c2,Qa h2]
 have r3:Runs (λrec z=>z132.l0P [a,b,c] [a',b',c'] rec some z) (wr .i64 (((2:Nat):Int)+1)) (.inl 3):=by
  rw [show wr .i64 (((2:Nat):Int)+1)=3 from e2]
  exact .done λrec=>by unfold z132.l0P;rw [Qa (by decide)]
 have r2:=step 2 c c' _ (by decide) rfl rfl r3
 have r1:=step 1 b b' _ (by decide) rfl rfl (by rw [show wr .i64 (((1:Nat):Int)+1)=((2:Nat):Int) from e1];exact r2)
 have r0:=step 0 a a' _ (by decide) rfl rfl (by rw [show wr .i64 (((0:Nat):Int)+1)=((1:Nat):Int) from e0];exact r1)
 have e:z132.l0 [a,b,c] [a',b',c'] 0=_:=r0.lfp
 unfold z132.F dcmp
 rw [e]
 simp only [Zb]
 (repeat' split)<;>first|rfl|simp_all
theorem W8 {z:Int} (hs:sz z.natAbs<=100000000):z6.F (dg z.natAbs) (neg z)=some (itxt z):=by
 have h1:=Qc9 z.natAbs
 have h2:=Qp z.natAbs
 exact Qkl (by omega) (by omega)
theorem Yr {α:Type} {c:Bool} {x y z:α} (hx:x=z) (hy:y=z):(bif c then x else y)=z:=by cases c<;>assumption
theorem Qd6 (q:Rat) (b:List Int):z147.F (lb q.num.natAbs) (neg q.num) b=some (cmpI q.num 0):=by
 unfold z147.F
 rw [W0]
 rfl
theorem Qyk (q:Rat) (b:List Int):z148.F (lb q.num.natAbs) (neg q.num) b=some (lb q.num.natAbs,neg q.num):=rfl
def rndN (m:Int) (a d:Nat):Nat:=if upN m (a/d) (a%d) d then a/d+1 else a/d
def rnd (m:Int) (q:Rat):Int:=if q.num<0 then -(rndN m q.num.natAbs q.den:Int) else (rndN m q.num.natAbs q.den:Int)
theorem Qhk {k j:Nat} {q r:Rat} (hq:Sq k q) (hr:Sq j r) (hs:k+j<=10000000) :
  z163.F (rf q).1 (rf q).2.1 (rf q).2.2 (rf r).1 (rf r).2.1 (rf r).2.2=some (rf (q+r)):=by
 have h1:=hq.dens hr
 have h2:=hq.cross hr;have h2':=hr.cross hq
 have h3:=Qae (q.num*r.den) (r.num*q.den)
 have q1:=hq.1;have q2:=hq.2;have r1:=hr.1;have r2:=hr.2
 have l3:=Qp q.den;have l4:=Qp r.den
 have l5:=Qp (q.num*r.den).natAbs;have l6:=Qp (r.num*q.den).natAbs
 unfold z163.F
 rw [Qee (q:=q) (r:=r) (by omega)]
 simp only [Zb]
 rw [Qee (q:=r) (r:=q) (by omega)]
 simp only [Zb]
 rw [Qd8 (by omega)]
 simp only [Zb]
 rw [Qdp (by omega)]
 simp only [Zb]
 rw [Qdt (Nat.mul_pos q.den_pos r.den_pos) (by omega) (by omega),<-Rat.add_def']
 rfl
theorem Qbj {k j:Nat} {q r:Rat} (hq:Sq k q) (hr:Sq j r) (hs:k+j<=10000000) :
  z167.F (rf q).1 (rf q).2.1 (rf q).2.2 (rf r).1 (rf r).2.1 (rf r).2.2=some (rf (q*r)):=by
 have h1:=hq.dens hr
 have h2:=Yg q.num r.num
 have q1:=hq.1;have q2:=hq.2;have r1:=hr.1;have r2:=hr.2
 have l1:=Qp q.num.natAbs;have l2:=Qp r.num.natAbs;have l3:=Qp q.den;have l4:=Qp r.den
 unfold z167.F
 rw [Qhi (by omega)]
 simp only [Zb]
 rw [Qdp (by omega)]
 simp only [Zb]
 rw [Qdt (Nat.mul_pos q.den_pos r.den_pos) (by omega) (by omega),<-Rat.mul_def']
 rfl
theorem Qsc:dg 1=[1]:=by
 show toB 10000 1=_
 rw [Wg b4 (by decide),show 1/10000=0 from rfl,toB_zero];rfl
theorem Q3a:dg 2=[2]:=by
 show toB 10000 2=_
 rw [Wg b4 (by decide),show 2/10000=0 from rfl,toB_zero];rfl
theorem Qln (z:Int):z166.F (dg z.natAbs) (neg z)=some (rf (z:Rat)):=by
 show some _=some (dg z.natAbs,neg z,dg 1)
 rw [Qsc]
theorem Qvd {n:Nat} (h:n<18446744073709551616):wr .u64 ((BitVec.ofInt (IntKind.bits .u64) (n:Int) &&& BitVec.ofInt (IntKind.bits .u64) (1:Int)).toNat:Int)=((n%2:Nat):Int):=by
 rw [BitVec.toNat_and,Qdq h,show (1:Int)=((1:Nat):Int) from rfl,Qdq (by omega),show (1:Nat)=2^1-1 from rfl,Nat.and_two_pow_sub_one_eq_mod,Qq (by omega) (by omega)]
theorem Qwp {m:Int} {low rest d:Nat} (hm:0<=m/\m<=4) (h0:rest≠0) (h1:sz low<=100000000) (h2:sz rest<=100000000):z149.F m (lb low) (lb rest) (lb d)=some (decide (upN m low rest d)):=by
 have l1:=Qj low;have l2:=Qj rest
 have l3:=Qj (rest+rest);have l4:=Y7 rest rest
 unfold z149.F
 rw [Qbq (by omega)]
 simp only [Zb]
 rw [Qcb (by omega)]
 simp only [Zb]
 have g:cmpI ((rest+rest:Nat):Int) d>=0↔d<=2*rest:=by rw [W7];omega
 have g':cmpI ((rest+rest:Nat):Int) d>0↔d<2*rest:=by rw [Wh];omega
 have g'':cmpI ((rest+rest:Nat):Int) d=0↔d=2*rest:=by rw [Yt];omega
 generalize cmpI ((rest+rest:Nat):Int) d=c at *
 unfold upN
 by_cases m1:m=1
 ·rw [bif_t m1];congr 1;symm;apply Zt;exact ⟨h0,.inl m1⟩
 rw [Qa m1]
 by_cases m2:m=2
 ·rw [bif_t m2];congr 1;apply decide_eq_decide.2;rw [g];omega
 rw [Qa m2]
 by_cases m3:m=3
 ·rw [bif_t m3];congr 1;apply decide_eq_decide.2;rw [g'];omega
 rw [Qa m3]
 by_cases m4:m=4
 ·rw [bif_t m4,J1 (by show List.length _<=_;omega)]
  simp only [Zb]
  have hlen:=Qko low
  by_cases hl:low=0
  ·rw [Qa (by omega)]
   by_cases c1:c>0
   ·rw [bif_t c1];congr 1;symm;apply Zt;omega
   ·have hF:∀x:Bool,(bif x then some false else some false)=some false:=λx=>by cases x<;>rfl
    rw [Qa c1,hF];congr 1;symm;apply Zf;omega
  ·rw [bif_t (by omega),if_pos (by omega)]
   have e0:(lb low).getD 0 0=((low%LB:Nat):Int):=by
    have:=Qwb bL 0 low
    rwa [Nat.pow_zero,Nat.div_one] at this
   have e1:low%LB%2=low%2:=Nat.mod_mod_of_dvd low (by decide)
   rw [e0,Qvd (n:=low%LB) (Nat.mod_lt _ (by decide)),e1]
   by_cases c1:c>0
   ·rw [bif_t c1];congr 1;symm;apply Zt;omega
   ·rw [Qa c1]
    by_cases c2:c=0
    ·rw [bif_t c2];congr 1;apply decide_eq_decide.2;omega
    ·rw [Qa c2];congr 1;symm;apply Zf;omega
 ·rw [Qa m4];congr 1;symm;apply Zf;omega
theorem Qji (m:Int) (q:Rat):(rnd m q).natAbs=rndN m q.num.natAbs q.den/\((neg q.num=true/\rnd m q<=0)\/(neg q.num=false/\0<=rnd m q)):=by
 unfold rnd
 by_cases h:q.num<0
 ·rw [if_pos h];exact ⟨by omega,.inl ⟨Zt h,by omega⟩⟩
 ·rw [if_neg h];exact ⟨by omega,.inr ⟨Zf h,by omega⟩⟩
theorem Qov (m:Int):z79.F m=some (decide (0<=m/\m<=4)):=by
 unfold z79.F
 by_cases h:m>=0
 ·rw [bif_t h];congr 1;apply decide_eq_decide.2;omega
 ·rw [Qa h];congr 1;symm;apply Zf;omega
theorem round_Whole {m:Int} {k:Nat} {q:Rat} (hm:0<=m/\m<=4) (hq:Sq k q) (hk:k<=40000000) :
  z150.F (fr q).1 (fr q).2.1 (fr q).2.2 m=some (lb (rnd m q).natAbs,neg (rnd m q),0):=by
 have q1:=hq.1;have q2:=hq.2
 have l1:=Qj q.num.natAbs
 have s1:=Qu (Nat.div_le_self q.num.natAbs q.den)
 have s2:=Qu (Nat.mod_le q.num.natAbs q.den)
 have l2:=Qj (q.num.natAbs/q.den)
 have l3:(lb 1).length<=1:=Nat.le_trans (Qj 1) (sz_le (by decide))
 obtain ⟨a1,a2⟩:=Qji m q
 have hj:∀b:List Int,z150.j14 (lb q.num.natAbs) (neg q.num) b (lb (rndN m q.num.natAbs q.den))=some (lb (rnd m q).natAbs,neg (rnd m q),0):=λb=>by
  unfold z150.j14
  rw [Qd6]
  simp only [Zb]
  rw [Qpb,Yu (z:=rnd m q) a1.symm a2]
  rfl
 unfold z150.F
 rw [Qov,Zt hm]
 simp only [Zb,Zn,Zc]
 rw [Qyk]
 simp only [Zb]
 unfold z59.F
 simp only [Zb]
 rw [Yy q _ _ (by omega)]
 simp only [Zb]
 have hdiv:z68.F (lb q.num.natAbs) (lb q.den)=_:=Qk0 q.den_pos (by omega)
 rw [hdiv]
 simp only [Zb]
 rw [Wy]
 simp only [Zb]
 by_cases hr:q.num.natAbs%q.den=0
 ·rw [Zt hr,Zn,Zc]
  have:rndN m q.num.natAbs q.den=q.num.natAbs/q.den:=by unfold rndN;rw [if_neg (λh=>h.1 hr)]
  rw [<-this];exact hj _
 ·rw [Zf hr,Zo,Zd]
  try rw [Yy q _ _ (by omega)]
  try simp only [Zb]
  rw [Qwp hm hr (by omega) (by omega)]
  simp only [Zb]
  by_cases hu:upN m (q.num.natAbs/q.den) (q.num.natAbs%q.den) q.den
  ·rw [bif_t hu,Yh (by omega)]
   simp only [Zb]
   rw [show Int.toNat 1=1 from rfl,Qbq (by omega)]
   simp only [Zb]
   have:rndN m q.num.natAbs q.den=q.num.natAbs/q.den+1:=by unfold rndN;rw [if_pos hu]
   rw [<-this];exact hj _
  ·rw [Qa hu]
   have:rndN m q.num.natAbs q.den=q.num.natAbs/q.den:=by unfold rndN;rw [if_neg hu]
   rw [<-this];exact hj _
theorem Qff {m:Int} {k:Nat} {q:Rat} (hm:0<=m/\m<=4) (hq:Sq k q) (hk:k<=10000000) :
  z169.F (rf q).1 (rf q).2.1 (rf q).2.2 m=some (dg (rnd m q).natAbs,neg (rnd m q)):=by
 have q1:=hq.1;have q2:=hq.2
 have s1:=Qu (Nat.div_le_self q.num.natAbs q.den)
 have s2:=Qu (Nat.mod_le q.num.natAbs q.den)
 have l1:=Qp (q.num.natAbs/q.den)
 have l2:=Qp (q.num.natAbs%q.den)
 have l3:(dg 1).length<=1:=Nat.le_trans (Qp 1) (sz_le (by decide))
 have l4:(dg 2).length<=1:=Nat.le_trans (Qp 2) (sz_le (by decide))
 have s4:sz 2<=1:=sz_le (by decide)
 have s3:=Q7 (q.num.natAbs%q.den) 2
 have l5:=Qp (q.num.natAbs%q.den*2)
 obtain ⟨a1,a2⟩:=Qji m q
 unfold z169.F
 rw [Qd0 q.den_pos (by omega) (by omega)]
 simp only [Zb]
 rw [<-Qsc,Qoq (by omega)]
 simp only [Zb]
 rw [<-Q3a,Qdp (by omega)]
 simp only [Zb]
 rw [Qjy (by omega)]
 simp only [Zb]
 rw [Qd0 (by decide) (by omega) (by omega)]
 simp only [Zb]
 have g:cmpI ((q.num.natAbs%q.den*2:Nat):Int) q.den>=0↔q.den<=2*(q.num.natAbs%q.den):=by rw [W7];omega
 have g':cmpI ((q.num.natAbs%q.den*2:Nat):Int) q.den>0↔q.den<2*(q.num.natAbs%q.den):=by rw [Wh];omega
 have g'':cmpI ((q.num.natAbs%q.den*2:Nat):Int) q.den=0↔q.den=2*(q.num.natAbs%q.den):=by rw [Yt];omega
 have hlen:=Qhn (q.num.natAbs%q.den)
 have hodd:=Qhn (q.num.natAbs/q.den%2)
 have hj:∀u:Bool,u=decide (upN m (q.num.natAbs/q.den) (q.num.natAbs%q.den) q.den)->z169.j11 u (dg (q.num.natAbs/q.den+1)) (neg q.num) (dg (q.num.natAbs/q.den),dg (q.num.natAbs%q.den))=some (dg (rnd m q).natAbs,neg (rnd m q)):=λu hu=>by
  unfold z169.j11
  by_cases h:upN m (q.num.natAbs/q.den) (q.num.natAbs%q.den) q.den
  ·rw [hu,bif_t h,Y5 (z:=rnd m q) (by rw [a1];unfold rndN;rw [if_pos h]) a2];rfl
  ·rw [hu,Qa h,Y5 (z:=rnd m q) (by rw [a1];unfold rndN;rw [if_neg h]) a2];rfl
 unfold upN at hj
 generalize cmpI ((q.num.natAbs%q.den*2:Nat):Int) q.den=c at *
 generalize q.num.natAbs%q.den=rest at *
 generalize q.num.natAbs/q.den=low at *
 have hb:∀{p r:Prop} [Decidable p] [Decidable r],(p↔r)->decide p=decide r:=λh=>decide_eq_decide.2 h
 by_cases h0:rest=0
 ·rw [Qa (by omega)]
  exact hj false (by symm;apply Zf;omega)
 rw [bif_t (by omega)]
 by_cases m1:m=1
 ·rw [bif_t m1]
  unfold z169.j6
  rw [Qa (by omega),Qa (by omega)]
  unfold z169.j10
  rw [Qa (by omega)]
  exact hj true (by symm;apply Zt;omega)
 rw [Qa m1]
 unfold z169.j6
 by_cases m2:m=2
 ·rw [bif_t m2,Qa (by omega)]
  unfold z169.j9
  rw [Qa (by omega)]
  exact hj _ (hb (by rw [g];omega))
 rw [Qa m2]
 by_cases m3:m=3
 ·rw [bif_t m3]
  unfold z169.j10
  rw [Qa (by omega)]
  exact hj _ (hb (by rw [g'];omega))
 rw [Qa m3]
 unfold z169.j10
 by_cases m4:m=4
 ·rw [bif_t m4]
  by_cases c1:c>0
  ·rw [bif_t c1]
   exact hj true (by symm;apply Zt;omega)
  ·rw [Qa c1]
   by_cases c2:c=0
   ·rw [bif_t c2]
    refine hj _ (hb ?_)
    show (((dg (low%2)).length:Nat):Int)>0↔_
    rw [hodd];omega
   ·rw [Qa c2]
    exact hj false (by symm;apply Zf;omega)
 ·rw [Qa m4]
  exact hj false (by symm;apply Zf;omega)
theorem Qig {y:Int} (h:1<=y/\y<=20000):0<=aheadY y/\aheadY y<=8000000:=Jy h
theorem Qo6 (y:Int):aheadY (y+1)=aheadY y+ysz y:=by rw [Qan,Qra]
theorem Qm0 {Y:Int} (hY:goodY Y):∀(f:Nat) (y:Int),1<=y->y+f=Y->Runs (λrec x=>z164.l0P Y rec some x) (aheadY y,y) (aheadY Y,Y)
 |
  0,y,h1,hf=>by
  have:y=Y:=by omega
  subst this
  refine .done λrec=>?_
  unfold z164.l0P
  simp only
  rw [Qa (by omega)]
 |
  f+1,y,h1,hf=>by
  have b:=Qig (y:=y) (by omega)
  have e:=Qo6 y
  have z:=Qen y
  refine .step (λrec=>?_) (Qm0 hY f (y+1) (by omega) (by omega))
  unfold z164.l0P
  simp only
  rw [bif_t (by omega),Qj9]
  simp only [Zb]
  rw [Qc (n:=aheadY y+365) (by omega) (by omega),Qc (n:=y+1) (by omega) (by omega)]
  unfold ysz at e
  by_cases hl:leap y
  ·rw [bif_t ⟨by omega,hl⟩,Qc (by omega) (by omega),e,if_pos hl];congr 2;omega
  ·rw [Qa (λh=>hl h.2),e,if_neg hl]
theorem Qpx {y M:Int} (hy:goodY y) (hM:M<=12):∀(f:Nat) (m:Int),1<=m->m+f=M->Runs (λrec x=>z164.l2P y M rec some x) (aheadY y+cumD y m,m) (aheadY y+cumD y M,M)
 |
  0,m,h1,hf=>by
  have:m=M:=by omega
  subst this
  refine .done λrec=>?_
  unfold z164.l2P
  simp only
  rw [Qa (by omega)]
 |
  f+1,m,h1,hf=>by
  have b:=Qig (y:=y) (by omega)
  have c:=Qi7 (y:=y) (m:=m) (by omega)
  have e:=Jj hy (m:=m) (by omega)
  have dl:=Qdg y m
  refine .step (λrec=>?_) (Qpx hy hM f (m+1) (by omega) (by omega))
  unfold z164.l2P
  simp only
  rw [bif_t (by omega),Qcx]
  simp only [Zb]
  rw [Qc (n:=m+1) (by omega) (by omega),Qc (by omega) (by omega),e]
  congr 2;omega
theorem Qkx {a:D3} (h:rightD a):z164.F a.1 a.2.1 a.2.2=some (numD a):=by
 have g:=Q3 h
 have b:=Qy h
 have en:numD a=aheadY a.1+cumD a.1 a.2.1+a.2.2:=rfl
 have r1:z164.l0 a.1 ((0:Int),(1:Int))=some (aheadY a.1,a.1):=(Qm0 g.1 (a.1-1).toNat 1 (by omega) (by omega)).lfp
 have r2:=(Qpx g.1 g.2.2.1 (a.2.1-1).toNat 1 (by omega) (by omega)).lfp
 rw [Jm,Int.add_zero] at r2
 have r2':z164.l2 a.1 a.2.1 (aheadY a.1,(1:Int))=some (aheadY a.1+cumD a.1 a.2.1,a.2.1):=r2
 unfold z164.F
 rw [r1]
 simp only [Zb]
 rw [r2']
 simp only [Zb]
 rw [Qc (by omega) (by omega)]
 rfl
def Wx (a:D3) (y:Int):Rat:=if y=a.1 then 0 else (y:Rat)-yAt a.1 a.2.1 a.2.2
theorem Qy0 {a:D3} (h:rightD a) {y:Int} (hy:goodY y):Sq 20 (Wx a y):=by
 have g:=Q3 h
 have b:=Qy h
 have en:numD a=num a.1 a.2.1 a.2.2:=rfl
 have m1:=Jy (y:=a.1) (by omega)
 unfold Wx
 split
 ·exact Sq.zero (by decide)
 ·rw [Rat.sub_eq_add_neg]
  have s2:Sq 4 (y:Rat):=Sq.int (Nat.le_trans (sz_le (k:=4) (by omega)) (by decide)) (by decide)
  exact s2.add (Qix a.1 _ g.1 (by omega)).neg
theorem Qy3 {a b:D3} (ha:rightD a) (hb:rightD b) (h:numD a<=numD b):∀(f:Nat) (y:Int),a.1<=y->y+f=b.1 ->
  Runs (λrec x=>z165.l0P (numD a) (numD b) b.1 rec some x) (y,(rf (Wx a y)).1,(rf (Wx a y)).2.1,(rf (Wx a y)).2.2)
   (b.1+1,(rf (yAt b.1 b.2.1 b.2.2-yAt a.1 a.2.1 a.2.2)).1,(rf (yAt b.1 b.2.1 b.2.2-yAt a.1 a.2.1 a.2.2)).2.1,(rf (yAt b.1 b.2.1 b.2.2-yAt a.1 a.2.1 a.2.2)).2.2):=by
 have ga:=Q3 ha
 have gb:=Q3 hb
 have b1:=Qy ha;have b2:=Qy hb
 have y1:=Jo ha;have y2:=Jo hb
 have round:∀(y:Int),a.1<=y->y<=b.1->∀{R:Type} (rec done:(Int×(List Int)×Bool×(List Int))->Option R),
   z165.l0P (numD a) (numD b) b.1 rec done (y,(rf (Wx a y)).1,(rf (Wx a y)).2.1,(rf (Wx a y)).2.2) =
    rec (y+1,rf (inY y (if y=b.1 then numD b else aheadY (y+1)+1)-yAt a.1 a.2.1 a.2.2)):=λy h1 h2 {R} rec done=>by
  have gy:goodY y:=by omega
  have hf:rightD (y,1,1):=Qrg gy
  have m1:=Qig (y:=y) (by omega)
  have e:=Qo6 y
  have z:=Qen y
  have hnum:=Qkx hf
  simp only at hnum
  have en:numD (y,1,1)=aheadY y+1:=Qqo y
  have hto:(if numD b<wr .i64 (aheadY y+1+ysz y) then numD b else wr .i64 (aheadY y+1+ysz y))=(if y=b.1 then numD b else aheadY (y+1)+1):=by
   rw [Qc (by omega) (by omega)]
   by_cases hyb:y=b.1
   ·rw [if_pos hyb]
    subst hyb
    rw [if_pos (by omega)]
   ·rw [if_neg hyb]
    have:=Qaj (y:=y+1) (y':=b.1) (by omega)
    rw [if_neg (by omega)];omega
  have hfrom:inY y (if numD a>aheadY y+1 then numD a else aheadY y+1)=(if y=a.1 then yAt a.1 a.2.1 a.2.2 else (y:Rat))/\aheadY y+1<=(if numD a>aheadY y+1 then numD a else aheadY y+1)/\(if numD a>aheadY y+1 then numD a else aheadY y+1)<=9000000:=by
   by_cases hya:y=a.1
   ·rw [if_pos hya]
    subst hya
    have:(if numD a>aheadY a.1+1 then numD a else aheadY a.1+1)=numD a:=by split<;>omega
    rw [this]
    exact ⟨rfl,by omega,by omega⟩
   ·rw [if_neg hya]
    have:=Qaj (y:=a.1+1) (y':=y) (by omega)
    rw [if_neg (by omega),Qjx]
    exact ⟨rfl,by omega,by omega⟩
  have htb:aheadY y+1<=(if y=b.1 then numD b else aheadY (y+1)+1)/\(if y=b.1 then numD b else aheadY (y+1)+1)<=9000000:=by
   by_cases hyb:y=b.1
   ·rw [if_pos hyb];subst hyb;omega
   ·rw [if_neg hyb];omega
  have hj:z165.j1015a rec done (numD b) (aheadY y+1) (ysz y) (numD a) (rf (Wx a y)).1 (rf (Wx a y)).2.1 (rf (Wx a y)).2.2 y=rec (y+1,rf (inY y (if y=b.1 then numD b else aheadY (y+1)+1)-yAt a.1 a.2.1 a.2.2)):=by
   unfold z165.j1015a
   rw [hto]
   obtain ⟨f1,f2,f3⟩:=hfrom
   generalize (if numD a>aheadY y+1 then numD a else aheadY y+1)=fr0 at *
   generalize (if y=b.1 then numD b else aheadY (y+1)+1)=to0 at *
   rw [Qc (n:=to0-fr0) (by omega) (by omega),Yf (by omega) (by omega) (by omega)]
   simp only [Zb]
   rw [Qhk (Qy0 ha gy) (Qb3 (by omega) (by omega)) (by decide)]
   simp only [Zb]
   rw [Qc (by omega) (by omega),<-Qd7]
   have:Wx a y+(inY y to0-inY y fr0)=inY y to0-yAt a.1 a.2.1 a.2.2:=by
    rw [f1]
    unfold Wx
    split<;>grind
   rw [this]
  unfold z165.l0P
  simp only
  rw [bif_t (by omega),hnum,en]
  simp only [Zb]
  rw [Qj9]
  simp only [Zb]
  unfold ysz at hj
  by_cases hl:leap y
  ·rw [if_pos hl] at hj
   rw [bif_t ⟨gy,hl⟩];exact hj
  ·rw [if_neg hl] at hj
   rw [Qa (λh=>hl h.2)];exact hj
 intro f
 induction f with
 |
  zero=>
  intro y h1 hf
  have hyb:y=b.1:=by omega
  refine .step (y:=(b.1+1,rf (yAt b.1 b.2.1 b.2.2-yAt a.1 a.2.1 a.2.2))) (λrec=>?_) (.done λrec=>?_)
  ·rw [round y h1 (by omega) rec some,if_pos hyb,hyb];rfl
  ·unfold z165.l0P
   simp only
   rw [Qa (by omega)]
 |
  succ f ih=>
  intro y h1 hf
  refine .step (λrec=>?_) (ih (y+1) (by omega) (by omega))
  rw [round y h1 (by omega) rec some,if_neg (by omega),Qh8]
  have:Wx a (y+1)=((y+1:Int):Rat)-yAt a.1 a.2.1 a.2.2:=by unfold Wx;rw [if_neg (by omega)]
  rw [this]
theorem Qp1 {bs:Int} {a b:D3} (hbs:0<=bs/\bs<=2) (ha:rightD a) (hb:rightD b) (h:numD a<=numD b) :
  z165.F bs a.1 a.2.1 a.2.2 b.1 b.2.1 b.2.2=some (rf (yf bs a.1 a.2.1 a.2.2 b.1 b.2.1 b.2.2)):=by
 have ga:=Q3 ha
 have gb:=Q3 hb
 have b1:=Qy ha;have b2:=Qy hb
 have en1:numD a=num a.1 a.2.1 a.2.2:=rfl
 have en2:numD b=num b.1 b.2.1 b.2.2:=rfl
 unfold z165.F yf
 by_cases h0:bs=0
 ·rw [bif_t h0,if_pos h0]
  have key:∀{j k:Int},0<=j/\j<=31->0<=k/\k<=31->Wd a.1 a.2.1 a.2.2 b.1 b.2.1 b.2.2=360*(b.1-a.1)+30*(b.2.1-a.2.1)+j-k->z119.F (wr .i64 (wr .i64 (wr .i64 (wr .i64 (360*wr .i64 (b.1-a.1))+wr .i64 (30*wr .i64 (b.2.1-a.2.1)))+j)-k)) 360=some (rf (Rat.divInt (Wd a.1 a.2.1 a.2.2 b.1 b.2.1 b.2.2) 360)):=λ{j k} hj hk e=>by
   rw [Qm7 ga.1 ⟨ga.2.1,ga.2.2.1⟩ gb.1 ⟨gb.2.1,gb.2.2.1⟩ hj hk,e,Yf (by omega) (by omega) (by decide)]
  by_cases h1:a.2.2=31
  ·rw [bif_t h1]
   by_cases h2:b.2.2=31
   ·rw [bif_t h2];unfold z165.j6
    rw [key (by omega) (by omega) (by unfold Wd;rw [if_pos (by omega),if_pos (by omega)])];rfl
   ·rw [Qa h2];unfold z165.j6
    rw [key (by omega) (by omega) (by unfold Wd;rw [if_neg (by omega),if_pos (by omega)])];rfl
  ·rw [Qa h1]
   by_cases h2:b.2.2=31
   ·rw [bif_t h2]
    by_cases h3:a.2.2=30
    ·rw [bif_t h3];unfold z165.j9
     rw [key (by omega) (by omega) (by unfold Wd;rw [if_pos (by omega),if_neg (by omega)])];rfl
    ·rw [Qa h3];unfold z165.j9
     rw [key (by omega) (by omega) (by unfold Wd;rw [if_neg (by omega),if_neg (by omega)])];rfl
   ·rw [Qa h2];unfold z165.j9
    rw [key (by omega) (by omega) (by unfold Wd;rw [if_neg (by omega),if_neg (by omega)])];rfl
 ·rw [Qa h0,if_neg h0,Qkx ha]
  simp only [Zb]
  rw [Qkx hb]
  simp only [Zb]
  by_cases h1:bs=1
  ·rw [bif_t h1,if_pos h1,Qc (by omega) (by omega),Yf (by omega) (by omega) (by decide)];rfl
  ·rw [Qa h1,if_neg h1,Yf (by omega) (by omega) (by decide)]
   simp only [Zb]
   have hle:a.1<=b.1:=by
    have y1:=Jo ha;have y2:=Jo hb
    rcases Int.lt_or_le b.1 a.1 with hh|hh
    ·have:=Qaj (y:=b.1+1) (y':=a.1) (by omega);omega
    ·exact hh
   have r:=(Qy3 ha hb h (b.1-a.1).toNat a.1 (by omega) (by omega)).lfp
   have e0:Wx a a.1=Rat.divInt 0 1:=by unfold Wx;rw [if_pos rfl,Rat.zero_divInt]
   rw [e0] at r
   have r':z165.l0 (numD a) (numD b) b.1 (a.1,(rf (Rat.divInt 0 1)).1,(rf (Rat.divInt 0 1)).2.1,(rf (Rat.divInt 0 1)).2.2)=_:=r
   rw [r']
   rfl
end Go.Proofs.YtgjncgiekniniaaGreatDoor.A
end
section
namespace Go.Proofs.YtgjncgiekniniaaGreatDoor.A
open Go
open Classical in
theorem Qaf (m:Int) {q:Rat} {k:Nat} (h:Sq k q):sz (rnd m q).natAbs<=2*k+2:=by
 obtain ⟨a1,_⟩:=Qji m q
 rw [a1]
 have h1:rndN m q.num.natAbs q.den<=q.num.natAbs+1:=by
  have:=Nat.div_le_self q.num.natAbs q.den
  unfold rndN
  split<;>omega
 have h2:=Qu h1
 have h3:=Y7 q.num.natAbs 1
 have h4:sz 1<=1:=sz_le (by decide)
 have:=h.1
 omega
end Go.Proofs.YtgjncgiekniniaaGreatDoor.A
end
section
namespace Go.Proofs.YtgjncgiekniniaaGreatDoor.A
open Go
theorem Made.olen {l:List Lg} (h:Made l):∀x∈l,x.op.length<=1000000:=λx hx=>by
 obtain ⟨n,r,e,h1,_,_⟩:=h.nums x hx
 have:(txt n).length<=10:=Y2 (Nat.lt_of_le_of_lt h1 (by decide)) (by decide)
 rw [e];omega
theorem Made.ll {l:List Lg} (h:Made l):Ll l:=⟨by have:=h.len;omega,h.olen⟩
theorem Qs7 {n:Nat} (hl:(lb n).length<=100000000):∃b:Int,z189.F (lb n)=some b/\0<=b/\b<=64*((lb n).length:Int):=by
 unfold z189.F
 rw [Wy,Zb]
 by_cases h:n=0
 ·rw [Zt h,Zd]
  exact ⟨0,rfl,Int.le_refl _,by omega⟩
 ·rw [Zf h,Zc]
  have h0:0<(lb n).length:=by
   rcases Nat.eq_zero_or_pos (lb n).length with e|e
   ·exact absurd ((Qko n).1 (by omega)) h
   ·exact e
  have hw:wr .i64 ((((lb n).length:Nat):Int)-1)=(((lb n).length-1:Nat):Int):=by rw [Qc (by omega) (by omega)];omega
  rw [hw,if_pos (by omega),Zi]
  obtain ⟨x,hx,hx2⟩:=limb (Qx bL n) ((lb n).length-1)
  have hx':(lb n).getD ((lb n).length-1) 0=(x:Int):=hx
  have hpos:0<x:=by
   rcases Nat.eq_zero_or_pos x with e|e
   ·exfalso
    have hne:lb n≠[]:=λe=>by rw [e] at h0;exact absurd h0 (by decide)
    have ht:(lb n).getLast hne≠0:=Qi4 bL n hne
    rw [List.getLast_eq_getElem] at ht
    rw [e] at hx'
    apply ht
    have:(lb n)[(lb n).length-1]'(by omega)=(lb n).getD ((lb n).length-1) 0:=by rw [Zl,List.getElem?_eq_getElem (by omega)];rfl
    rw [this,hx'];rfl
   ·exact e
  obtain ⟨k,h1,_,_,h4⟩:=bits_Len64 hpos hx2
  rw [hx',h4,Zb]
  rw [Qc (n:=64*(((lb n).length-1:Nat):Int)) (by omega) (by omega),Qc (by omega) (by omega)]
  exact ⟨_,rfl,by omega,by omega⟩
theorem digits_Pow {n t:Nat} (ht:t<=1200) (h:64*(lb n).length*t<=262144) (hs:sz n<=100000):z190.F (lb n) (t:Int)=some (lb (n^t),0):=by
 have l1:=Qj n
 obtain ⟨b,hb,h1,h2⟩:=Qs7 (n:=n) (by omega)
 unfold z190.F
 rw [Qa (by omega),Qa (by omega),hb,Zb]
 have hm:b*(t:Int)<=((64*(lb n).length*t:Nat):Int):=by
  rw [Int.natCast_mul]
  exact Int.mul_le_mul_of_nonneg_right (by omega) (by omega)
 have hm0:0<=b*(t:Int):=Int.mul_nonneg h1 (by omega)
 have hp:t*sz n<=700000000:=Nat.le_trans (Nat.mul_le_mul ht hs) (by decide)
 rw [Qc (by omega) (by omega),Qa (by omega),digits_power (by omega) hp]
 rfl
def lvl (a r:Rat) (n:Nat):Rat:=if r=0 then a/(n:Rat) else a*r*(1+r)^n/((1+r)^n-1)
theorem Qfo (u v:Rat) (hv:v≠0):∀n:Nat,v^n≠0/\(u/v)^n=u^n/v^n
 |0=>by rw [Rat.pow_zero,Rat.pow_zero,Rat.pow_zero];exact ⟨by decide,by grind⟩
 |
  n+1=>by
  obtain ⟨h1,h2⟩:=Qfo u v hv n
  have h3:v^n*v≠0:=by
   intro e
   rcases Rat.mul_eq_zero.1 e with e|e
   ·exact h1 e
   ·exact hv e
  rw [Rat.pow_succ,Rat.pow_succ,Rat.pow_succ,h2]
  exact ⟨h3,by grind⟩
theorem Q3q (an rn ad rd U W:Rat) (h1:ad≠0) (h2:rd≠0) (h3:W≠0) (h4:U-W≠0):(an*rn*U)/(ad*rd*(U-W))=(an/ad)*(rn/rd)*(U/W)/(U/W-1):=by
 have h5:U/W-1≠0:=by
  intro h
  apply h4
  have:U/W*W=U:=Rat.div_mul_cancel h3
  grind
 grind
theorem Qcd (u:Nat):∀n:Nat,((u^n:Nat):Rat)=(u:Rat)^n
 |0=>by rw [Nat.pow_zero,Rat.pow_zero];rfl
 |n+1=>by rw [Nat.pow_succ,Rat.pow_succ,<-Qcd u n,Rat.natCast_mul]
theorem Qcp (q:Rat):(q.num:Rat)/((q.den:Nat):Rat)=q:=by
 have h:=Rat.mkRat_eq_div q.num q.den
 rw [Rat.mkRat_self] at h
 exact h.symm
theorem Yn {n:Nat} (h:n≠0):((n:Nat):Rat)≠0:=λe=>by
 have:((n:Nat):Rat)=((0:Nat):Rat):=e
 exact h (Rat.natCast_inj.1 this)
theorem Qd5 {a r:Rat} {n:Nat} (hr:0<r) (hn:0<n) :
  Rat.divInt (a.num*r.num*(((r.num.natAbs+r.den)^n:Nat):Int)) ((a.den*r.den*((r.num.natAbs+r.den)^n-r.den^n):Nat):Int)=lvl a r n:=by
 have hr0:r≠0:=λe=>by rw [e] at hr;exact absurd hr (by decide)
 have hnum:0<r.num:=by
  have h1:0<=r.num:=Rat.num_nonneg.2 (by grind)
  have h2:r.num≠0:=λe=>hr0 (Rat.num_eq_zero.1 e)
  omega
 have hlt:r.den^n<(r.num.natAbs+r.den)^n:=Nat.pow_lt_pow_left (by omega) (by omega)
 have had:((a.den:Nat):Rat)≠0:=Yn (by have:=a.den_pos;omega)
 have hrd:((r.den:Nat):Rat)≠0:=Yn (by have:=r.den_pos;omega)
 obtain ⟨w1,w2⟩:=Qfo ((r.num.natAbs+r.den:Nat):Rat) ((r.den:Nat):Rat) hrd n
 have hg:1+r=((r.num.natAbs+r.den:Nat):Rat)/((r.den:Nat):Rat):=by
  have e:((r.num.natAbs:Nat):Rat)=(r.num:Rat):=by
   have:(r.num:Int)=((r.num.natAbs:Nat):Int):=by omega
   rw [this];rfl
  rw [Rat.natCast_add,e]
  have:=Qcp r
  grind
 have hsub:(((r.num.natAbs+r.den)^n-r.den^n:Nat):Rat)=((r.num.natAbs+r.den:Nat):Rat)^n-((r.den:Nat):Rat)^n:=by
  have e:((r.num.natAbs+r.den)^n-r.den^n)+r.den^n=(r.num.natAbs+r.den)^n:=by omega
  have e':(((r.num.natAbs+r.den)^n-r.den^n+r.den^n:Nat):Rat)=(((r.num.natAbs+r.den)^n:Nat):Rat):=congrArg (λk:Nat=>(k:Rat)) e
  rw [Rat.natCast_add,Qcd,Qcd] at e'
  grind
 have hd:((r.num.natAbs+r.den:Nat):Rat)^n-((r.den:Nat):Rat)^n≠0:=by
  rw [<-hsub]
  exact Yn (by omega)
 unfold lvl
 rw [if_neg hr0,hg,w2,Rat.divInt_eq_div]
 have ea:=Qcp a
 have er:=Qcp r
 have h:=Q3q (a.num:Rat) (r.num:Rat) ((a.den:Nat):Rat) ((r.den:Nat):Rat) (((r.num.natAbs+r.den:Nat):Rat)^n) (((r.den:Nat):Rat)^n) had hrd w1 hd
 rw [ea,er] at h
 rw [<-h,Rat.intCast_mul,Rat.intCast_mul]
 have c1:(((r.num.natAbs+r.den)^n:Nat):Int)=(((r.num.natAbs+r.den)^n:Nat):Int):=rfl
 rw [Rat.intCast_natCast,Rat.intCast_natCast,Qcd,Rat.natCast_mul,Rat.natCast_mul,hsub]
theorem Qe9 (n:Nat):neg ((n:Nat):Int)=false:=Zf (by omega)
theorem power_plain (n:Nat):z191.F (lb n)=some (lb n,false):=by
 unfold z191.F
 rw [whole_Of,Zb,Bool.false_and]
theorem Qrc {k j:Nat} {q r:Rat} (hq:Sq k q) (hr:Sq j r) (h0:r≠0) (hs:k+j<=100000000) :
  z75.F (fr q).1 (fr q).2.1 (fr q).2.2 (fr r).1 (fr r).2.1 (fr r).2.2=some ((fr (q/r)).1,(fr (q/r)).2.1,(fr (q/r)).2.2,0):=by
 have q1:=hq.1;have q2:=hq.2;have r1:=hr.1;have r2:=hr.2
 have h1:=hq.cross hr
 have h2:=hr.cross hq
 rw [Int.mul_comm] at h2
 have hm:=Y7 (q.num*r.den).natAbs ((q.den:Int)*r.num).natAbs
 exact Qno (Qkp (M:=(q.num*r.den).natAbs+((q.den:Int)*r.num).natAbs) (by omega)) h0 (by omega) (by omega) (by omega) (by omega)
theorem Qdi (n:Nat) {t:Nat} (ht:t≠0):sz (n^t)<=t*sz n:=sz_le (by
 have:=Nat.pow_lt_pow_left (J6 n) ht
 rw [<-Nat.pow_mul,Nat.mul_comm] at this
 exact this)
theorem power_Level {a r:Rat} {n:Nat} {k:Nat} (ha:Sq k a) (hk:k<=10000000) (hr:0<=r) (hr':Sq k r) (hn:1<=n/\n<=1200) (hb:64*sz (r.num.natAbs+r.den)*n<=262144) :
  z192.F (fr a).1 (fr a).2.1 (fr a).2.2 (fr r).1 (fr r).2.1 (fr r).2.2 (n:Int)=some ((fr (lvl a r n)).1,(fr (lvl a r n)).2.1,(fr (lvl a r n)).2.2,0):=by
 have hnum:0<=r.num:=Rat.num_nonneg.2 hr
 unfold z192.F
 rw [Qa (by omega),Zf (by omega)]
 unfold z192.j1
 rw [Zc]
 have es:=Qd6 r (fr r).2.2
 rw [es,Zb,Qa (by rw [Q6];omega),Zb]
 by_cases h0:r=0
 ·have hn0:((n:Int):Rat)≠0:=Yn (n:=n) (by omega)
  have sn:sz n<=4:=sz_le (by omega)
  rw [bif_t (by rw [Yt,h0];rfl),whole_From (by omega),Zb]
  simp only
  rw [frac_From,Zb,Qrc ha (Sq.int (k:=4) (z:=(n:Int)) (by rw [Int.natAbs_natCast];omega) (by decide)) hn0 (by omega)]
  have e:lvl a r n=a/((n:Int):Rat):=by unfold lvl;rw [if_pos h0];rfl
  rw [e];rfl
 ·have hpos:0<r:=by grind
  have hne:r.num≠0:=λe=>h0 (Rat.num_eq_zero.1 e)
  have a1:=ha.1;have a2:=ha.2;have r1:=hr'.1;have r2:=hr'.2
  have hden:=r.den_pos
  generalize hu:r.num.natAbs+r.den=u at *
  have hnu:n*sz u<=4096:=by
   have e:64*sz u*n=64*(n*sz u):=by rw [Nat.mul_assoc,Nat.mul_comm (sz u) n]
   omega
  have hsu:sz u<=4096:=Nat.le_trans (Nat.le_mul_of_pos_left _ (by omega)) hnu
  have lu:=Qj u
  have hvu:sz r.den<=sz u:=Qu (by omega)
  have lv:=Qj r.den
  have b1:64*(lb u).length*n<=262144:=Nat.le_trans (Nat.mul_le_mul_right n (by omega)) hb
  have b2:64*(lb r.den).length*n<=262144:=Nat.le_trans (Nat.mul_le_mul_right n (by omega)) hb
  have hle:r.den^n<=u^n:=Nat.pow_le_pow_left (by omega) n
  have hlt:r.den^n<u^n:=Nat.pow_lt_pow_left (by omega) (by omega)
  have sp:sz (u^n)<=n*sz u:=Qdi u (by omega)
  have lp:=Qj (u^n)
  have sl:sz (u^n-r.den^n)<=n*sz u:=Nat.le_trans (Qu (Nat.sub_le _ _)) sp
  have ll:=Qj (u^n-r.den^n)
  have ln:=Qj r.num.natAbs
  have ln2:=Qj a.num.natAbs
  have s1:=Yg a.num r.num
  have l1:=Qj (a.num*r.num).natAbs
  have s2:=Yg (a.num*r.num) ((u^n:Nat):Int)
  have s3:=Q7 a.den r.den
  have l3:=Qj (a.den*r.den)
  have l4:=Qj a.den
  have s4:=Q7 (a.den*r.den) (u^n-r.den^n)
  rw [Qa (by rw [Yt];exact hne)]
  have eD:=Yy r (fr r).1 (fr r).2.1 (by omega)
  rw [eD,Zb,show z148.F (fr r).1 (fr r).2.1 (fr r).2.2=some ((fr r).1,(fr r).2.1) from rfl,Zb]
  simp only
  rw [show z59.F (lb r.num.natAbs) (neg r.num)=some (lb r.num.natAbs) from rfl,Zb,Qbq (by omega),Zb,hu,digits_Pow hn.2 b1 (by omega),Zb,digits_Pow hn.2 b2 (by omega),Zb]
  simp only [decide_true,Zn,Zc]
  unfold z192.j13
  simp only
  rw [Qds (by omega),if_pos hle,Zb,show z148.F (lb a.num.natAbs) (neg a.num) (lb (a.den-1))=some (lb a.num.natAbs,neg a.num) from rfl,Zb,show z148.F (lb r.num.natAbs) (neg r.num) (lb (r.den-1))=some (lb r.num.natAbs,neg r.num) from rfl,Zb]
  simp only
  have m1:=Yi (x:=a.num) (y:=r.num) (by omega)
  have m2:=Yi (x:=a.num*r.num) (y:=((u^n:Nat):Int)) (by rw [Int.natAbs_natCast];omega)
  have o1:=Qek (num:=a.num*r.num*((u^n:Nat):Int)) (den:=((a.den*r.den*(u^n-r.den^n):Nat):Int)) (by
   have h1:0<a.den:=a.den_pos
   have h2:0<a.den*r.den:=Nat.mul_pos h1 hden
   have h3:0<a.den*r.den*(u^n-r.den^n):=Nat.mul_pos h2 (by omega)
   omega) (by rw [Int.natAbs_natCast] at s2;omega) (by rw [Int.natAbs_natCast];omega)
  rw [Int.natAbs_natCast] at m2
  rw [Qe9] at m2
  rw [Int.natAbs_natCast ((a.den*r.den*(u^n-r.den^n):Nat)),Qe9] at o1
  rw [m1,Zb,power_plain,Zb]
  simp only
  rw [m2,Zb,Yy a _ _ (by omega),Zb,Yv (by omega),Zb,Yv (by omega),Zb,power_plain,Zb]
  simp only
  rw [o1,Zb,<-hu,Qd5 hpos (by omega)]
theorem Qwi (s:List UInt8):0<=(mRate s).1:=by
 unfold mRate
 split
 ·exact Rat.le_refl
 ·split
  ·exact Rat.le_refl
  ·rename_i h
   show (0:Rat)<=mkRat (mDec s).1 (10^(mDec s).2.1)/100
   have h0:0<=(mDec s).1:=by omega
   rw [Rat.mkRat_eq_div]
   have e1:((0:Int):Rat)<=((mDec s).1:Rat):=Rat.intCast_le_intCast.2 h0
   have e2:(0:Rat)<=((mDec s).1:Rat):=e1
   have hp:(0:Nat)<10^(mDec s).2.1:=Nat.pow_pos (by decide)
   have e3:((0:Nat):Rat)<((10^(mDec s).2.1:Nat):Rat):=Rat.natCast_lt_natCast.2 hp
   have e4:(0:Rat)<((10^(mDec s).2.1:Nat):Rat):=e3
   generalize ((mDec s).1:Rat)=x at *
   generalize ((10^(mDec s).2.1:Nat):Rat)=y at *
   have e5:0<=x/y:=by
    rw [Rat.div_def]
    exact Rat.mul_nonneg e2 (Rat.le_of_lt (Rat.inv_pos.2 e4))
   grind
theorem Ji (s:List UInt8):0<=(mMoney s).1/\(mMoney s).1<=10^30:=by
 unfold mMoney
 have h10:(0:Int)<=10^30:=by decide
 split
 ·exact ⟨Int.le_refl _,h10⟩
 ·split
  ·exact ⟨Int.le_refl _,h10⟩
  ·rename_i h;exact ⟨by show 0<=(mWhole s).1;omega,by show (mWhole s).1<=_;omega⟩
def perR (s:List UInt8) (every:Int):Rat:=(mRate s).1*Rat.divInt every 12
theorem Qj8 {e:Int} (he:1<=e/\e<=12):Sq 2 (Rat.divInt e 12):=Sq.div (by decide) (sz_le (by omega)) (sz_le (by decide))
theorem Qbs (s:List UInt8) {e:Int} (he:1<=e/\e<=12):Sq 102 (perR s e):=(W9 s).mul (Qj8 he)
theorem Q32 {e:Int} (he:1<=e):0<Rat.divInt e 12:=by
 rw [Rat.divInt_eq_div]
 have:((1:Int):Rat)<=(e:Rat):=Rat.intCast_le_intCast.2 he
 have e1:(1:Rat)<=(e:Rat):=this
 show 0<(e:Rat)/12
 grind
theorem Qa3 (s:List UInt8) {e:Int} (he:1<=e):0<=perR s e:=Rat.mul_nonneg (Qwi s) (Rat.le_of_lt (Q32 he))
theorem level_Rate {s:List UInt8} {e:Int} (h:(mRate s).2=0) (he:1<=e/\e<=12):z188.F s e=some ((fr (perR s e)).1,(fr (perR s e)).2.1,(fr (perR s e)).2.2,0):=by
 unfold z188.F
 rw [terms_Rate,Zb,h]
 simp only [decide_true,Zn,Zc]
 rw [Qa (by omega),Qa (by omega)]
 unfold z188.j2
 have se:sz e.natAbs<=2:=sz_le (by omega)
 have s12:sz (Int.natAbs 12)<=2:=sz_le (by decide)
 have o:=Qek (num:=e) (den:=12) (by decide) (by omega) (by omega)
 rw [whole_From (by omega),Zb,whole_From (by decide),Zb]
 simp only
 rw [o,Zb]
 simp only
 rw [Qby (W9 s) (Qj8 he) (by decide),Zb]
 rfl
def payN (m:Int) (a:Int) (s:List UInt8) (e:Int) (n:Nat):Int:=rnd m (lvl (a:Rat) (perR s e) n)
theorem Qik {a r:Rat} {n k:Nat} (ha:Sq k a) (hr:0<=r) (hr':Sq k r) (hn:1<=n) (hk:4<=k) (hb:64*sz (r.num.natAbs+r.den)*n<=262144):Sq (2*k+4100) (lvl a r n):=by
 have a1:=ha.1;have a2:=ha.2;have r1:=hr'.1;have r2:=hr'.2
 by_cases h0:r=0
 ·have sn:sz n<=4:=by
   have h1:sz 1<=1:=sz_le (by decide)
   have h2:0<sz (r.num.natAbs+r.den):=by
    have:=Qu (show 1<=r.num.natAbs+r.den by have:=r.den_pos;omega)
    have e1:sz 1≠0:=by decide +kernel
    omega
   have:64*1*n<=262144:=Nat.le_trans (Nat.mul_le_mul_right n (Nat.mul_le_mul_left 64 h2)) hb
   exact sz_le (by omega)
  unfold lvl
  rw [if_pos h0]
  have e:a/(n:Rat)=Rat.divInt (a.num) ((a.den*n:Nat):Int):=by
   rw [Rat.divInt_eq_div,Rat.intCast_natCast,Rat.natCast_mul]
   have:=Qcp a
   have hn0:((n:Nat):Rat)≠0:=Yn (by omega)
   have had:((a.den:Nat):Rat)≠0:=Yn (by have:=a.den_pos;omega)
   grind
  rw [e]
  have hm:=Q7 a.den n
  exact Sq.div (by have:=Nat.mul_pos a.den_pos (show 0<n by omega);omega) (by omega) (by rw [Int.natAbs_natCast];omega)
 ·have hpos:0<r:=by grind
  rw [<-Qd5 hpos (by omega)]
  have hden:=r.den_pos
  have hnum:0<=r.num:=Rat.num_nonneg.2 hr
  have hne:r.num≠0:=λe=>h0 (Rat.num_eq_zero.1 e)
  generalize hu:r.num.natAbs+r.den=u at *
  have hnu:n*sz u<=4096:=by
   have e:64*sz u*n=64*(n*sz u):=by rw [Nat.mul_assoc,Nat.mul_comm (sz u) n]
   omega
  have sp:sz (u^n)<=n*sz u:=Qdi u (by omega)
  have sl:sz (u^n-r.den^n)<=n*sz u:=Nat.le_trans (Qu (Nat.sub_le _ _)) sp
  have hlt:r.den^n<u^n:=Nat.pow_lt_pow_left (by omega) (by omega)
  have s1:=Yg a.num r.num
  have s2:=Yg (a.num*r.num) ((u^n:Nat):Int)
  have s3:=Q7 a.den r.den
  have s4:=Q7 (a.den*r.den) (u^n-r.den^n)
  rw [Int.natAbs_natCast] at s2
  refine Sq.div ?_ (by omega) (by rw [Int.natAbs_natCast];omega)
  have h1:0<a.den:=a.den_pos
  have h2:0<a.den*r.den:=Nat.mul_pos h1 hden
  have h3:0<a.den*r.den*(u^n-r.den^n):=Nat.mul_pos h2 (by omega)
  omega
theorem Qe1 (s:List UInt8) {e:Int} (he:1<=e/\e<=12) {n:Nat} (hn:n<=30):64*sz ((perR s e).num.natAbs+(perR s e).den)*n<=262144:=by
 have h:sz (perR s e).num.natAbs<=102/\sz (perR s e).den<=102:=by
  have h1:=Qhj s
  have se:sz e.natAbs<=2:=sz_le (by omega)
  have s12:sz 12<=2:=sz_le (by decide)
  unfold perR
  have hd:Rat.divInt e 12=mkRat e 12:=rfl
  have m1:=Qbb e (show 0<12 by decide)
  have m2:=Qbf e (show 0<12 by decide)
  rw [<-hd] at m1 m2
  have n1:=Qu m1
  have n2:=Qu m2
  rw [Rat.mul_def']
  have p0:0<(mRate s).1.den*(Rat.divInt e 12).den:=Nat.mul_pos (mRate s).1.den_pos (Rat.divInt e 12).den_pos
  have k1:=Qu (Qbb ((mRate s).1.num*(Rat.divInt e 12).num) p0)
  have k2:=Qu (Qbf ((mRate s).1.num*(Rat.divInt e 12).num) p0)
  have k3:=Yg (mRate s).1.num (Rat.divInt e 12).num
  have k4:=Q7 (mRate s).1.den (Rat.divInt e 12).den
  constructor<;>omega
 have hm:=Y7 (perR s e).num.natAbs (perR s e).den
 have hs:sz ((perR s e).num.natAbs+(perR s e).den)<=104:=by omega
 exact Nat.le_trans (Nat.mul_le_mul (Nat.mul_le_mul_left 64 hs) hn) (by decide)
theorem level_Payment {a:Int} {s:List UInt8} {e m:Int} {n:Nat} (ha:0<=a) (hz:sz a.natAbs<=200) (h:(mRate s).2=0) (he:1<=e/\e<=12) (hn:1<=n/\n<=30) (hm:0<=m/\m<=4) :
  z193.F (lb a.natAbs) (neg a) s e (n:Int) m=some (lb (payN m a s e n).natAbs,neg (payN m a s e n),0):=by
 have hq:Sq 102 (a:Rat):=Sq.int (by omega) (by decide)
 have hb:=Qe1 s he hn.2
 unfold z193.F
 rw [level_Rate h he,Zb]
 simp only [decide_true,Zn,Zc]
 rw [W0,Zb,Qa (by rw [Q6];omega),frac_From,Zb,power_Level hq (by decide) (Qa3 s he.1) (Qbs s he) ⟨hn.1,by omega⟩ hb,Zb]
 simp only [decide_true,Zn,Zc]
 rw [round_Whole hm (Qik hq (Qa3 s he.1) (Qbs s he) hn.1 (by decide) hb) (by decide),Zb]
 rfl
def Qei (m:Int) (a:Int) (n:Nat):Int:=rnd m (Rat.divInt a n)
theorem level_Part {a:Int} {m:Int} {n:Nat} (ha:0<=a) (hz:sz a.natAbs<=200) (hn:1<=n/\n<=1200) (hm:0<=m/\m<=4):z194.F (lb a.natAbs) (neg a) (n:Int) m=some (lb (Qei m a n).natAbs,neg (Qei m a n),0):=by
 have sn:sz n<=4:=sz_le (by omega)
 unfold z194.F
 rw [W0,Zb,Qa (by rw [Q6];omega),Qa (by omega),Qa (by omega)]
 unfold z194.j2
 rw [whole_From (by omega),Zb]
 simp only
 rw [Qek (by omega) (by omega) (by rw [Int.natAbs_natCast];omega),Zb]
 simp only
 rw [round_Whole hm (Sq.div (k:=200) (by omega) (by omega) (by rw [Int.natAbs_natCast];omega)) (by decide),Zb]
 rfl
def intX (t:Tm) (z:Int) (a b:D3):Rat:=(z:Rat)*(mRate t.r).1*yf t.basis a.1 a.2.1 a.2.2 b.1 b.2.1 b.2.2
def intN (t:Tm) (z:Int) (a b:D3):Int:=rnd t.mode (intX t z a b)
theorem Qk6 {t:Tm} {z:Int} {a b:D3} (hz:sz z.natAbs<=200) (ha:rightD a) (hb:rightD b):Sq 232 (intX t z a b):=
 ((Sq.int (k:=100) (by omega) (by decide)).mul (W9 t.r)).mul (Qa0 t.basis ha hb)
theorem Qg7 {t:Tm} {z:Int} {a b:D3} (hz:sz z.natAbs<=200) (ha:rightD a) (hb:rightD b):sz (intN t z a b).natAbs<=466:=Qaf t.mode (Qk6 hz ha hb)
theorem Y6 {t:Tm} (h:kindsOK t):(0<=t.kind/\t.kind<=2)/\(0<=t.basis/\t.basis<=2)/\(0<=t.mode/\t.mode<=4)/\Qbo t.every:=h
theorem Qz5 {t:Tm} (h:mCheck t≠0) (z:Int) (a b:D3):z185.F (lb z.natAbs) (neg z) t.p t.r t.kind t.basis t.mode t.y t.m t.d t.every t.count a.1 a.2.1 a.2.2 b.1 b.2.1 b.2.2=some ([],false,mCheck t):=by
 unfold z185.F
 rw [terms_Check,Zb,Zf h,Zo,Zd]
theorem Qzw {bs:Int} {a b:D3} (hbs:0<=bs/\bs<=2) (h:¬(rightD a/\rightD b)):z159.F bs a.1 a.2.1 a.2.2 b.1 b.2.1 b.2.2=some ([],false,[],11):=by
 unfold z159.F
 rw [Qjq,Zt hbs,Zb,Zn,Zc,date_Check,Zb]
 have hj:z159.j4 true a.1 a.2.1 a.2.2 b.1 b.2.1 b.2.2 bs=some ([],false,[],11):=rfl
 by_cases ha:rightD a
 ·have ha':right a.1 a.2.1 a.2.2:=ha
  have hb:¬right b.1 b.2.1 b.2.2:=λe=>h ⟨ha,e⟩
  rw [if_pos ha']
  simp only [decide_true,Zn,Zc]
  rw [date_Check,if_neg hb,Zb]
  exact hj
 ·have ha':¬right a.1 a.2.1 a.2.2:=ha
  rw [if_neg ha']
  exact hj
theorem Q1u {bs:Int} {a b:D3} (hbs:0<=bs/\bs<=2) (ha:rightD a) (hb:rightD b) (h:numD b<numD a):z159.F bs a.1 a.2.1 a.2.2 b.1 b.2.1 b.2.2=some ([],false,[],12):=by
 have ha':right a.1 a.2.1 a.2.2:=ha
 have hb':right b.1 b.2.1 b.2.2:=hb
 unfold z159.F
 rw [Qjq,Zt hbs,Zb,Zn,Zc,date_Check,Zb,if_pos ha']
 simp only [decide_true,Zn,Zc]
 rw [date_Check,if_pos hb',Zb]
 simp only [decide_true,Zn]
 unfold z159.j4
 have hc:dcmp a.1 a.2.1 a.2.2 b.1 b.2.1 b.2.2>0:=by
  have:=Q9 ha hb
  unfold cmpD at this
  rw [this,Wh];exact h
 rw [Zc,date_Cmp,Zb,bif_t hc]
theorem plan_Interest {t:Tm} (h:mCheck t=0) {z:Int} (hz:sz z.natAbs<=200) {a b:D3} (ha:rightD a) (hb:rightD b) (hab:numD a<=numD b) :
  z185.F (lb z.natAbs) (neg z) t.p t.r t.kind t.basis t.mode t.y t.m t.d t.every t.count a.1 a.2.1 a.2.2 b.1 b.2.1 b.2.2=some (lb (intN t z a b).natAbs,neg (intN t z a b),0):=by
 obtain ⟨hk,hc,_,_⟩:=W6 h
 obtain ⟨_,k2,k3,_⟩:=Y6 hk
 have q1:Sq 100 (z:Rat):=Sq.int (by omega) (by decide)
 unfold z185.F
 rw [terms_Check,Zb,h]
 simp only [decide_true,Zn,Zc]
 rw [count_Year k2 ha hb hab,Zb]
 simp only [decide_true,Zn,Zc]
 rw [terms_Rate,Zb,frac_From,Zb,Qby q1 (W9 t.r) (by decide),Zb,Qby (q1.mul (W9 t.r)) (Qa0 t.basis ha hb) (by decide),Zb]
 have hw:=round_Whole k3 (Qk6 (t:=t) hz ha hb) (by decide)
 unfold intX at hw
 rw [hw,Zb]
 rfl
theorem Qot {t:Tm} (h:mCheck t=0) (z:Int) {a b:D3} (hd:¬(rightD a/\rightD b)) :
  z185.F (lb z.natAbs) (neg z) t.p t.r t.kind t.basis t.mode t.y t.m t.d t.every t.count a.1 a.2.1 a.2.2 b.1 b.2.1 b.2.2=some ([],false,11):=by
 obtain ⟨hk,hc,_,_⟩:=W6 h
 obtain ⟨_,k2,k3,_⟩:=Y6 hk
 unfold z185.F
 rw [terms_Check,Zb,h]
 simp only [decide_true,Zn,Zc]
 rw [Qzw k2 hd,Zb]
 rfl
theorem Q3v {t:Tm} (h:mCheck t=0) (z:Int) {a b:D3} (ha:rightD a) (hb:rightD b) (hab:numD b<numD a) :
  z185.F (lb z.natAbs) (neg z) t.p t.r t.kind t.basis t.mode t.y t.m t.d t.every t.count a.1 a.2.1 a.2.2 b.1 b.2.1 b.2.2=some ([],false,12):=by
 obtain ⟨hk,hc,_,_⟩:=W6 h
 obtain ⟨_,k2,k3,_⟩:=Y6 hk
 unfold z185.F
 rw [terms_Check,Zb,h]
 simp only [decide_true,Zn,Zc]
 rw [Q1u k2 ha hb hab,Zb]
 rfl
structure Rw where
 due:D3
 o:Int
 n:Int
 b:Int
 pay:Int
 c:Int
deriving DecidableEq
def rwv (x:Rw):List V:=[.int .i64 x.due.1,.int .i64 x.due.2.1,.int .i64 x.due.2.2,.str (itxt x.o),.str (itxt x.n),.str (itxt x.b),.str (itxt x.pay),.str (itxt x.c)]
theorem asW0 {R:Type} (x:Rw) (K:Int->Option R):V.asInt .i64 ((rwv x).getD 0 .undef) K=K x.due.1:=by simp [rwv,V.asInt]
theorem asW1 {R:Type} (x:Rw) (K:Int->Option R):V.asInt .i64 ((rwv x).getD 1 .undef) K=K x.due.2.1:=by simp [rwv,V.asInt]
theorem asW2 {R:Type} (x:Rw) (K:Int->Option R):V.asInt .i64 ((rwv x).getD 2 .undef) K=K x.due.2.2:=by simp [rwv,V.asInt]
theorem asW3 {R:Type} (x:Rw) (K:List UInt8->Option R):V.asStr ((rwv x).getD 3 .undef) K=K (itxt x.o):=by simp [rwv,V.asStr]
theorem asW4 {R:Type} (x:Rw) (K:List UInt8->Option R):V.asStr ((rwv x).getD 4 .undef) K=K (itxt x.n):=by simp [rwv,V.asStr]
theorem asW5 {R:Type} (x:Rw) (K:List UInt8->Option R):V.asStr ((rwv x).getD 5 .undef) K=K (itxt x.b):=by simp [rwv,V.asStr]
theorem asW6 {R:Type} (x:Rw) (K:List UInt8->Option R):V.asStr ((rwv x).getD 6 .undef) K=K (itxt x.pay):=by simp [rwv,V.asStr]
theorem asW7 {R:Type} (x:Rw) (K:List UInt8->Option R):V.asStr ((rwv x).getD 7 .undef) K=K (itxt x.c):=by simp [rwv,V.asStr]
def less (a b:Int):Int:=if a<b then a else b
def Wf (kind one z n:Int):Int:=if kind=0 then (if one-n<0 then 0 else less (one-n) z) else less one z
theorem Qpf {a b:Int} (h:sz a.natAbs+sz b.natAbs<=700000000):z196.F (lb a.natAbs) (neg a) (lb b.natAbs) (neg b)=some (lb (less a b).natAbs,neg (less a b)):=by
 have l1:=Qj a.natAbs
 have l2:=Qj b.natAbs
 unfold z196.F less
 rw [Qc5 (by omega),Zb]
 by_cases c:a<b
 ·rw [bif_t (Q6.2 c),if_pos c]
 ·rw [Qa (λe=>c (Q6.1 e)),if_neg c]
theorem plan_part {kind one z n:Int} (h1:sz one.natAbs<=10000000) (h2:sz z.natAbs<=10000000) (h3:sz n.natAbs<=10000000):z197.F kind (lb one.natAbs) (neg one) (lb z.natAbs) (neg z) (lb n.natAbs) (neg n)=some (lb (Wf kind one z n).natAbs,neg (Wf kind one z n)):=by
 have l1:=Qj one.natAbs
 have l3:=Qj n.natAbs
 have hs:sz (one-n).natAbs<=10000001:=by
  have h:=Qu (show (one-n).natAbs<=one.natAbs+n.natAbs by omega)
  have:=Y7 one.natAbs n.natAbs
  omega
 unfold z197.F Wf
 by_cases hk:kind=0
 ·rw [bif_t hk,if_pos hk,Qb7 (by omega),Zb]
  simp only
  rw [W0,Zb]
  by_cases c:one-n<0
  ·rw [bif_t (by rw [Q6];exact c),if_pos c,show Int.natAbs 0=0 from rfl,lb_zero];rfl
  ·rw [Qa (by rw [Q6];exact c),if_neg c,Qpf (by omega),Zb]
 ·rw [Qa hk,if_neg hk,Qpf (by omega),Zb]
def mRow (t:Tm) (one z:Int) (p:D3×D3) (last:Bool):Rw:=
 let n:=intN t z p.1 p.2
 let b:=if last then z else Wf t.kind one z n
 ⟨p.2,z,n,b,n+b,z-b⟩
def Q4h (t:Tm) (one:Int):Int->List (D3×D3)->List Rw
 |_,[]=>[]
 |z,p::ps=>mRow t one z p (decide (ps=[]))::Q4h t one (mRow t one z p (decide (ps=[]))).c ps
theorem Q2a {kind one z n:Int} (h1:0<=one) (hz:0<=z):0<=Wf kind one z n/\Wf kind one z n<=z:=by
 unfold Wf less
 split<;>(try split)<;>(try split)<;>omega
theorem Qay {t:Tm} {one z:Int} {p:D3×D3} {last:Bool} (h1:0<=one) (hz:0<=z):0<=(mRow t one z p last).c/\(mRow t one z p last).c<=z/\0<=(mRow t one z p last).b/\(mRow t one z p last).b<=z:=by
 have h:=Q2a (kind:=t.kind) (n:=intN t z p.1 p.2) h1 hz
 show 0<=z-(if last then z else Wf t.kind one z (intN t z p.1 p.2))/\z-(if last then z else Wf t.kind one z (intN t z p.1 p.2))<=z/\0<=(if last then z else Wf t.kind one z (intN t z p.1 p.2))/\(if last then z else Wf t.kind one z (intN t z p.1 p.2))<=z
 split<;>omega
def okP (ps:List (D3×D3)):Prop:=∀p∈ps,rightD p.1/\rightD p.2/\numD p.1<=numD p.2
theorem Qc0 {z:Int} (h0:0<=z) (h:z<=10^30):sz z.natAbs<=31:=sz_le (by
 have e:(10:Int)^30=1000000000000000000000000000000:=by decide
 rw [e] at h
 omega)
theorem Qi2 {t:Tm} (h:mCheck t=0) {one:Int} (h1:0<=one) (h1s:sz one.natAbs<=10000000) {ps:List (D3×D3)} (hp:okP ps) (hl:ps.length<=1200):∀(f i:Nat) (z:Int) (s:List Rw),i+f=ps.length->0<=z->z<=10^30->s.length=i ->
  ∃st:Int×List Int×Bool,Runs (λrec x=>z198.l0P (ps.map pv) (ps.map pv) (((ps.map pv).length:Nat):Int) t.p t.r t.kind t.basis t.mode t.y t.m t.d t.every t.count (lb one.natAbs) (neg one) rec some x) ((i:Int),lb z.natAbs,neg z,s.map rwv) (.inl (st.1,st.2.1,st.2.2,(s++Q4h t one z (ps.drop i)).map rwv))
 |
  0,i,z,s,hf,hz,hz',hs=>by
  refine ⟨((i:Int),lb z.natAbs,neg z),.done λrec=>?_⟩
  rw [List.drop_eq_nil_of_le (by omega)]
  have ea:s++Q4h t one z []=s:=List.append_nil s
  rw [ea]
  unfold z198.l0P
  simp only
  rw [Qa (by rw [List.length_map];omega)]
 |
  f+1,i,z,s,hf,hz,hz',hs=>by
  have hi:i<ps.length:=by omega
  obtain ⟨r1,r2,r3⟩:=hp ps[i] (List.getElem_mem hi)
  have ek:wr .i64 ((i:Int)+1)=((i+1:Nat):Int):=by rw [Qc (by omega) (by omega)];rfl
  have hw:wr .i64 ((((ps.map pv).length:Nat):Int)-1)=((ps.length-1:Nat):Int):=by rw [List.length_map,Qc (by omega) (by omega)];omega
  have s0:=Qc0 hz hz'
  have sn:=Qg7 (t:=t) (z:=z) (by omega) r1 r2
  have key:∀last:Bool,0<=(mRow t one z ps[i] last).b/\(mRow t one z ps[i] last).b<=z:=λlast=>⟨(Qay h1 hz).2.2.1,(Qay h1 hz).2.2.2⟩
  have hj:∀(last:Bool) (rec:(Int×(List Int)×Bool×(List (List V)))->Option ((Int×(List Int)×Bool×(List (List V)))⊕((List (List V))×Int×(List Int)×Bool×(List (List V))))),
    z198.j1031a rec some (lb z.natAbs) (neg z) (lb (mRow t one z ps[i] last).b.natAbs) (neg (mRow t one z ps[i] last).b) (lb (intN t z ps[i].1 ps[i].2).natAbs,neg (intN t z ps[i].1 ps[i].2),0) (s.map rwv) ps[i].2.1 ps[i].2.2.1 ps[i].2.2.2 (i:Int) =
     rec (((i+1:Nat):Int),lb (mRow t one z ps[i] last).c.natAbs,neg (mRow t one z ps[i] last).c,(s++[mRow t one z ps[i] last]).map rwv):=λlast rec=>by
   obtain ⟨kb1,kb2⟩:=key last
   have sb:=Qc0 kb1 (by omega)
   have sc:=Qc0 (Qay (t:=t) (p:=ps[i]) (last:=last) h1 hz).1 (by have:=(Qay (t:=t) (p:=ps[i]) (last:=last) h1 hz).2.1;omega)
   have ec:z-(mRow t one z ps[i] last).b=(mRow t one z ps[i] last).c:=rfl
   have ep:intN t z ps[i].1 ps[i].2+(mRow t one z ps[i] last).b=(mRow t one z ps[i] last).pay:=rfl
   have l1:=Qj z.natAbs
   have l2:=Qj (mRow t one z ps[i] last).b.natAbs
   have l3:=Qj (intN t z ps[i].1 ps[i].2).natAbs
   have sp:sz (mRow t one z ps[i] last).pay.natAbs<=500:=by
    have h:=Qae (intN t z ps[i].1 ps[i].2) (mRow t one z ps[i] last).b
    rw [ep] at h;omega
   unfold z198.j1031a
   rw [Qb7 (by omega),Zb,ec,W4 (by omega),Zb]
   simp only
   rw [W4 (by omega),Zb,W4 (by omega),Zb,Qbd (by omega),Zb,ep]
   simp only
   rw [W4 (by omega),Zb,W4 (by omega),Zb,if_pos (by simp only [List.length_map,List.length_cons,List.length_nil];omega),ek,List.map_append]
   rfl
  have hdrop:ps.drop i=ps[i]::ps.drop (i+1):=List.drop_eq_getElem_cons hi
  have hlast:decide (ps.drop (i+1)=[])=decide (i=ps.length-1):=by
   apply decide_eq_decide.2
   rw [List.drop_eq_nil_iff];omega
  obtain ⟨st,r⟩:=Qi2 h h1 h1s hp hl f (i+1) (mRow t one z ps[i] (decide (i=ps.length-1))).c (s++[mRow t one z ps[i] (decide (i=ps.length-1))]) (by omega) (Qay h1 hz).1 (by have:=(Qay (t:=t) (p:=ps[i]) (last:=decide (i=ps.length-1)) h1 hz).2.1;omega) (by rw [List.length_append,List.length_singleton];omega)
  refine ⟨st,?_⟩
  have hm:Q4h t one z (ps.drop i)=mRow t one z ps[i] (decide (i=ps.length-1))::Q4h t one (mRow t one z ps[i] (decide (i=ps.length-1))).c (ps.drop (i+1)):=by
   rw [hdrop]
   show mRow t one z ps[i] (decide (ps.drop (i+1)=[]))::Q4h t one (mRow t one z ps[i] (decide (ps.drop (i+1)=[]))).c (ps.drop (i+1))=_
   rw [hlast]
  rw [hm,List.append_cons]
  refine .step (λrec=>?_) r
  unfold z198.l0P
  simp only
  rw [bif_t (by rw [List.length_map];omega),if_pos (by rw [List.length_map];omega),Zi,Q1 pv hi]
  simp only [asP0,asP1,asP2,asP3,asP4,asP5]
  rw [plan_Interest h (by omega) r1 r2 r3,Zb]
  simp only [decide_true,Zn,Zc]
  rw [plan_part h1s (by omega) (by omega),Zb,hw]
  by_cases hc:i=ps.length-1
  ·rw [bif_t (by omega)]
   have:=hj true rec
   rw [Zt hc]
   exact this
  ·rw [Qa (by omega)]
   have:=hj false rec
   rw [Zf hc]
   exact this
theorem Qdm (m:Int) {q:Rat} (h:0<=q):0<=rnd m q:=by
 have:=Rat.num_nonneg.2 h
 unfold rnd
 rw [if_neg (by omega)]
 omega
theorem Q4s {a b:Int} (h:0<=a) (h':0<b):0<=Rat.divInt a b:=by
 rw [Rat.divInt_eq_div,Rat.div_def]
 have e1:((0:Int):Rat)<=(a:Rat):=Rat.intCast_le_intCast.2 h
 have e2:((0:Int):Rat)<(b:Rat):=Rat.intCast_lt_intCast.2 h'
 exact Rat.mul_nonneg e1 (Rat.le_of_lt (Rat.inv_pos.2 e2))
theorem Qhv {a r:Rat} {n:Nat} (ha:0<=a) (hr:0<=r) (hn:1<=n):0<=lvl a r n:=by
 by_cases h0:r=0
 ·unfold lvl
  rw [if_pos h0,Rat.div_def]
  have e:((0:Nat):Rat)<=((n:Nat):Rat):=Rat.natCast_le_natCast.2 (Nat.zero_le n)
  have hn0:((0:Nat):Rat)<((n:Nat):Rat):=Rat.natCast_lt_natCast.2 (by omega)
  exact Rat.mul_nonneg ha (Rat.le_of_lt (Rat.inv_pos.2 hn0))
 ·have hpos:0<r:=by grind
  rw [<-Qd5 hpos (by omega)]
  have hnum:0<=r.num:=Rat.num_nonneg.2 hr
  have hne:r.num≠0:=λe=>h0 (Rat.num_eq_zero.1 e)
  have hna:0<=a.num:=Rat.num_nonneg.2 ha
  have hlt:r.den^n<(r.num.natAbs+r.den)^n:=Nat.pow_lt_pow_left (by omega) (by omega)
  have h2:0<a.den*r.den:=Nat.mul_pos a.den_pos r.den_pos
  have h3:0<a.den*r.den*((r.num.natAbs+r.den)^n-r.den^n):=Nat.mul_pos h2 (by omega)
  exact Q4s (Int.mul_nonneg (Int.mul_nonneg hna hnum) (by omega)) (by omega)
def Q4j (t:Tm):Int:=if t.kind=0 then payN t.mode (mMoney t.p).1 t.r t.every t.count.toNat else if t.kind=1 then Qei t.mode (mMoney t.p).1 t.count.toNat else 0
theorem Qfb {z:Int} (h:0<=z):(0:Rat)<=(z:Rat):=by
 have e1:((0:Int):Rat)<=(z:Rat):=Rat.intCast_le_intCast.2 h
 exact e1
theorem Qla {t:Tm} (h:mCheck t=0) (hc:t.count<=30):0<=Q4j t/\sz (Q4j t).natAbs<=10000/\z195.F t.p t.r t.kind t.basis t.mode t.y t.m t.d t.every t.count=some (lb (Q4j t).natAbs,neg (Q4j t),0):=by
 obtain ⟨hk,hcc,_,_⟩:=W6 h
 obtain ⟨k1,k2,k3,k4⟩:=Y6 hk
 have he:=J5 k4
 obtain ⟨i1,i2,_⟩:=(Qj0 t).1 h
 obtain ⟨n,hn⟩:=Wc (show 0<=t.count by omega)
 have hz:=Ji t.p
 have hsz:=Qaa t.p
 have hq:Sq 102 (((mMoney t.p).1:Int):Rat):=Sq.int (by omega) (by decide)
 unfold z195.F
 rw [terms_Money,Zb]
 simp only
 unfold Q4j
 by_cases c0:t.kind=0
 ·rw [if_pos c0,bif_t c0,hn,Zi,level_Payment hz.1 (by omega) i2 he (by omega) k3,Zb]
  have hb:=Qe1 t.r he (n:=n) (by omega)
  refine ⟨Qdm _ (Qhv (Qfb hz.1) (Qa3 t.r he.1) (by omega)),?_,rfl⟩
  have:=Qaf t.mode (Qik (n:=n) hq (Qa3 t.r he.1) (Qbs t.r he) (by omega) (by decide) hb)
  show sz (rnd t.mode (lvl ((mMoney t.p).1:Rat) (perR t.r t.every) n)).natAbs<=10000
  omega
 ·rw [if_neg c0,Qa c0]
  by_cases c1:t.kind=1
  ·rw [if_pos c1,bif_t c1,hn,Zi,level_Part hz.1 (by omega) (by omega) k3,Zb]
   have sn:sz n<=4:=sz_le (by omega)
   refine ⟨Qdm _ (Q4s hz.1 (by omega)),?_,rfl⟩
   have:=Qaf t.mode (Sq.div (k:=200) (n:=(mMoney t.p).1) (d:=(n:Int)) (by omega) (by omega) (by rw [Int.natAbs_natCast];omega))
   show sz (rnd t.mode (Rat.divInt (mMoney t.p).1 n)).natAbs<=10000
   omega
  ·rw [if_neg c1,Qa c1]
   refine ⟨Int.le_refl _,by show sz 0<=_;rw [Qai];omega,?_⟩
   rw [show Int.natAbs 0=0 from rfl,lb_zero];rfl
theorem Qo1:∀(a:D3) (l:List D3),rightD a->(∀x∈l,rightD x)->(∀j (h:j<l.length),numD (if h0:j=0 then a else l[j-1]'(by omega))<=numD l[j])->okP (pairs a l)
 |a,[],_,_,_=>λp hp=>by simp [pairs] at hp
 |
  a,b::l,ha,hl,hn=>by
  intro p hp
  have hb:=hl b (List.mem_cons_self ..)
  rcases List.mem_cons.1 (show p∈(a,b)::pairs b l from hp) with rfl|hp
  ·exact ⟨ha,hb,hn 0 (by simp)⟩
  ·refine Qo1 b l hb (λx hx=>hl x (List.mem_cons_of_mem _ hx)) (λj hj=>?_) p hp
   have:=hn (j+1) (by simp only [List.length_cons];omega)
   rw [dif_neg (by omega)] at this
   by_cases h0:j=0
   ·subst h0;exact this
   ·rw [dif_neg h0]
    obtain ⟨i,rfl⟩:∃i,j=i+1:=⟨j-1,by omega⟩
    exact this
theorem Qga {t:Tm} (h:mCheck t=0):okP t.periods:=by
 have d:=Qwn h
 refine Qo1 t.start t.dates d.start (λx hx=>?_) (λj hj=>?_)
 ·obtain ⟨i,hi,rfl⟩:=List.getElem_of_mem hx
  exact d.right i hi
 ·by_cases h0:j=0
  ·subst h0
   rw [dif_pos rfl]
   exact Int.le_of_lt (d.first 0 hj)
  ·rw [dif_neg h0]
   exact Int.le_of_lt (d.lt (j-1) j (by omega) hj (by omega))
theorem Qdv (t:Tm):t.periods.length=t.count.toNat:=by
 show (pairs t.start t.dates).length=_
 rw [Qfh,t.dates_len]
def Q4v (t:Tm):List Rw:=Q4h t (Q4j t) (mMoney t.p).1 t.periods
theorem plan_Build {t:Tm} (h:mCheck t=0) (hc:t.count<=30):z198.F t.p t.r t.kind t.basis t.mode t.y t.m t.d t.every t.count=some ((Q4v t).map rwv,0):=by
 obtain ⟨e1,e2,e3⟩:=Qla h hc
 have hz:=Ji t.p
 have hl:=Qdv t
 obtain ⟨st,r⟩:=Qi2 h e1 (by omega) (Qga h) (by omega) t.periods.length 0 (mMoney t.p).1 [] (Nat.zero_add _) hz.1 hz.2 rfl
 rw [List.drop_zero,List.nil_append] at r
 have er:=r.lfp
 unfold z198.F
 rw [dues_Periods,if_pos h,Zb]
 simp only [decide_true,Zn,Zc]
 rw [e3,Zb]
 simp only [decide_true,Zn,Zc]
 rw [terms_Money,Zb]
 simp only
 refine (congrArg (λo=>Option.bind o _) er).trans ?_
 rfl
theorem Qm4 {t:Tm} (h:mCheck t≠0):z198.F t.p t.r t.kind t.basis t.mode t.y t.m t.d t.every t.count=some ([],mCheck t):=by
 unfold z198.F
 rw [dues_Periods,if_neg h,Zb]
 simp only
 rw [Zf h,Zo,Zd]
structure Ro where
 due:D3
 o:List UInt8
 n:List UInt8
 b:List UInt8
 pay:List UInt8
 c:List UInt8
def rov (x:Ro):List V:=[.int .i64 x.due.1,.int .i64 x.due.2.1,.int .i64 x.due.2.2,.str x.o,.str x.n,.str x.b,.str x.pay,.str x.c]
def Rw.ro (x:Rw):Ro:=⟨x.due,itxt x.o,itxt x.n,itxt x.b,itxt x.pay,itxt x.c⟩
theorem Q2g (l:List Rw):l.map rwv=(l.map Rw.ro).map rov:=by rw [List.map_map];rfl
theorem asO0 {R:Type} (x:Ro) (K:Int->Option R):V.asInt .i64 ((rov x).getD 0 .undef) K=K x.due.1:=by simp [rov,V.asInt]
theorem asO1 {R:Type} (x:Ro) (K:Int->Option R):V.asInt .i64 ((rov x).getD 1 .undef) K=K x.due.2.1:=by simp [rov,V.asInt]
theorem asO2 {R:Type} (x:Ro) (K:Int->Option R):V.asInt .i64 ((rov x).getD 2 .undef) K=K x.due.2.2:=by simp [rov,V.asInt]
theorem asO3 {R:Type} (x:Ro) (K:List UInt8->Option R):V.asStr ((rov x).getD 3 .undef) K=K x.o:=by simp [rov,V.asStr]
theorem asO4 {R:Type} (x:Ro) (K:List UInt8->Option R):V.asStr ((rov x).getD 4 .undef) K=K x.n:=by simp [rov,V.asStr]
theorem asO5 {R:Type} (x:Ro) (K:List UInt8->Option R):V.asStr ((rov x).getD 5 .undef) K=K x.b:=by simp [rov,V.asStr]
theorem asO6 {R:Type} (x:Ro) (K:List UInt8->Option R):V.asStr ((rov x).getD 6 .undef) K=K x.pay:=by simp [rov,V.asStr]
theorem asO7 {R:Type} (x:Ro) (K:List UInt8->Option R):V.asStr ((rov x).getD 7 .undef) K=K x.c:=by simp [rov,V.asStr]
def mSum:Int->Int->List Ro->Int×Int×Int
 |a,b,[]=>(a,b,0)
 |a,b,r::l=>if (mMoney r.n).2≠0 then (0,0,(mMoney r.n).2) else if (mMoney r.b).2≠0 then (0,0,(mMoney r.b).2) else mSum (a+(mMoney r.n).1) (b+(mMoney r.b).1) l
abbrev sumO (S:Int×Int×Int) (x:Int×(List Int)×Bool×(List Int)×Bool):(Int×(List Int)×Bool×(List Int)×Bool)⊕(Int×(List Int)×Bool×(List Int)×Bool×(List Int)×Bool×(List Int)×Bool):=
 if S.2.2=0 then .inl (x.1,lb S.1.natAbs,neg S.1,lb S.2.1.natAbs,neg S.2.1) else .inr (S.2.2,[],false,[],false,x.2)
theorem Qg4 {a b:Int} {i:Nat} (h0:0<=a) (h1:a<=10^30*i) (hb0:0<=b) (hb:b<=10^30):0<=a+b/\a+b<=10^30*((i+1:Nat):Int):=by
 have e:(10:Int)^30=1000000000000000000000000000000:=by decide
 rw [e] at *
 omega
theorem Qcs {a:Int} {i:Nat} (h0:0<=a) (h1:a<=10^30*i) (hi:i<=1000000):sz a.natAbs<=40:=sz_le (by
 have e:(10:Int)^30=1000000000000000000000000000000:=by decide
 rw [e] at h1
 have e2:(10:Nat)^40=10000000000000000000000000000000000000000:=by decide
 omega)
theorem Qp0 {l:List Ro} (hl:l.length<=1000000):∀(f i:Nat) (a b:Int),i+f=l.length->0<=a->a<=10^30*i->0<=b->b<=10^30*i ->
  ∃x,Runs (λrec x=>z187.l0P (l.map rov) (((l.map rov).length:Nat):Int) rec some x) ((i:Int),lb a.natAbs,neg a,lb b.natAbs,neg b) (sumO (mSum a b (l.drop i)) x)
 |
  0,i,a,b,hf,_,_,_,_=>by
  refine ⟨((i:Int),[],false,[],false),.done λrec=>?_⟩
  rw [List.drop_eq_nil_of_le (by omega)]
  unfold z187.l0P
  simp only
  rw [Qa (by rw [List.length_map];omega)]
  rfl
 |
  f+1,i,a,b,hf,ha0,ha,hb0,hb=>by
  have hi:i<l.length:=by omega
  have ek:wr .i64 ((i:Int)+1)=((i+1:Nat):Int):=by rw [Qc (by omega) (by omega)];rfl
  have hm1:=Ji l[i].n
  have hm2:=Ji l[i].b
  have z1:=Qaa l[i].n
  have z2:=Qaa l[i].b
  have za:=Qcs ha0 ha (by omega)
  have zb:=Qcs hb0 hb (by omega)
  have la:=Qj a.natAbs
  have lb':=Qj b.natAbs
  have l1:=Qj (mMoney l[i].n).1.natAbs
  have l2:=Qj (mMoney l[i].b).1.natAbs
  rw [List.drop_eq_getElem_cons hi]
  have hstep:∀rec:(Int×(List Int)×Bool×(List Int)×Bool)->Option ((Int×(List Int)×Bool×(List Int)×Bool)⊕(Int×(List Int)×Bool×(List Int)×Bool×(List Int)×Bool×(List Int)×Bool)),
    z187.l0P (l.map rov) (((l.map rov).length:Nat):Int) rec some ((i:Int),lb a.natAbs,neg a,lb b.natAbs,neg b) =
     if (mMoney l[i].n).2≠0 then some (.inr ((mMoney l[i].n).2,[],false,[],false,lb a.natAbs,neg a,lb b.natAbs,neg b)) else if (mMoney l[i].b).2≠0 then some (.inr ((mMoney l[i].b).2,[],false,[],false,lb a.natAbs,neg a,lb b.natAbs,neg b))
     else rec (((i+1:Nat):Int),lb (a+(mMoney l[i].n).1).natAbs,neg (a+(mMoney l[i].n).1),lb (b+(mMoney l[i].b).1).natAbs,neg (b+(mMoney l[i].b).1)):=λrec=>by
   unfold z187.l0P
   simp only
   rw [bif_t (by rw [List.length_map];omega),if_pos (by rw [List.length_map];omega),Zi,Q1 rov hi]
   simp only [asO0,asO1,asO2,asO3,asO4,asO5,asO6,asO7]
   rw [terms_Money,Zb]
   simp only
   by_cases c1:(mMoney l[i].n).2=0
   ·rw [Zt c1,Zn,Zc,if_neg (λe=>e c1),terms_Money,Zb]
    simp only
    by_cases c2:(mMoney l[i].b).2=0
    ·rw [Zt c2,Zn,Zc,if_neg (λe=>e c2),Qbd (by omega),Zb,Qbd (by omega),Zb,ek]
    ·rw [Zf c2,Zo,Zd,if_pos c2]
   ·rw [Zf c1,Zo,Zd,if_pos c1]
  unfold mSum
  by_cases c1:(mMoney l[i].n).2≠0
  ·refine ⟨((i:Int),lb a.natAbs,neg a,lb b.natAbs,neg b),.done λrec=>?_⟩
   rw [hstep,if_pos c1,if_pos c1]
   show _=some (if (mMoney l[i].n).2=0 then _ else _)
   rw [if_neg c1]
  ·by_cases c2:(mMoney l[i].b).2≠0
   ·refine ⟨((i:Int),lb a.natAbs,neg a,lb b.natAbs,neg b),.done λrec=>?_⟩
    rw [hstep,if_neg c1,if_pos c2,if_neg c1,if_pos c2]
    show _=some (if (mMoney l[i].b).2=0 then _ else _)
    rw [if_neg c2]
   ·obtain ⟨p1,p2⟩:=Qg4 ha0 ha hm1.1 hm1.2
    obtain ⟨p3,p4⟩:=Qg4 hb0 hb hm2.1 hm2.2
    obtain ⟨x,r⟩:=Qp0 hl f (i+1) (a+(mMoney l[i].n).1) (b+(mMoney l[i].b).1) (by omega) p1 p2 p3 p4
    refine ⟨x,?_⟩
    rw [if_neg c1,if_neg c2]
    exact .step (λrec=>by rw [hstep,if_neg c1,if_neg c2]) r
theorem plan_Sum {l:List Ro} (hl:l.length<=1000000):z187.F (l.map rov)=some (lb (mSum 0 0 l).1.natAbs,neg (mSum 0 0 l).1,lb (mSum 0 0 l).2.1.natAbs,neg (mSum 0 0 l).2.1,(mSum 0 0 l).2.2):=by
 obtain ⟨x,r⟩:=Qp0 hl l.length 0 0 0 (Nat.zero_add _) (Int.le_refl _) (by decide) (Int.le_refl _) (by decide)
 rw [List.drop_zero] at r
 have er:=r.lfp
 rw [show Int.natAbs 0=0 from rfl,lb_zero] at er
 unfold z187.F
 refine (congrArg (λo=>Option.bind o _) er).trans ?_
 rw [Zb]
 by_cases h:(mSum 0 0 l).2.2=0
 ·unfold sumO
  rw [if_pos h,h]
 ·have hz:∀(l:List Ro) (a b:Int),(mSum a b l).2.2≠0->(mSum a b l).1=0/\(mSum a b l).2.1=0:=by
   intro l
   induction l with
   |nil=>intro a b h;exact absurd rfl h
   |
    cons r l ih=>
    intro a b h
    unfold mSum at h ⊢
    split
    ·exact ⟨rfl,rfl⟩
    ·rename_i c1
     rw [if_neg c1] at h
     split
     ·exact ⟨rfl,rfl⟩
     ·rename_i c2
      rw [if_neg c2] at h
      exact ih _ _ h
  obtain ⟨z1,z2⟩:=hz l 0 0 h
  unfold sumO
  rw [if_neg h,z1,z2,show Int.natAbs 0=0 from rfl,lb_zero]
  rfl
def s17:Tm:=⟨[49,48,48,48,48,48],[49,50],0,0,2,2024,1,1,1,2⟩
theorem Qx8:mCheck s17=0:=by decide +kernel
def r17a:Rw:=⟨(2024,2,1),100000,1000,49751,50751,50249⟩
def r17b:Rw:=⟨(2024,3,1),50249,502,50249,50751,0⟩
theorem Q0w:Q4v s17=[r17a,r17b]:=by decide +kernel
theorem Qvi:mSum 0 0 ([r17a,r17b].map Rw.ro)=(1502,100000,0):=by decide +kernel
theorem Qcc:z200.F=some true:=by
 have e1:z199.F=some (s17.p,s17.r,s17.kind,s17.basis,s17.mode,s17.y,s17.m,s17.d,s17.every,s17.count):=rfl
 have e2:=plan_Build Qx8 (by decide)
 rw [Q0w] at e2
 have e3:=Qm4 (t:=Qet) (by rw [Qe8];decide)
 rw [Qe8] at e3
 have e4:z187.F ([r17a,r17b].map rwv)=some (lb 1502,neg 1502,lb 100000,neg 100000,0):=by
  rw [Q2g,plan_Sum (by decide),Qvi];rfl
 have t0:itxt 50751=[53,48,55,53,49]:=by decide +kernel
 have t1:itxt 1000=[49,48,48,48]:=by decide +kernel
 have t2:itxt 0=[48]:=by decide +kernel
 have t3:itxt 100000=[49,48,48,48,48,48]:=by decide +kernel
 have g0:(([r17a,r17b].map rwv).getD 0 [])=rwv r17a:=rfl
 have g1:(([r17a,r17b].map rwv).getD 1 [])=rwv r17b:=rfl
 have p1:z135.F (lb 100000) (neg 100000)=some [49,48,48,48,48,48]:=by
  have h:=W4 (z:=100000) (Nat.le_trans (sz_le (show Int.natAbs 100000<10^6 by decide)) (by decide))
  rw [t3] at h;exact h
 have p2:z20.F (lb 1502) (neg 1502)=some (cmpI 1502 0):=W0 1502
 unfold z200.F
 rw [e1,Zb]
 simp only
 rw [e2,Zb]
 refine (congrArg (λo=>Option.bind o _) e3).trans ?_
 rw [Zb]
 simp only [decide_true,Zn,Zc]
 rw [show ((([r17a,r17b].map rwv).length:Nat):Int)=2 from rfl]
 simp only [decide_true,Zn,Zc]
 unfold z200.j4
 simp only
 rw [e4,Zb,if_pos (by decide),g0,g1]
 simp only [asW0,asW1,asW2,asW3,asW4,asW5,asW6,asW7]
 rw [show r17a.pay=50751 from rfl,show r17a.n=1000 from rfl,show r17b.c=0 from rfl,t0,t1,t2]
 simp only [decide_true,Zd]
 rw [if_pos (by decide),if_pos (by decide)]
 rw [p1,Zb]
 simp only [decide_true,Zd]
 rw [p2,Zb]
 rfl
theorem Qx0:z20.F [] false=some 0:=by
 have h:=W0 0
 rw [show Int.natAbs 0=0 from rfl,lb_zero] at h
 exact h
theorem Qoc {t:Tm} (hk:kindsOK t) {z:Int} (hz:sz z.natAbs<=200) {a b:D3} (ha:rightD a) (hb:rightD b) (hab:numD a<=numD b) :
  z186.F (dg z.natAbs) (neg z) t.p t.r t.kind t.basis t.mode t.y t.m t.d t.every t.count a.1 a.2.1 a.2.2 b.1 b.2.1 b.2.2=some (dg (intN t z a b).natAbs,neg (intN t z a b)):=by
 obtain ⟨_,k2,k3,_⟩:=Y6 hk
 have q1:Sq 100 (z:Rat):=Sq.int (by omega) (by decide)
 unfold z186.F
 rw [Qe7,Zb,Qp1 k2 ha hb hab,Zb,Qln,Zb,Qbj q1 (W9 t.r) (by decide),Zb,Qbj (q1.mul (W9 t.r)) (Qa0 t.basis ha hb) (by decide),Zb]
 have hw:=Qff k3 (Qk6 (t:=t) hz ha hb) (by decide)
 unfold intX at hw
 rw [hw,Zb]
 rfl
theorem Qhu {t:Tm} {most:Int} (h:Good t most) (hm:most<=40):mCheck t=0:=by
 have hb:=Qe5 h.kinds.2.2.2 (c:=t.count) ⟨h.count.1,by have:=h.count.2;omega⟩
 have hc:=h.count
 have hev:=h.kinds.2.2.2
 exact h.check (by
  have h1:t.every<=12:=by rcases hev with h|h|h|h|h|h<;>omega
  have h2:t.every*t.count<=12*t.count:=Int.mul_le_mul_of_nonneg_right h1 (by omega)
  omega) (by omega)
theorem Qtb (n:Int) {z:Int} (hz:Int.fdiv n (2^(min 1 (64:Nat)))=z) (h:-9223372036854775808<=z/\z<9223372036854775808) (a b:D3):z201.j18 n a.1 a.2.1 a.2.2 b.1 b.2.1 b.2.2=some true:=by
 have e3:=Qz5 (t:=Qet) (by rw [Qe8];decide) z a b
 rw [Qe8] at e3
 unfold z201.j18
 rw [hz,whole_From h,Zb]
 simp only
 refine (congrArg (λo=>Option.bind o _) e3).trans ?_
 rw [Zb,Qcc,Zb]
 rfl
theorem Qxv {n:Int} {z:Int} (hz:Int.fdiv n (2^(min 1 (64:Nat)))=z) (h:-9223372036854775808<=z/\z<9223372036854775808) (a b:D3) {e:Int} (he:e≠0) (r1:(List UInt8)×(List UInt8)×Int×Int×Int×Int×Int×Int×Int×Int) :
  z201.j8 ([],false,e) e b.1 a.1 n r1 a.2.1 a.2.2 b.2.1 b.2.2=some true:=by
 unfold z201.j8
 simp only [decide_true,Zn,Zc]
 rw [Zf he,Zo,Zd,Qx0,Zb]
 simp only [decide_true,Zn,Zc]
 exact Qtb n hz h a b
theorem Qu4 {a0 a1 a2 a3 a4 a5 a6 a7 a8 a9 a10 a11 a12 a13 a14 a15 a16 a17 a18:Int} (h0:(Lit.int .u64 a0).wf=true) (h1:(Lit.int .u16 a1).wf=true) (h2:(Lit.int .u32 a2).wf=true) (h3:(Lit.int .u8 a3).wf=true) (h4:(Lit.int .u8 a4).wf=true) (h5:(Lit.int .u8 a5).wf=true)
  (h6:(Lit.int .u8 a6).wf=true) (h7:(Lit.int .u8 a7).wf=true) (h8:(Lit.int .u8 a8).wf=true) (h12:(Lit.int .i64 a12).wf=true):z201.F a0 a1 a2 a3 a4 a5 a6 a7 a8 a9 a10 a11 a12 a13 a14 a15 a16 a17 a18=some true:=by
 obtain ⟨t,g,e⟩:=Qgx (a9:=a9) (a10:=a10) (a11:=a11) (most:=20) (Qhl h0) (Qb9 h1) (Qc4 h2) (Qs h3) (Qs h4) (Qs h5) (Qs h6) (Qs h7) (Qs h8) (by decide)
 have hok:=Qhu g (by decide)
 have hk:=g.kinds
 have w12:=Qwl h12
 have hz0:Int.fdiv a12 (2^(min 1 (64:Nat)))=a12/2:=by
  rw [show ((2:Int)^(min 1 (64:Nat)))=2 from rfl,Int.fdiv_eq_ediv_of_nonneg _ (by decide)]
 have hzr:-9223372036854775808<a12/2/\a12/2<9223372036854775808:=by omega
 have hj18:=λa b=>Qtb a12 hz0 (by omega) a b
 have herr:=λa b {e:Int} (he:e≠0) r1=>Qxv hz0 (by omega) a b he r1
 have hs:sz (a12/2).natAbs<=20:=sz_le (by omega)
 generalize a12/2=z at *
 unfold z201.F
 rw [e,Zb,hz0,whole_From (by omega),Zb]
 simp only
 by_cases ha:rightD (a13,a14,a15)
 ·have ha':right a13 a14 a15:=ha
  by_cases hb:rightD (a16,a17,a18)
  ·have hb':right a16 a17 a18:=hb
   rcases Int.lt_or_le (numD (a16,a17,a18)) (numD (a13,a14,a15)) with hab|hab
   ·have ei:=Q3v hok z ha hb hab
    simp only at ei
    rw [ei,Zb,Y3,Zb,Zt ha',Zn,Zc,Y3,Zb,Zt hb',Zn]
    unfold z201.j6
    have hc:dcmp a13 a14 a15 a16 a17 a18>0:=by
     have:=Q9 ha hb
     have e:cmpD (a13,a14,a15) (a16,a17,a18)=dcmp a13 a14 a15 a16 a17 a18:=rfl
     rw [<-e,this,Wh];exact hab
    rw [Zc,Qef,Zb,bif_t hc]
    exact herr (a13,a14,a15) (a16,a17,a18) (by decide) _
   ·have ei:=plan_Interest hok (z:=z) (by omega) ha hb hab
    simp only at ei
    rw [ei,Zb,Y3,Zb,Zt ha',Zn,Zc,Y3,Zb,Zt hb',Zn]
    unfold z201.j6
    have hc:¬dcmp a13 a14 a15 a16 a17 a18>0:=by
     have:=Q9 ha hb
     have e:cmpD (a13,a14,a15) (a16,a17,a18)=dcmp a13 a14 a15 a16 a17 a18:=rfl
     rw [<-e,this,Wh];omega
    rw [Zc,Qef,Zb,Qa hc]
    have sn:=Qg7 (t:=t) (z:=z) (by omega) ha hb
    have er:=Qoc hk (z:=z) (by omega) ha hb hab
    simp only at er
    unfold z201.j8
    simp only [decide_true,Zn,Zc,Zd]
    refine Yr ?_ (hj18 (a13,a14,a15) (a16,a17,a18))
    rw [W4 (by omega),Zb,hz0,Wk (by omega),Zb]
    simp only
    rw [er,Zb]
    simp only
    rw [W8 (by omega),Zb]
    simp only [decide_true,Zn,Zc]
    exact hj18 (a13,a14,a15) (a16,a17,a18)
  ·have hb':¬right a16 a17 a18:=hb
   have ei:=Qot hok z (a:=(a13,a14,a15)) (b:=(a16,a17,a18)) (λe=>hb e.2)
   simp only at ei
   rw [ei,Zb,Y3,Zb,Zt ha',Zn,Zc,Y3,Zb,Zf hb',Zo]
   unfold z201.j6
   rw [Zd]
   exact herr (a13,a14,a15) (a16,a17,a18) (by decide) _
 ·have ha':¬right a13 a14 a15:=ha
  have ei:=Qot hok z (a:=(a13,a14,a15)) (b:=(a16,a17,a18)) (λe=>ha e.1)
  simp only at ei
  rw [ei,Zb,Y3,Zb,Zf ha',Zo,Zd]
  unfold z201.j6
  rw [Zd]
  exact herr (a13,a14,a15) (a16,a17,a18) (by decide) _
end Go.Proofs.YtgjncgiekniniaaGreatDoor.A
end
section
set_option linter.unusedVariables false
namespace Go.Proofs.YtgjncgiekniniaaGreatDoor.A
open Go
namespace PlanInterest
theorem law (a0:Int) (a1:Int) (a2:Int) (a3:Int) (a4:Int) (a5:Int) (a6:Int) (a7:Int) (a8:Int) (a9:Int) (a10:Int) (a11:Int) (a12:Int) (a13:Int) (a14:Int) (a15:Int) (a16:Int) (a17:Int) (a18:Int) (h0:(Lit.int .u64 a0).wf=true) (h1:(Lit.int .u16 a1).wf=true) (h2:(Lit.int .u32 a2).wf=true) (h3:(Lit.int .u8 a3).wf=true) (h4:(Lit.int .u8 a4).wf=true) (h5:(Lit.int .u8 a5).wf=true) (h6:(Lit.int .u8 a6).wf=true) (h7:(Lit.int .u8 a7).wf=true) (h8:(Lit.int .u8 a8).wf=true) (h9:(Lit.int .i64 a9).wf=true) (h10:(Lit.int .i64 a10).wf=true) (h11:(Lit.int .i64 a11).wf=true) (h12:(Lit.int .i64 a12).wf=true) (h13:(Lit.int .i64 a13).wf=true) (h14:(Lit.int .i64 a14).wf=true) (h15:(Lit.int .i64 a15).wf=true) (h16:(Lit.int .i64 a16).wf=true) (h17:(Lit.int .i64 a17).wf=true) (h18:(Lit.int .i64 a18).wf=true):z201.F a0 a1 a2 a3 a4 a5 a6 a7 a8 a9 a10 a11 a12 a13 a14 a15 a16 a17 a18=some true:=
 Qu4 h0 h1 h2 h3 h4 h5 h6 h7 h8 h12
end PlanInterest
end Go.Proofs.YtgjncgiekniniaaGreatDoor.A
end
section
set_option maxRecDepth 100000
namespace Go.Proofs.YtgjncgiekniniaaGreatDoor.A
open Go Go.RowKit Go.ChangeShapes Go.WideShapes Go.ChangeAt
noncomputable section
namespace PlanInterest
theorem wide:Q4i Tryz.prog 8 Tryz.f18.params.toList=some [(.agg [.sc (.i .u64),.sc (.i .u16),.sc (.i .u32),.sc (.i .u8),.sc (.i .u8),.sc (.i .u8),.sc (.i .u8),.sc (.i .u8),.sc (.i .u8),.sc (.i .i64),.sc (.i .i64),.sc (.i .i64),.sc (.i .i64),.sc (.i .i64),.sc (.i .i64),.sc (.i .i64),.sc (.i .i64),.sc (.i .i64),.sc (.i .i64)])]:=by kernel_rfl
theorem readable:Tryz.f18.params.toList.all (λt=>Tryz.prog.readableRec t&&decide (t<Tryz.prog.types.size))=true:=by kernel_rfl
noncomputable def args0:Array Value:=#[.agg #[.int .u64 0,.int .u16 0,.int .u32 0,.int .u8 0,.int .u8 0,.int .u8 0,.int .u8 0,.int .u8 0,.int .u8 0,.int .i64 0,.int .i64 0,.int .i64 0,.int .i64 0,.int .i64 0,.int .i64 0,.int .i64 0,.int .i64 0,.int .i64 0,.int .i64 0]]
theorem laid_met (os:Os):laidMet Tryz.prog Rows.planInterestRow.laid ((Q4q os).forCall (λ_ _=>0) ⟨#[],args0,[]⟩).memory:=
 laidMet_of_run' 12 (by kernel_rfl) (by kernel_rfl)
theorem reads (os:Os) {H:Type} (enc:TypeId×Value->H):∃ds places,DataW.whole enc Tryz.prog ((Q4q os).forCall (λ_ _=>0) ⟨#[],args0,[]⟩).memory Tryz.f18.params.toList Rows.planInterestSpec.vars false args0.toList 12=some (ds,[],places):=
 ⟨[.agg [.agg [.lit (.int .u64 0),.lit (.int .u16 0),.lit (.int .u32 0),.lit (.int .u8 0),.lit (.int .u8 0),.lit (.int .u8 0),.lit (.int .u8 0),.lit (.int .u8 0),.lit (.int .u8 0),.agg [.lit (.int .i64 0),.lit (.int .i64 0),.lit (.int .i64 0)]],.lit (.int .i64 0),.agg [.lit (.int .i64 0),.lit (.int .i64 0),.lit (.int .i64 0)],.agg [.lit (.int .i64 0),.lit (.int .i64 0),.lit (.int .i64 0)]]],[],by kernel_rfl⟩
theorem plainly (vs:List V) (h:okAL [(.agg [.sc (.i .u64),.sc (.i .u16),.sc (.i .u32),.sc (.i .u8),.sc (.i .u8),.sc (.i .u8),.sc (.i .u8),.sc (.i .u8),.sc (.i .u8),.sc (.i .i64),.sc (.i .i64),.sc (.i .i64),.sc (.i .i64),.sc (.i .i64),.sc (.i .i64),.sc (.i .i64),.sc (.i .i64),.sc (.i .i64),.sc (.i .i64)])] vs):∃p r,SoundC Tryz.prog 18 vs p/\p.m=some r/\p.enc r=.bool true:=by
 obtain ⟨_,_,rfl,⟨_,rfl,_,_,rfl,⟨a0,rfl,h0⟩,_,_,rfl,⟨a1,rfl,h1⟩,_,_,rfl,⟨a2,rfl,h2⟩,_,_,rfl,⟨a3,rfl,h3⟩,_,_,rfl,⟨a4,rfl,h4⟩,_,_,rfl,⟨a5,rfl,h5⟩,_,_,rfl,⟨a6,rfl,h6⟩,_,_,rfl,⟨a7,rfl,h7⟩,_,_,rfl,⟨a8,rfl,h8⟩,_,_,rfl,⟨a9,rfl,h9⟩,_,_,rfl,⟨a10,rfl,h10⟩,_,_,rfl,⟨a11,rfl,h11⟩,_,_,rfl,⟨a12,rfl,h12⟩,_,_,rfl,⟨a13,rfl,h13⟩,_,_,rfl,⟨a14,rfl,h14⟩,_,_,rfl,⟨a15,rfl,h15⟩,_,_,rfl,⟨a16,rfl,h16⟩,_,_,rfl,⟨a17,rfl,h17⟩,_,_,rfl,⟨a18,rfl,h18⟩,rfl⟩,rfl⟩:=h
 exact ⟨⟨Bool,z201.F a0 a1 a2 a3 a4 a5 a6 a7 a8 a9 a10 a11 a12 a13 a14 a15 a16 a17 a18,z201.enc⟩,true,z201.sound _ _ (by kernel_rfl),law a0 a1 a2 a3 a4 a5 a6 a7 a8 a9 a10 a11 a12 a13 a14 a15 a16 a17 a18 h0 h1 h2 h3 h4 h5 h6 h7 h8 h9 h10 h11 h12 h13 h14 h15 h16 h17 h18,rfl⟩
theorem specFn {H:Type} (ds:List (DataW H)) (h:ds.length=Tryz.f18.params.toList.length):Rows.planInterestSpec.fn H ds={results:=[.lit (.bool true)],args:=ds}:=by
 have h:ds.length=1:=h.trans (by kernel_rfl)
 match ds,h with
 |[d0],_=>rfl
theorem clos:Tryz.prog.closure 18=[18,43,95,153,219,60,152,113,131,208,234,235,26,102,132,69,158,222,185,91,104,79,44,36,76,160,223,260,161,200,250,249,251,253,276,252,255,279,289,277,287,278,288,292,283,290,293,285,284,254,164,227,268,183,99,184,28,114,195,247,74,90,110,24,100,186,146,212,245,273,187,38,118,198,248,275,286,291,199,201,119,202,120,121,203,204,156,122,123,176,92,163,226,162,188,224,261,262,280,225,263,264,265,266,267,281,68,124,157,130,133,47,137,209,228,257,149,214,215,134,142,210,258,259,165,57,145,229,230,231,65,140,211,232,269,78,89,150,216,217,71,80,81,25,101,189,190,246,274,191,82,39,125,205,35,206,256,221,171,172,126,192,127,116,128,207,117,63,85,170,197,129,166,233,220,167,168,155,83,169,86,49,48,138,173,87,88,175,238,270,239,236,174,237,84]:=by kernel_rfl
theorem inPlace:(Rows.planInterestRow.inPlace == Tryz.prog.inPlace 18)=true:=by unfold Program.inPlace;rw [clos];kernel_rfl
theorem unfollowed:(Rows.planInterestRow.unfollowed == Tryz.prog.unfollowed 18)=true:=by unfold Program.unfollowed;rw [clos];kernel_rfl
theorem recurses:(Rows.planInterestRow.recurses == Tryz.prog.recurses 18)=true:=by unfold Program.recurses Program.unfollowed;rw [clos];kernel_rfl
theorem named:(Rows.planInterestRow.named == Tryz.prog.varsNamed 18)=true:=by unfold Program.varsNamed;rw [clos];kernel_rfl
theorem number:Tryz.prog.funcNamed "chattel/chattellaw17.PlanInterest" = some 18:=by kernel_rfl
theorem goes:false=Rows.planInterestRow.goesBy Tryz.prog:=by
 have h:Tryz.prog.goes 18=false:=by unfold Program.goes Program.unfollowed;rw [clos];kernel_rfl
 have e:Rows.planInterestRow.goesBy Tryz.prog=((Tryz.prog.funcNamed "chattel/chattellaw17.PlanInterest").any Tryz.prog.goes||false):=by kernel_rfl
 rw [e,number]
 simp [h]
theorem j_wf:Rows.planInterestRow.wf (OpenSpec.ofChange (OpenSpec.ofChange Rows.planInterestSpec).bare)=true:=by kernel_rfl
theorem j_params:(Tryz.f18.params.all (Tryz.pinned.checked.prog.readableRec ·))=true:=by kernel_rfl
theorem j_vars:namedTie Tryz.pinned.checked.prog Rows.planInterestRow.named (OpenSpec.ofChange Rows.planInterestSpec).bare.vars=true:=by kernel_rfl
theorem j_stops:(Rows.planInterestRow.stops == [])=true:=by kernel_rfl
theorem j_knobs:(Rows.planInterestRow.knobs == [])=true:=by kernel_rfl
theorem j_maps:(Rows.planInterestRow.maps == (Tryz.f18.params.toList++DataSpec.varTypes Tryz.pinned.checked.prog (OpenSpec.ofChange Rows.planInterestSpec).bare.plain).any (Tryz.pinned.checked.prog.mapsRec ·))=true:=by kernel_rfl
theorem j_ifaces:(Rows.planInterestRow.ifaces == (Tryz.f18.params.toList++DataSpec.varTypes Tryz.pinned.checked.prog (OpenSpec.ofChange Rows.planInterestSpec).bare.plain).any (Tryz.pinned.checked.prog.ifacesRec ·))=true:=by kernel_rfl
theorem j_mapsOut:(Rows.planInterestRow.mapsOut == Tryz.pinned.checked.prog.mapsAmong Tryz.f18.resultTypes.toList)=true:=by kernel_rfl
theorem j_loops:(Rows.planInterestRow.loops == (Tryz.f18.params.toList++DataSpec.varTypes Tryz.pinned.checked.prog (OpenSpec.ofChange Rows.planInterestSpec).bare.plain).any (Tryz.pinned.checked.prog.loopsFrom ·))=true:=by kernel_rfl
theorem j_wideKeys:(Rows.planInterestRow.wideKeys == (Tryz.f18.params.toList++DataSpec.varTypes Tryz.pinned.checked.prog (OpenSpec.ofChange Rows.planInterestSpec).bare.plain++Tryz.f18.resultTypes.toList).any (Tryz.pinned.checked.prog.wideKeysFrom ·))=true:=by kernel_rfl
theorem j_varsRead:(OpenSpec.ofChange Rows.planInterestSpec).bare.vars.all (Tryz.pinned.checked.prog.varReadable ·)=true:=by kernel_rfl
theorem j_results:(Tryz.f18.resultTypes.all λt=>Tryz.pinned.checked.prog.readableRec t&&decide (t<Tryz.pinned.checked.prog.types.size))=true:=by kernel_rfl
theorem j_ifacesOut:(Rows.planInterestRow.ifacesOut == Tryz.f18.resultTypes.toList.any (Tryz.pinned.checked.prog.ifacesRec ·))=true:=by kernel_rfl
theorem j_loopsOut:(Rows.planInterestRow.loopsOut == Tryz.f18.resultTypes.toList.any (Tryz.pinned.checked.prog.loopsFrom ·))=true:=by kernel_rfl
theorem j_plainKeys:(Rows.planInterestRow.plainKeys == Tryz.pinned.checked.prog.plainKeys)=true:=by kernel_rfl
theorem j_short:Rows.planInterestRow.shortTexts.isNone=true:=by kernel_rfl
theorem j_lift:(Rows.planInterestRow.lifted == Tryz.pinned.checked.prog.liftsFinal)=true:=by kernel_rfl
theorem j_make:(Tryz.pinned.checked.prog.make == some Rows.planInterestRow.make)=true:=by kernel_rfl
theorem j_kinds:(Rows.planInterestRow.kinds == (if Rows.planInterestRow.domain.isEmpty then [] else Tryz.f18.params.toList.map λt=>match Tryz.pinned.checked.prog.underlying t with|some (.int k)=>some k|_=>none))=true:=by kernel_rfl
theorem j_pinned:(Rows.planInterestRow.pinned == Rows.planInterestRow.pinnedBy)=true:=by kernel_rfl
theorem j_veiled:(Rows.planInterestRow.veiled == (Tryz.f18.params.toList++DataSpec.varTypes Tryz.pinned.checked.prog (OpenSpec.ofChange Rows.planInterestSpec).bare.plain++Tryz.f18.resultTypes.toList).any (Tryz.pinned.checked.prog.veiledRec ·))=true:=by kernel_rfl
theorem j_veiledFits:Rows.planInterestRow.veiledFits Tryz.pinned.checked.prog Tryz.f18.params.toList (Tryz.f18.params.toList++DataSpec.varTypes Tryz.pinned.checked.prog (OpenSpec.ofChange Rows.planInterestSpec).bare.plain++Tryz.f18.resultTypes.toList)=true:=by kernel_rfl
theorem joined:joinedFacts Tryz.pinned.checked.prog 18 Tryz.f18 (OpenSpec.ofChange Rows.planInterestSpec).bare Rows.planInterestRow=true:=by
 unfold joinedFacts
 simp only [Bool.and_eq_true]
 and_intros
 ·exact j_wf
 ·exact laidOut
 ·exact rowed
 ·exact j_params
 ·exact j_vars
 ·exact j_stops
 ·exact Q42
 ·exact j_knobs
 ·exact Q41
 ·exact inPlace
 ·exact unfollowed
 ·exact recurses
 ·exact named
 ·exact j_maps
 ·exact j_ifaces
 ·exact j_mapsOut
 ·exact j_loops
 ·exact j_wideKeys
 ·exact j_varsRead
 ·exact j_results
 ·exact j_ifacesOut
 ·exact j_loopsOut
 ·exact j_plainKeys
 ·exact j_short
 ·exact Q5a
 ·exact Q44
 ·exact j_lift
 ·exact j_make
 ·exact j_kinds
 ·exact j_pinned
 ·exact j_veiled
 ·exact j_veiledFits
theorem lifted (os:Os) (started:os.Started) (H:Type) (enc:TypeId×Value->H) (F:Stop.Interp) :
  ReturnsInHanded {} Tryz.checked os 18 .any ((OpenSpec.ofChange Rows.planInterestSpec).preRow enc Tryz.prog Tryz.f18 Rows.planInterestRow.domain false Rows.planInterestRow.laid) (((OpenSpec.ofChange Rows.planInterestSpec).at F).post enc Tryz.prog Tryz.f18 false true false false):=by
 obtain ⟨ds0,places,hx⟩:=reads os enc
 refine returnsInHanded_of_row (C:=Tryz.checked) (s:=OpenSpec.ofChange Rows.planInterestSpec) own started (by kernel_rfl) Tryz.func18
  (witness_row_at (enc:=enc) (C:=Tryz.checked) false (Q4q os) args0 rfl (by kernel_rfl) (by kernel_rfl) (by kernel_rfl)
   (OpenSpec.preRow_of_cond 12 hx (by kernel_rfl) (λk hk=>by cases hk) (by kernel_rfl) (laid_met os))) ?_
 intro W base args ds gs before hval hW _ _ _ hL _ _
 exact Q48 Qrh laidOut readable wide (tb:=4) (by kernel_rfl) (by kernel_rfl) rfl specFn plainly W base args ds gs before hval hW
theorem wrapped:Tryz.f18.isWrapper Tryz.pinned.checked.prog Rows.planInterestRow.wrapper Rows.planInterestRow.mainSum:=by
 unfold Func.isWrapper;first|(rw [if_pos (by decide +kernel)];kernel_rfl)|(rw [if_neg (by decide +kernel)];exact ⟨rfl,rfl⟩)
theorem origin:Tryz.f18.isInstance Tryz.pinned.checked.prog Rows.planInterestRow.origin Rows.planInterestRow.targs:=of_decide_eq_true (by kernel_rfl)
theorem said:Rows.PlanInterestSaid:=
 OpenClaim.holds_of_cond 18 Tryz.f18 rfl rfl rfl rfl rfl rfl rfl ⟨rfl,rfl,rfl,rfl,rfl⟩ rfl rfl rfl rfl rfl number Tryz.func18 joined origin wrapped
  (λos started H enc _ F=>by rw [OpenClaim.pre_eq_preRow];exact lifted os started H enc F)
theorem plainRow (f:FuncId) (fn:Func) (hf:Tryz.pinned.checked.prog.funcNamed "chattel/chattellaw17.PlanInterest" = some f) (hfn:Tryz.pinned.checked.prog.funcs[f]? = some fn) :
  false=Tryz.pinned.checked.prog.looks []/\∀(j:Nat) t,fn.params[j]? = some t->Tryz.pinned.checked.prog.wantsStandIn t=false:=by
 obtain rfl:f=18:=Option.some.inj (number.symm.trans hf) |>.symm
 obtain rfl:fn=Tryz.f18:=(Option.some.inj (Tryz.func18.symm.trans hfn)).symm
 refine ⟨Q49,λj t ht=>?_⟩
 have hall:Tryz.f18.params.toList.all (λt=>!Tryz.prog.wantsStandIn t)=true:=by kernel_rfl
 have:=List.all_eq_true.1 hall t (by simpa using Array.mem_of_getElem? ht)
 exact Bool.not_eq_true' _ |>.mp this
theorem card:Rows.PlanInterestCardSaid:=
 Claim7.holds_tied_plain_at .later [] _ _ _ _ said (λ_ h=>by cases h) (by kernel_rfl) (λ_ h=>by cases h) planInterest_row_tie rfl ⟨rfl,rfl⟩ main rfl plainRow goes
end PlanInterest
end
end Go.Proofs.YtgjncgiekniniaaGreatDoor.A
end
