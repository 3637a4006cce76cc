/- Part 4 of the proof of PlanBuilds.card. -/
import Derived.Test.YtgjncgiekniniaaGreatDoorCae3
set_option linter.unusedVariables false
set_option linter.unusedSimpArgs false
section
namespace Go.Proofs.YtgjncgiekniniaaGreatDoor.A
open Go
def tv:Int->J1->Int
 |acc,[]=>acc
 |acc,b::s=>tv (10*acc+(b.toNat:Int)-48) s
def digit (b:UInt8):Prop:=48<=b.toNat/\b.toNat<=57
def Qs (s:J1):Prop:=∀b∈s,digit b
theorem Qd0:∀(s t:J1) (a:Int),tv a (s++t)=tv (tv a s) t
 |[],_,_=>rfl
 |b::s,t,a=>Qd0 s t _
theorem Qb5:∀(s:J1) (a:Int),tv a s=a*(10^s.length:Nat)+tv 0 s
 |[],a=>by simp [tv]
 |
  b::s,a=>by
  have h1:=Qb5 s (10*a+(b.toNat:Int)-48)
  have h2:=Qb5 s (10*0+(b.toNat:Int)-48)
  show tv (10*a+(b.toNat:Int)-48) s=a*_+tv (10*0+(b.toNat:Int)-48) s
  rw [h1,h2,List.length_cons,Nat.pow_succ,Int.natCast_mul]
  generalize ((10^s.length:Nat):Int)=p
  grind
theorem Yx:∀{s:J1},Qs s->0<=tv 0 s/\tv 0 s<(10^s.length:Nat)
 |[],_=>by simp [tv]
 |
  b::s,h=>by
  have hb:=h b (by simp)
  have ih:=Yx (s:=s) λx hx=>h x (by simp [hx])
  have e:tv 0 (b::s)=((b.toNat:Int)-48)*(10^s.length:Nat)+tv 0 s:=by
   show tv (10*0+(b.toNat:Int)-48) s=_
   rw [Qb5];simp
  have hp:(0:Int)<=(10^s.length:Nat):=Int.natCast_nonneg _
  unfold digit at hb
  have h1:0<=((b.toNat:Int)-48)*(10^s.length:Nat):=Int.mul_nonneg (by omega) hp
  have h2:((b.toNat:Int)-48)*(10^s.length:Nat)<=9*(10^s.length:Nat):=Int.mul_le_mul_of_nonneg_right (by omega) hp
  rw [e,List.length_cons,Nat.pow_succ,Int.natCast_mul]
  omega
theorem Qlu {s:J1} (hs:Qs s) (hl:s.length<=900000000) (e:Nat) (he:e<=s.length):∀(f i:Nat) (d:Int),i+f=e->f<=4->0<=d/\d<10^12/(10^f:Nat) ->
  Runs (λrec x=>z99.l2P s (e:Int) rec some x) (d,(i:Int)) (tv d ((s.take e).drop i),(e:Int))
 |
  0,i,d,hf,_,_=>by
  have:i=e:=by omega
  subst this
  refine .done λrec=>?_
  unfold z99.l2P
  simp only
  rw [Qa (by omega),List.drop_eq_nil_of_le (by simp;omega)]
  rfl
 |
  f+1,i,d,hf,h4,hd=>by
  have hi:i<s.length:=by omega
  have hb:=hs s[i] (List.getElem_mem hi)
  unfold digit at hb
  have hd':d<10^11:=by
   have:f=0\/f=1\/f=2\/f=3:=by omega
   rcases this with rfl|rfl|rfl|rfl<;>simp at hd ⊢<;>omega
  have hn:0<=10*d+(s[i].toNat:Int)-48/\10*d+(s[i].toNat:Int)-48<10^12/(10^f:Nat):=by
   have:f=0\/f=1\/f=2\/f=3:=by omega
   rcases this with rfl|rfl|rfl|rfl<;>simp at hd ⊢<;>omega
  have ih:=Qlu hs hl e he f (i+1) (10*d+(s[i].toNat:Int)-48) (by omega) (by omega) hn
  have hlt:i<(s.take e).length:=by simp;omega
  rw [List.drop_eq_getElem_cons hlt,List.getElem_take]
  refine .step (λrec=>?_) ih
  unfold z99.l2P
  simp only
  have eg:s.getD i 0=s[i]:=by simp [List.getD,hi]
  rw [bif_t (by omega),if_pos (by omega),Zi,eg,Qc (n:=10*d) (by omega) (by omega),Qc (n:=(s[i].toNat:Int)) (by omega) (by omega),Qc (n:=10*d+(s[i].toNat:Int)) (by omega) (by omega),Qc (n:=10*d+(s[i].toNat:Int)-48) (by omega) (by omega),Qc (n:=(i:Int)+1) (by omega) (by omega)]
  rfl
theorem Qmd {s:J1} (hs:Qs s) (hl:s.length<=900000000):∀(f e:Nat) (out:J0),e<=4*f->e<=s.length->out.length<=900000000-e->inB 10000 out->valB 10000 out+(10000^out.length:Nat)*tv 0 (s.take e)=tv 0 s ->
  ∃e' out',Runs (λrec x=>z99.l0P s rec some x) ((e:Int),out) (e',out')/\inB 10000 out'/\out'.length<=900000004/\valB 10000 out'=tv 0 s
 |
  0,e,out,hf,he,ho,hi,hv=>by
  have:e=0:=by omega
  subst this
  refine ⟨0,out,.done λrec=>?_,hi,by omega,by simpa [tv] using hv⟩
  unfold z99.l0P;simp
 |
  f+1,e,out,hf,he,ho,hi,hv=>by
  rcases Nat.eq_zero_or_pos e with rfl|h0
  ·refine ⟨0,out,.done λrec=>?_,hi,by omega,by simpa [tv] using hv⟩
   unfold z99.l0P;simp
  ·have hds:Qs ((s.take e).drop (e-4)):=λb hb=>hs b (List.mem_of_mem_take (List.mem_of_mem_drop hb))
   have hlen:((s.take e).drop (e-4)).length<=4:=by rw [List.length_drop,List.length_take];omega
   have htb:=Yx hds
   have hlt:tv 0 ((s.take e).drop (e-4))<10000:=by
    have h1:(10^((s.take e).drop (e-4)).length:Nat)<=10^4:=Nat.pow_le_pow_right (by decide) hlen
    have h2:((10^((s.take e).drop (e-4)).length:Nat):Int)<=10000:=Int.ofNat_le.2 h1
    omega
   have r:=Qlu hs hl e he (e-(e-4)) (e-4) 0 (by omega) (by omega) ⟨Int.le_refl 0,by
    have:e-(e-4)=1\/e-(e-4)=2\/e-(e-4)=3\/e-(e-4)=4:=by omega
    rcases this with h|h|h|h<;>rw [h]<;>omega⟩
   have er:z99.l2 s (e:Int) ((0:Int),((e-4:Nat):Int))=some (tv 0 ((s.take e).drop (e-4)),(e:Int)):=r.lfp
   have e1:wr .i64 ((e:Int)-4)=(e:Int)-4:=Qc (by omega) (by omega)
   have e2:(if (e:Int)-4>0 then (e:Int)-4 else 0)=((e-4:Nat):Int):=by split<;>omega
   have c1:∀x:Int,(out.length+[x].length)*8<=140737488355328:=λx=>by simp;omega
   have step:∀rec,z99.l0P s rec some ((e:Int),out)=rec ((e:Int)-4,out++[tv 0 ((s.take e).drop (e-4))]):=λrec=>by
    unfold z99.l0P
    simp only [e1,e2]
    rw [bif_t (by omega),er]
    simp only [Zb]
    rw [if_pos (c1 _)]
   by_cases h4:4<=e
   ·obtain ⟨e',out',r1,r2,r3,r4⟩:=Qmd hs hl f (e-4) (out++[tv 0 ((s.take e).drop (e-4))]) (by omega) (by omega) (by rw [List.length_append,List.length_singleton];omega) (Qdg hi (by omega)) (by
     rw [Qct,<-hv]
     have e3:s.take e=s.take (e-4)++(s.take e).drop (e-4):=by
      have:=List.take_append_drop (e-4) (s.take e)
      rw [List.take_take,Nat.min_eq_left (by omega)] at this
      exact this.symm
     have e4:tv 0 (s.take e)=tv 0 (s.take (e-4))*10000+tv 0 ((s.take e).drop (e-4)):=by
      conv=>lhs;rw [e3]
      rw [Qd0,Qb5]
      have:((s.take e).drop (e-4)).length=4:=by rw [List.length_drop,List.length_take];omega
      rw [this];rfl
     rw [e4,List.length_append,List.length_singleton,Nat.pow_succ,Int.natCast_mul]
     generalize ((10000^out.length:Nat):Int)=p
     grind)
    have e5:(e:Int)-4=((e-4:Nat):Int):=by omega
    exact ⟨e',out',.step (λrec=>by rw [step rec,e5]) r1,r2,r3,r4⟩
   ·refine ⟨(e:Int)-4,out++[tv 0 ((s.take e).drop (e-4))],.step step (.done λrec=>?_),Qdg hi (by omega),by rw [List.length_append,List.length_singleton];omega,?_⟩
    ·unfold z99.l0P
     simp only
     rw [Qa (by omega)]
    ·have e6:e-4=0:=by omega
     rw [Qct,<-hv,e6,List.drop_zero]
theorem Qfe {s:J1} (hs:Qs s) (hl:s.length<=800000000):z99.F s=some (dg (tv 0 s).toNat):=by
 obtain ⟨e',out',r1,r2,r3,r4⟩:=Qmd hs (by omega) s.length s.length [] (by omega) (Nat.le_refl _) (Nat.zero_le _) (inB_nil _) (by simp [valB])
 have e:z99.l0 s ((s.length:Int),[])=some (e',out'):=r1.lfp
 unfold z99.F
 rw [e]
 simp only [Zb]
 rw [Qbt r2 (by show List.length _<=_;omega),r4]
 rfl
theorem Qjm:∀{l:J0},inB 10 l->tv 0 (l.reverse.map ch)=valB 10 l
 |[],_=>rfl
 |
  x::l,h=>by
  rw [We] at h
  rw [List.reverse_cons,List.map_append,Qd0,Qjm h.2]
  show 10*valB 10 l+((ch x).toNat:Int)-48=x+10*valB 10 l
  rw [Qdy h.1.1 h.1.2];omega
theorem Qhl (n:Nat):Qs (txt n):=by
 unfold txt
 split
 ·intro b hb;simp at hb;subst hb;unfold digit;decide
 ·intro b hb
  rw [List.mem_map] at hb
  obtain ⟨d,hd,rfl⟩:=hb
  have:=Qu b10 n d (List.mem_reverse.1 hd)
  unfold digit
  rw [Qdy this.1 this.2];omega
theorem Qlv (n:Nat):tv 0 (txt n)=n:=by
 unfold txt
 split
 ·rename_i h;subst h;decide
 ·rw [Qjm (Qu b10 n),Q0 b10]
theorem Qqn (n:Nat):txt n≠[]:=by
 unfold txt
 split
 ·simp
 ·rename_i h
  simp only [ne_eq,List.map_eq_nil_iff,List.reverse_eq_nil_iff]
  exact λe=>h ((toB_nil b10).1 e)
theorem Qlq {n:Nat} (hn:n≠0):∃b s,txt n=b::s/\b.toNat≠48:=by
 have h:=Qiw b10 n (λe=>hn ((toB_nil b10).1 e))
 have hne:toB 10 n≠[]:=λe=>hn ((toB_nil b10).1 e)
 have hin:=Qu b10 n _ (List.getLast_mem hne)
 refine ⟨ch ((toB 10 n).getLast hne),((toB 10 n).dropLast.reverse.map ch),?_,?_⟩
 ·unfold txt
  rw [if_neg hn]
  conv=>lhs;rw [<-List.dropLast_concat_getLast hne]
  rw [List.reverse_append];rfl
 ·rw [Qdy hin.1 hin.2];omega
theorem Qbw {n k:Nat} (h:n<10^k) (hk:0<k):(txt n).length<=k:=by
 unfold txt
 split
 ·show 1<=k;omega
 ·rw [List.length_map,List.length_reverse];exact W3 b10 h
abbrev neg (z:Int):Bool:=decide (z<0)
theorem dg_len0 (n:Nat):(((dg n).length:Nat):Int)=0↔n=0:=by
 constructor
 ·intro h;exact (toB_nil b4).1 (List.length_eq_zero_iff.1 (Int.ofNat_eq_zero.1 h))
 ·rintro rfl;simp [dg,toB_zero]
theorem Qe3 (n:Nat):(((dg n).length:Nat):Int)>0↔0<n:=by
 have:=dg_len0 n;omega
theorem Qc4 (n:Nat) (b:Bool):z7.F (dg n) b=some (dg n,b&&decide (0<n)):=by
 unfold z7.F
 cases b
 ·rfl
 ·simp only [Zd,Bool.true_and]
  congr 2
  exact decide_eq_decide.2 (Qe3 n)
theorem ref04_Of' {z:Int} {b:Bool} (h:(b=true/\z<=0)\/(b=false/\0<=z)):z7.F (dg z.natAbs) b=some (dg z.natAbs,neg z):=by
 rw [Qc4]
 congr 2
 rcases h with ⟨rfl,h⟩|⟨rfl,h⟩
 ·rw [Bool.true_and];exact decide_eq_decide.2 (by omega)
 ·rw [Bool.false_and];symm;exact Zf (by omega)
theorem W2 {z:Int} (h:-9223372036854775808<z/\z<9223372036854775808):z9.F z=some (dg z.natAbs,neg z):=by
 unfold z9.F
 by_cases hz:z<0
 ·have e:wr .i64 (0-z)=((z.natAbs:Nat):Int):=by rw [Qc (by omega) (by omega)];omega
  rw [bif_t hz,e,Qe5 (by omega)]
  simp only [Zb]
  rw [ref04_Of' (z:=z) (.inl ⟨rfl,by omega⟩)];rfl
 ·have e:z=((z.natAbs:Nat):Int):=by omega
  rw [Qa hz]
  conv=>lhs;rw [e]
  rw [Qe5 (by omega)]
  simp only [Zb]
  rw [ref04_Of' (z:=z) (.inr ⟨rfl,by omega⟩)];rfl
theorem Qgv (z:Int):z104.F (dg z.natAbs) (neg z)=some (dg (-z).natAbs,neg (-z)):=by
 unfold z104.F
 have e:z.natAbs=(-z).natAbs:=by omega
 rw [e,Qc4]
 simp only [Zb]
 congr 2
 show (!decide (z<0)&&_)=decide (-z<0)
 by_cases h:z<0
 ·rw [Zt h];symm;simp;omega
 ·rw [Zf h,Zo,Bool.true_and];exact decide_eq_decide.2 (by omega)
theorem Qel {x y:Int} (hl:(dg x.natAbs).length+(dg y.natAbs).length<=900000000):z16.F (dg x.natAbs) (neg x) (dg y.natAbs) (neg y)=some (dg (x*y).natAbs,neg (x*y)):=by
 unfold z16.F
 rw [Qbc hl,<-Int.natAbs_mul]
 simp only [Zb]
 rw [Qc4]
 simp only [Zb]
 congr 2
 have h0:0<(x*y).natAbs↔x≠0/\y≠0:=by
  rw [Int.natAbs_mul]
  constructor
  ·intro h;exact ⟨by rintro rfl;simp at h,by rintro rfl;simp at h⟩
  ·rintro ⟨h1,h2⟩;exact Nat.mul_pos (by omega) (by omega)
 rw [Bool.eq_iff_iff]
 simp only [Bool.and_eq_true,Bool.not_eq_true',decide_eq_true_eq,decide_eq_false_iff_not,h0]
 rcases Int.lt_trichotomy x 0 with hx|hx|hx<;>rcases Int.lt_trichotomy y 0 with hy|hy|hy
 ·have:=Int.mul_pos_of_neg_of_neg hx hy;simp [hx,hy];omega
 ·subst hy;simp
 ·have:=Int.mul_neg_of_neg_of_pos hx hy;simp [hx];omega
 ·subst hx;simp
 ·subst hx;simp
 ·subst hx;simp
 ·have:=Int.mul_neg_of_pos_of_neg hx hy;simp [hy];omega
 ·subst hy;simp
 ·have:=Int.mul_pos hx hy;simp;omega
theorem Qiu {z:Int} (hs:4*(dg z.natAbs).length<=1000000000) (hl:(txt z.natAbs).length<=1000000000):z6.F (dg z.natAbs) (neg z)=some (if z<0 then 45::txt z.natAbs else txt z.natAbs):=by
 unfold z6.F
 rw [Qkj hs]
 simp only [Zb]
 by_cases h:z<0
 ·rw [bif_t h,if_pos (by simp;omega),if_pos h];rfl
 ·rw [Qa h,if_neg h]
theorem Ys {z:Int} {n:Nat} {b:Bool} (hn:n=z.natAbs) (h:(b=true/\z<=0)\/(b=false/\0<=z)):z7.F (dg n) b=some (dg z.natAbs,neg z):=by
 subst hn;exact ref04_Of' h
theorem Qdu {m n:Int}:cmpI m n>=0↔n<=m:=by unfold cmpI;split<;>(try split)<;>omega
theorem Qiq {x y:Int} (hl:(dg x.natAbs).length+(dg y.natAbs).length<=900000000):z108.F (dg x.natAbs) (neg x) (dg y.natAbs) (neg y)=some (dg (x+y).natAbs,neg (x+y)):=by
 unfold z108.F
 by_cases hs:neg x=neg y
 ·have hs':(x<0↔y<0):=by simpa [neg] using hs
  rw [bif_t hs,Qni hl]
  simp only [Zb]
  rw [Ys (z:=x+y) (by omega) (by by_cases hx:x<0;exact .inl ⟨Zt hx,by omega⟩;exact .inr ⟨Zf hx,by omega⟩)]
  rfl
 ·have hs':¬(x<0↔y<0):=by simpa [neg] using hs
  rw [Qa hs,Qg9 (by omega)]
  simp only [Zb]
  by_cases hc:cmpI (x.natAbs:Int) (y.natAbs:Int)>=0
  ·have hc':=Qdu.1 hc
   rw [bif_t hc,Qh6 (by omega) (by omega)]
   simp only [Zb]
   rw [Ys (z:=x+y) (by omega) (by by_cases hx:x<0;exact .inl ⟨Zt hx,by omega⟩;exact .inr ⟨Zf hx,by omega⟩)]
   rfl
  ·have hc':¬((y.natAbs:Int)<=x.natAbs):=λh=>hc (Qdu.2 h)
   rw [Qa hc,Qh6 (by omega) (by omega)]
   simp only [Zb]
   rw [Ys (z:=x+y) (by omega) (by by_cases hy:y<0;exact .inl ⟨Zt hy,by omega⟩;exact .inr ⟨Zf hy,by omega⟩)]
   rfl
theorem Qgs {x y:Int} (hl:(dg x.natAbs).length+(dg y.natAbs).length<=900000000):z109.F (dg x.natAbs) (neg x) (dg y.natAbs) (neg y)=some (dg (x-y).natAbs,neg (x-y)):=by
 unfold z109.F
 rw [Qgv]
 simp only [Zb]
 rw [Qiq (by rw [Int.natAbs_neg];exact hl)]
 rfl
theorem Qsa (z:Int):z110.F (dg z.natAbs) (neg z)=some (cmpI z 0):=by
 unfold z110.F cmpI
 by_cases h0:z=0
 ·subst h0;rw [bif_t ((dg_len0 (Int.natAbs 0)).2 rfl)];rfl
 ·rw [Qa (λh=>h0 (by have:=(dg_len0 _).1 h;omega))]
  by_cases h:z<0
  ·rw [bif_t h,if_pos h]
  ·rw [Qa h,if_neg h,if_neg h0]
theorem Qo5 (x y:Int):cmpI (x-y) 0=cmpI x y:=by
 unfold cmpI;split<;>split<;>(try split)<;>(try split)<;>first|rfl|omega
theorem Qhx {x y:Int} (hl:(dg x.natAbs).length+(dg y.natAbs).length<=900000000):z111.F (dg x.natAbs) (neg x) (dg y.natAbs) (neg y)=some (cmpI x y):=by
 unfold z111.F
 rw [Qgs hl]
 simp only [Zb]
 rw [Qsa,Qo5]
 rfl
abbrev LB:Nat:=18446744073709551616
abbrev lb (n:Nat):J0:=toB LB n
theorem bL:2<=LB:=by decide
theorem Qim (n:Nat):(((lb n).length:Nat):Int)=0↔n=0:=by
 constructor
 ·intro h;exact (toB_nil bL).1 (List.length_eq_zero_iff.1 (Int.ofNat_eq_zero.1 h))
 ·rintro rfl;simp [lb,toB_zero]
theorem Wl (n:Nat):z19.F (lb n)=some (decide (n=0)):=by
 unfold z19.F;congr 1;exact decide_eq_decide.2 (Qim n)
theorem Qji {l:J0} {i:Nat}:z22.F l (i:Int)=some (l.getD i 0):=by
 unfold z22.F
 by_cases h:(i:Int)>=(l.length:Int)
 ·rw [bif_t h]
  have:l.getD i 0=0:=by simp [List.getD,List.getElem?_eq_none (show l.length<=i by omega)]
  rw [this]
 ·rw [Qa h,if_pos (by omega),Zi]
theorem Qe0 {l:J0} (hl:inB LB l) (hs:Qac l):z23.F l=some (lb (valB LB l).toNat):=by
 have h:=Qm0 bL hl hs
 unfold z14.F at h
 unfold z23.F
 have e:z23.l0b6 l=z14.l0b6 l:=rfl
 rw [e]
 revert h
 cases z14.l0b6 l ((l.length:Nat):Int) with
 |none=>exact id
 |
  some o=>
  simp only [Zb]
  intro h
  split at h
  ·rename_i hc
   rw [if_pos ⟨hc.1,Int.le_refl _,hc.2⟩];exact h
  ·simp at h
theorem Qdf (x y:Int):z26.F x y=some (cmpI x y):=by
 unfold z26.F z25.F cmpI
 simp only [Zb,decide_true,Zn,Zc]
 by_cases h:x<y
 ·rw [bif_t h,if_pos h]
 ·rw [Qa h,if_neg h]
  by_cases h':x>y
  ·rw [bif_t h',if_neg (by omega)]
  ·rw [Qa h',if_pos (by omega)]
theorem Qks (x y:Int):z28.F x y=some (cmpI x y):=Qdf x y
theorem Qjl {a b:J0} (ha:inB LB a) (hb:inB LB b) (hl:a.length=b.length) (hal:a.length<=900000000):∀k:Nat,k<=a.length ->
  ∃o:Int⊕Int,Runs (λrec x=>z29.l0P a b rec some x) ((k:Int)-1) o/\(match o with | .inl _=>(0:Int) | .inr q=>q)=cmpI (valB LB (a.take k)) (valB LB (b.take k))
 |0,_=>⟨.inl (-1),.done λrec=>by unfold z29.l0P;rw [Qa (by omega)];rfl,by simp [cmpI,valB]⟩
 |
  k+1,hk=>by
  have hka:k<a.length:=by omega
  have hkb:k<b.length:=by omega
  have e0:((k+1:Nat):Int)-1=(k:Int):=by omega
  obtain ⟨p1,p2⟩:=Qew bL ha hb hka hkb
  obtain ⟨p3,_⟩:=Qew bL hb ha hkb hka
  have c1:(0:Int)<=(k:Int)/\(k:Int)<(a.length:Int):=by omega
  have c2:(0:Int)<=(k:Int)/\(k:Int)<(b.length:Int):=by omega
  rw [e0]
  by_cases h:a[k]=b[k]
  ·obtain ⟨o,r1,r2⟩:=Qjl ha hb hl hal k (by omega)
   refine ⟨o,.step (λrec=>?_) r1,?_⟩
   ·unfold z29.l0P
    rw [bif_t (by omega),Zi,Q5 hka,Q5 hkb,if_pos c1,if_pos c2,Qks]
    simp only [Zb]
    have:cmpI a[k] b[k]=0:=by unfold cmpI;rw [if_neg (by omega),if_pos h]
    rw [this,Qc (by omega) (by omega)]
    rfl
   ·rw [r2]
    have:=p2 h
    unfold cmpI
    split<;>split<;>(try split)<;>(try split)<;>first|rfl|omega
  ·refine ⟨.inr (cmpI a[k] b[k]),.done λrec=>?_,?_⟩
   ·unfold z29.l0P
    rw [bif_t (by omega),Zi,Q5 hka,Q5 hkb,if_pos c1,if_pos c2,Qks]
    simp only [Zb]
    have:¬cmpI a[k] b[k]=0:=by unfold cmpI;split<;>(try split)<;>omega
    rw [Zf this]
    rfl
   ·rcases Int.lt_or_gt_of_ne h with h'|h'
    ·have:=p1 h'
     unfold cmpI;rw [if_pos h',if_pos this]
    ·have:=p3 h'
     unfold cmpI;rw [if_neg (by omega),if_neg (by omega),if_neg (by omega),if_neg (by omega)]
theorem Qcb {m n:Nat} (hl:(lb m).length<=900000000):z29.F (lb m) (lb n)=some (cmpI m n):=by
 unfold z29.F
 rw [Qdf]
 simp only [Zb]
 by_cases he:(lb m).length=(lb n).length
 ·have e1:cmpI ((lb m).length:Int) ((lb n).length:Int)=0:=by unfold cmpI;rw [if_neg (by omega),if_pos (by omega)]
  rw [e1]
  simp only [decide_true,Zn,Zc]
  obtain ⟨o,r1,r2⟩:=Qjl (a:=lb m) (b:=lb n) (Qu bL m) (Qu bL n) he hl (lb m).length (Nat.le_refl _)
  rw [Qc (by omega) (by omega)]
  unfold z29.l0
  rw [r1.lfp]
  simp only [Zb]
  rw [List.take_length,he,List.take_length,Q0 bL,Q0 bL] at r2
  rw [<-r2]
  cases o<;>rfl
 ·rcases Nat.lt_or_gt_of_ne he with h|h
  ·have:=Qao bL h
   have e1:cmpI ((lb m).length:Int) ((lb n).length:Int) = -1:=by unfold cmpI;rw [if_pos (by omega)]
   have e2:cmpI (m:Int) n = -1:=by unfold cmpI;rw [if_pos (by omega)]
   rw [e1,e2];rfl
  ·have:=Qao bL h
   have e1:cmpI ((lb m).length:Int) ((lb n).length:Int)=1:=by unfold cmpI;rw [if_neg (by omega),if_neg (by omega)]
   have e2:cmpI (m:Int) n=1:=by unfold cmpI;rw [if_neg (by omega),if_neg (by omega)]
   rw [e1,e2];rfl
theorem Qgn (a:Int) (h0:0<=a):wr .u64 ((BitVec.ofInt (IntKind.bits .u64) a &&& BitVec.ofInt (IntKind.bits .u64) (4294967295:Int)).toNat:Int)=a%4294967296:=by
 have e:(BitVec.ofInt (IntKind.bits .u64) a &&& BitVec.ofInt (IntKind.bits .u64) (4294967295:Int)).toNat=(a%4294967296).toNat:=by
  rw [BitVec.toNat_and]
  have e1:(BitVec.ofInt (IntKind.bits .u64) (4294967295:Int)).toNat=2^32-1:=rfl
  have e2:(BitVec.ofInt (IntKind.bits .u64) a).toNat=(a%18446744073709551616).toNat:=by
   rw [BitVec.toNat_ofInt];rfl
  rw [e1,Nat.and_two_pow_sub_one_eq_mod,e2]
  omega
 rw [e,Qm (by omega) (by omega)];omega
theorem Qq1 (a:Int):Int.fdiv a (2^(min 32 (64:Nat)))=a/4294967296:=by
 rw [Int.fdiv_eq_ediv_of_nonneg _ (by decide)];rfl
theorem Qje {a b:Int} (ha:0<=a/\a<18446744073709551616) (hb:0<=b/\b<18446744073709551616):z39.F a b=some (a*b/18446744073709551616,a*b%18446744073709551616):=by
 unfold z39.F
 simp only [Qq1]
 rw [Qgn a ha.1,Qgn b hb.1]
 generalize hx1:a/4294967296=x1
 generalize hx0:a%4294967296=x0
 generalize hy1:b/4294967296=y1
 generalize hy0:b%4294967296=y0
 have ea:a=4294967296*x1+x0:=by omega
 have eb:b=4294967296*y1+y0:=by omega
 have bx1:0<=x1/\x1<=4294967295:=by omega
 have bx0:0<=x0/\x0<=4294967295:=by omega
 have by1:0<=y1/\y1<=4294967295:=by omega
 have by0:0<=y0/\y0<=4294967295:=by omega
 have m00:0<=x0*y0/\x0*y0<=4294967295*4294967295:=⟨Int.mul_nonneg bx0.1 by0.1,Int.mul_le_mul bx0.2 by0.2 by0.1 (by decide)⟩
 have m10:0<=x1*y0/\x1*y0<=4294967295*4294967295:=⟨Int.mul_nonneg bx1.1 by0.1,Int.mul_le_mul bx1.2 by0.2 by0.1 (by decide)⟩
 have m01:0<=x0*y1/\x0*y1<=4294967295*4294967295:=⟨Int.mul_nonneg bx0.1 by1.1,Int.mul_le_mul bx0.2 by1.2 by1.1 (by decide)⟩
 have m11:0<=x1*y1/\x1*y1<=4294967295*4294967295:=⟨Int.mul_nonneg bx1.1 by1.1,Int.mul_le_mul bx1.2 by1.2 by1.1 (by decide)⟩
 have eab:a*b=18446744073709551616*(x1*y1)+4294967296*(x1*y0)+4294967296*(x0*y1)+x0*y0:=by rw [ea,eb];grind
 rw [eab]
 generalize x0*y0=p00 at *
 generalize x1*y0=p10 at *
 generalize x0*y1=p01 at *
 generalize x1*y1=p11 at *
 rw [Qm (n:=p00) (by omega) (by omega),Qm (n:=p10) (by omega) (by omega),Qm (n:=p01) (by omega) (by omega),Qm (n:=p11) (by omega) (by omega)]
 rw [Qm (n:=p10+p00/4294967296) (by omega) (by omega)]
 rw [Qgn _ (by omega)]
 rw [Qm (n:=p11+(p10+p00/4294967296)/4294967296) (by omega) (by omega)]
 rw [Qm (n:=(p10+p00/4294967296)%4294967296+p01) (by omega) (by omega)]
 rw [Qm (n:=p11+(p10+p00/4294967296)/4294967296+((p10+p00/4294967296)%4294967296+p01)/4294967296) (by omega) (by omega)]
 rw [Wo]
 congr 2;omega
theorem Qbe {x y c:Int} (hx:0<=x) (hy:0<=y) (hc:0<=c/\c<=1):z0.F x y c=some ((x+y+c)%18446744073709551616,(x+y+c)/18446744073709551616):=by
 unfold z0.F;rw [if_pos (by omega)]
theorem Qap {s:J0} {i j:Nat} {x:Int} (h:i≠j):(s.set i x).getD j 0=s.getD j 0:=by
 simp [List.getD,List.getElem?_set_ne h]
theorem Qdk (n j:Nat):(List.replicate n (0:Int)).getD j 0=0:=by
 simp only [List.getD,List.getElem?_replicate];split<;>rfl
theorem Qj5 {a b:J0} {n:Nat} (ha:inB LB a) (hb:inB LB b) (hn:n<=900000000) (han:a.length<n) (hbn:b.length<n) :
  ∀
   (f i:Nat) (c:Int) (s:J0),i+f=n->s.length=n->inB LB s->(∀j,i<=j->s.getD j 0=0)->0<=c/\c<=1 ->
   valB LB s+(c+valB LB (a.drop i)+valB LB (b.drop i))*(LB^i:Nat)=valB LB a+valB LB b ->
   ∃c' s',Runs (λrec x=>z24.l0P (n:Int) a b rec some x) (c,(i:Int),s) (c',(n:Int),s')/\inB LB s'/\s'.length=n/\(0<=c'/\c'<=1)/\valB LB s'+c'*(LB^n:Nat)=valB LB a+valB LB b
 |
  0,i,c,s,hf,hl,hs,hz,hc,hv=>by
  have:i=n:=by omega
  subst this
  refine ⟨c,s,.done λrec=>?_,hs,hl,hc,?_⟩
  ·unfold z24.l0P
   simp only
   rw [Qa (by omega)]
  ·rw [List.drop_eq_nil_of_le (by omega),List.drop_eq_nil_of_le (by omega)] at hv
   simpa [valB] using hv
 |
  f+1,i,c,s,hf,hl,hs,hz,hc,hv=>by
  have hLB:((LB:Nat):Int)=18446744073709551616:=rfl
  have h1:=Qw (B:=LB) (by decide) ha i
  have h2:=Qw (B:=LB) (by decide) hb i
  have hi:i<s.length:=by omega
  obtain ⟨c',s',r1,r2,r3,r4,r5⟩:=Qj5 ha hb hn han hbn f (i+1) ((a.getD i 0+b.getD i 0+c)/18446744073709551616) (s.set i ((a.getD i 0+b.getD i 0+c)%18446744073709551616)) (by omega) (by simp [hl]) (Ww hs (by omega))
   (λj hj=>by rw [Qap (by omega)];exact hz j (by omega)) (by omega) (by
    rw [Yc hi,hz i (Nat.le_refl _),<-hv,Q4 a i,Q4 b i,Nat.pow_succ,Nat.mul_comm (LB^i) LB,Int.natCast_mul]
    generalize hx:a.getD i 0+b.getD i 0+c=x
    have e2:x=18446744073709551616*(x/18446744073709551616)+x%18446744073709551616:=(Int.mul_ediv_add_emod x _).symm
    have e3:((LB:Nat):Int)=18446744073709551616:=rfl
    rw [e3]
    generalize x/18446744073709551616=q at *
    generalize x%18446744073709551616=m at *
    subst e2
    generalize ((LB^i:Nat):Int)=p
    generalize valB LB (a.drop (i+1))=w
    generalize valB LB (b.drop (i+1))=w'
    generalize a.getD i 0=u at *
    generalize b.getD i 0=v at *
    have hc':c=18446744073709551616*q+m-u-v:=by omega
    subst hc'
    grind)
  refine ⟨c',s',.step (λrec=>?_) r1,r2,r3,r4,r5⟩
  unfold z24.l0P
  simp only [Qji,Zb]
  rw [bif_t (by omega),Qbe h1.1 h2.1 hc]
  simp only [Zb]
  rw [if_pos (by omega),Zi,if_pos hi,Qc (by omega) (by omega)]
  rfl
theorem Qo2 {n k:Nat} (h:(lb n).length<=k):n<LB^k:=Nat.lt_of_lt_of_le (Qah bL) (Nat.pow_le_pow_right (by decide) h)
theorem Qaq {m n:Nat} (hl:(lb m).length+(lb n).length<=800000000):z24.F (lb m) (lb n)=some (lb (m+n)):=by
 unfold z24.F
 generalize hk:max (lb m).length (lb n).length=k
 have e0:(if (((lb n).length:Nat):Int)>(((lb m).length:Nat):Int) then (((lb n).length:Nat):Int) else (((lb m).length:Nat):Int))=(k:Int):=by split<;>omega
 have e1:wr .i64 ((k:Int)+1)=((k+1:Nat):Int):=by rw [Qc (by omega) (by omega)];omega
 rw [e0,e1,if_pos (by omega),Zi,List.length_replicate]
 obtain ⟨c',s',r1,r2,r3,r4,r5⟩:=Qj5 (a:=lb m) (b:=lb n) (n:=k+1) (Qu bL m) (Qu bL n) (by omega) (by omega) (by omega) (k+1) 0 0 (List.replicate (k+1) 0) (by omega) (by simp) (Jx (by decide) _)
  (λj _=>Qdk _ j) (by omega) (by rw [Qb1];simp)
 have e:z24.l0 ((k+1:Nat):Int) (lb m) (lb n) ((0:Int),(0:Int),List.replicate (k+1) 0)=some (c',((k+1:Nat):Int),s'):=r1.lfp
 rw [e]
 simp only [Zb]
 rw [Q0 bL,Q0 bL] at r5
 have hm:m<LB^k:=Qo2 (by omega)
 have hn:n<LB^k:=Qo2 (by omega)
 have hc:c'=0:=by
  rcases (show c'=0\/c'=1 by omega) with h|h
  ·exact h
  ·exfalso
   subst h
   have:=Q7 r2
   have e3:((LB^(k+1):Nat):Int)=(LB^k:Nat)*18446744073709551616:=by rw [Nat.pow_succ,Int.natCast_mul];rfl
   rw [e3] at r5
   omega
 subst hc
 rw [Qe0 r2 (by show List.length _<=_;omega)]
 simp only [Zb]
 congr 2;omega
theorem Qpb {a b:J0} (ha:inB LB a) (hb:inB LB b) (hal:a.length<=900000000) :
  ∀
   (f i:Nat) (c:Int) (s:J0),i+f=a.length->s.length=a.length->inB LB s->(∀j,i<=j->s.getD j 0=0)->0<=c/\c<=1 ->
   valB LB s-c*(LB^i:Nat)=valB LB (a.take i)-valB LB (b.take i) ->
   ∃c' s',Runs (λrec x=>z30.l0P (a.length:Int) a b rec some x) (c,(i:Int),s) (c',(a.length:Int),s')/\inB LB s'/\s'.length=a.length/\(0<=c'/\c'<=1)/\valB LB s'-c'*(LB^a.length:Nat)=valB LB a-valB LB (b.take a.length)
 |
  0,i,c,s,hf,hl,hs,hz,hc,hv=>by
  have:i=a.length:=by omega
  subst this
  refine ⟨c,s,.done λrec=>?_,hs,hl,hc,by rwa [List.take_length] at hv⟩
  unfold z30.l0P
  simp only
  rw [Qa (by omega)]
 |
  f+1,i,c,s,hf,hl,hs,hz,hc,hv=>by
  have hi:i<a.length:=by omega
  have his:i<s.length:=by omega
  have hLB:((LB:Nat):Int)=18446744073709551616:=rfl
  have h1:=Qw (B:=LB) (by decide) ha i
  have h2:=Qw (B:=LB) (by decide) hb i
  have eb:valB LB (b.take (i+1))=valB LB (b.take i)+(LB^i:Nat)*b.getD i 0:=by
   by_cases hb':i<b.length
   ·rw [Yd hb',Q5 hb']
   ·rw [List.take_of_length_le (by omega),List.take_of_length_le (by omega)]
    simp [List.getD,List.getElem?_eq_none (show b.length<=i by omega)]
  have hsub:z1.F (a.getD i 0) (b.getD i 0) c=some ((a.getD i 0-b.getD i 0-c)%18446744073709551616,if a.getD i 0<b.getD i 0+c then 1 else 0):=by
   unfold z1.F;rw [if_pos (by omega)]
  obtain ⟨c',s',r1,r2,r3,r4,r5⟩:=Qpb ha hb hal f (i+1) (if a.getD i 0<b.getD i 0+c then 1 else 0) (s.set i ((a.getD i 0-b.getD i 0-c)%18446744073709551616)) (by omega) (by simp [hl]) (Ww hs (by omega))
   (λj hj=>by rw [Qap (by omega)];exact hz j (by omega)) (by split<;>omega) (by
    rw [Yc his,hz i (Nat.le_refl _),Yd hi,eb,Nat.pow_succ,Nat.mul_comm (LB^i) LB,Int.natCast_mul,<-Q5 hi]
    have e3:((LB:Nat):Int)=18446744073709551616:=rfl
    rw [e3]
    have e4:(a.getD i 0-b.getD i 0-c)%18446744073709551616=a.getD i 0-b.getD i 0-c+(if a.getD i 0<b.getD i 0+c then 1 else 0)*18446744073709551616:=by split<;>omega
    rw [e4]
    generalize (if a.getD i 0<b.getD i 0+c then (1:Int) else 0)=q
    generalize ((LB^i:Nat):Int)=p at *
    grind)
  refine ⟨c',s',.step (λrec=>?_) r1,r2,r3,r4,r5⟩
  unfold z30.l0P
  simp only [Qji,Zb]
  rw [bif_t (by omega),if_pos (by omega),Zi,hsub]
  simp only [Zb]
  rw [if_pos (by omega),if_pos his,Qc (by omega) (by omega)]
  rfl
theorem Qc3 {m n:Nat} (hl:(lb m).length<=800000000):z30.F (lb m) (lb n)=some (if n<=m then (lb (m-n),true) else ([],false)):=by
 unfold z30.F
 rw [Qcb (by omega)]
 simp only [Zb]
 by_cases h:n<=m
 ·have h0:¬cmpI (m:Int) n<0:=by unfold cmpI;split<;>(try split)<;>omega
  rw [Qa h0,if_pos h,if_pos (by omega),Zi,List.length_replicate]
  obtain ⟨c',s',r1,r2,r3,r4,r5⟩:=Qpb (a:=lb m) (b:=lb n) (Qu bL m) (Qu bL n) (by omega) (lb m).length 0 0 (List.replicate (lb m).length 0) (by omega) (by simp) (Jx (by decide) _)
   (λj _=>Qdk _ j) (by omega) (by rw [Qb1];simp [valB])
  have hlen:(lb n).length<=(lb m).length:=by
   rcases Nat.lt_or_ge (lb m).length (lb n).length with h'|h'
   ·have:=Qao bL h';omega
   ·exact h'
  rw [List.take_of_length_le hlen,Q0 bL,Q0 bL] at r5
  have h1:=Wt bL r2
  rw [r3] at h1
  have hc:c'=0:=by
   rcases (show c'=0\/c'=1 by omega) with h|h
   ·exact h
   ·subst h;omega
  subst hc
  have e:z30.l0 ((lb m).length:Int) (lb m) (lb n) ((0:Int),(0:Int),List.replicate (lb m).length 0)=some ((0:Int),((lb m).length:Int),s'):=r1.lfp
  rw [e]
  simp only [Zb]
  rw [Qe0 r2 (by show List.length _<=_;omega)]
  simp only [Zb]
  congr 3;omega
 ·have h0:cmpI (m:Int) n<0:=by unfold cmpI;rw [if_pos (by omega)];decide
  rw [bif_t h0,if_neg h]
theorem Qcf {l:J0} (hl:inB LB l) (hs:Qac l):z38.F l=some (lb (valB LB l).toNat):=by
 have hs':l.length<=1000000000:=hs
 unfold z38.F
 rw [if_pos (by omega),Qe0 hl hs];rfl
theorem W4 {x:Int} (h:0<=x/\x<18446744073709551616):z38.F [x]=some (lb x.toNat):=by
 rw [Qcf (We.2 ⟨h,inB_nil _⟩) (by show [x].length<=_;simp)]
 simp [valB]
theorem Qyb {n:Nat} (hs:Qac (lb n)):z38.F (lb n)=some (lb n):=by
 rw [Qcf (Qu bL n) hs,Q0 bL];rfl
theorem Jp {l:J0} (hs:Qac l):z60.F l=some l:=by
 have hs':l.length<=1000000000:=hs
 unfold z60.F
 rw [if_pos (by omega)]
theorem Qku {x:Int} {a:J0} {off tot:Nat} (hx:0<=x/\x<18446744073709551616) (ha:inB LB a) (ht:tot<=1800000000) (hot:off+a.length<tot) :
  ∀
   (f i:Nat) (c:Int) (s:J0),i+f=a.length->s.length=tot->inB LB s->0<=c/\c<18446744073709551616 ->
   ∃
    c' s',Runs (λrec y=>z40.l0aP x off (tot-off) a (a.length:Int) rec some y) (c,(i:Int),s) (c',(a.length:Int),s')/\inB LB s'/\s'.length=tot/\(0<=c'/\c'<18446744073709551616) /\
    (∀j,off+a.length<=j->s'.getD j 0=s.getD j 0)/\valB LB s'+c'*(LB^(off+a.length):Nat)=valB LB s+(c+x*valB LB (a.drop i))*(LB^(off+i):Nat)
 |
  0,i,c,s,hf,hl,hs,hc=>by
  have:i=a.length:=by omega
  subst this
  refine ⟨c,s,.done λrec=>?_,hs,hl,hc,λj _=>rfl,?_⟩
  ·unfold z40.l0aP
   simp only
   rw [Qa (by omega)]
  ·rw [List.drop_eq_nil_of_le (Nat.le_refl _)];simp [valB]
 |
  f+1,i,c,s,hf,hl,hs,hc=>by
  have hi:i<a.length:=by omega
  have his:off+i<s.length:=by omega
  have h1:=Qw (B:=LB) (by decide) ha i
  have h2:=Qw (B:=LB) (by decide) hs (off+i)
  have h1':0<=a.getD i 0/\a.getD i 0<18446744073709551616:=h1
  have h2':0<=s.getD (off+i) 0/\s.getD (off+i) 0<18446744073709551616:=h2
  have hp:0<=x*a.getD i 0/\x*a.getD i 0<=18446744073709551615*18446744073709551615:=⟨Int.mul_nonneg hx.1 h1'.1,Int.mul_le_mul (by omega) (by omega) h1'.1 (by decide)⟩
  obtain ⟨c',s',r1,r2,r3,r4,r5,r6⟩:=Qku hx ha ht hot f (i+1) ((x*a.getD i 0+c+s.getD (off+i) 0)/18446744073709551616) (s.set (off+i) ((x*a.getD i 0+c+s.getD (off+i) 0)%18446744073709551616))
   (by omega) (by simp [hl]) (Ww hs (by show 0<=_/\_<(18446744073709551616:Int);omega)) (by omega)
  refine ⟨c',s',.step (λrec=>?_) r1,r2,r3,r4,λj hj=>?_,?_⟩
  ·unfold z40.l0aP
   simp only
   rw [bif_t (by omega),if_pos (by omega),Zi,Qje hx h1']
   simp only [Zb]
   rw [Qbe (by omega) hc.1 (by omega)]
   simp only [Zb]
   rw [if_pos (by omega),if_pos his,Qbe h2'.1 (by omega) (by omega)]
   simp only [Zb]
   rw [if_pos (by omega),if_pos his]
   generalize x*a.getD i 0=p at hp ⊢
   generalize s.getD (off+i) 0=u at h2' ⊢
   rw [Qm (n:=p/18446744073709551616+_) (by omega) (by omega),Qm (by omega) (by omega),Qc (by omega) (by omega)]
   congr 2
   ·omega
   ·congr 2;omega
  ·rw [r5 j hj,Qap (by omega)]
  ·rw [r6,Yc his,Q4 a i]
   have e1:((LB^(off+(i+1)):Nat):Int)=18446744073709551616*(LB^(off+i):Nat):=by
    rw [<-Nat.add_assoc,Nat.pow_succ,Nat.mul_comm,Int.natCast_mul];rfl
   rw [e1]
   have e3:((LB:Nat):Int)=18446744073709551616:=rfl
   rw [e3]
   generalize hy:x*a.getD i 0+c+s.getD (off+i) 0=y
   have e2:y=18446744073709551616*(y/18446744073709551616)+y%18446744073709551616:=(Int.mul_ediv_add_emod y _).symm
   generalize y/18446744073709551616=q at *
   generalize y%18446744073709551616=m at *
   generalize ((LB^(off+i):Nat):Int)=p
   generalize valB LB (a.drop (i+1))=w
   generalize valB LB s=z
   generalize s.getD (off+i) 0=u at *
   generalize a.getD i 0=v at *
   have hc':c=18446744073709551616*q+m-u-x*v:=by omega
   subst hc'
   grind
theorem Qo1 {a b:J0} {tot:Nat} (ha:inB LB a) (hb:inB LB b) (ht:tot<=1800000000) (hab:tot=a.length+b.length+1) :
  ∀
   (f i:Nat) (s:J0),i+f=b.length->s.length=tot->inB LB s->(∀j,i+a.length<=j->s.getD j 0=0)->valB LB s=valB LB a*valB LB (b.take i) ->
   ∃s',Runs (λrec y=>z40.l0P b (b.length:Int) a rec some y) ((i:Int),s) ((b.length:Int),s')/\inB LB s'/\s'.length=tot/\valB LB s'=valB LB a*valB LB b
 |
  0,i,s,hf,hl,hs,hz,hv=>by
  have:i=b.length:=by omega
  subst this
  refine ⟨s,.done λrec=>?_,hs,hl,by rwa [List.take_length] at hv⟩
  unfold z40.l0P
  simp only
  rw [Qa (by omega)]
 |
  f+1,i,s,hf,hl,hs,hz,hv=>by
  have hi:i<b.length:=by omega
  have hx:=Qw (B:=LB) (by decide) hb i
  have hx':0<=b.getD i 0/\b.getD i 0<18446744073709551616:=hx
  obtain ⟨c,s1,r1,r2,r3,r4,r5,r6⟩:=Qku (x:=b.getD i 0) (a:=a) (off:=i) (tot:=tot) hx' ha ht (by omega) a.length 0 0 s (by omega) hl hs (by omega)
  have e0:z40.l0a (b.getD i 0) i (tot-i) a (a.length:Int) ((0:Int),(0:Int),s)=some (c,(a.length:Int),s1):=r1.lfp
  have hz1:s1.getD (i+a.length) 0=0:=by rw [r5 _ (Nat.le_refl _)];exact hz _ (Nat.le_refl _)
  have hi1:i+a.length<s1.length:=by omega
  obtain ⟨s',q1,q2,q3,q4⟩:=Qo1 ha hb ht hab f (i+1) (s1.set (i+a.length) c) (by omega) (by simp [r3]) (Ww r2 r4)
   (λj hj=>by rw [Qap (by omega),r5 j (by omega)];exact hz j (by omega)) (by
    rw [Yc hi1,hz1,Yd hi,Int.mul_add,<-hv,<-Q5 hi]
    simp only [List.drop_zero,Nat.add_zero,Int.zero_add] at r6
    generalize ((LB^(i+a.length):Nat):Int)=p at *
    generalize ((LB^i:Nat):Int)=p2 at *
    grind)
  refine ⟨s',.step (λrec=>?_) q1,q2,q3,q4⟩
  unfold z40.l0P
  simp only
  rw [bif_t (by omega),if_pos (by omega),if_pos (by omega),Zi,hl,e0]
  simp only [Zb,Zi]
  rw [if_pos (by omega),if_pos hi1,if_pos (by omega),if_pos hi1,hz1,Qc (by omega) (by omega),Qm (by omega) (by omega),Int.zero_add]
  rfl
theorem Qwp {a b:J0} (ha:inB LB a) (hb:inB LB b) (hl:a.length+b.length<=800000000):z40.F a b=some (lb (valB LB a*valB LB b).toNat):=by
 obtain ⟨s',r1,r2,r3,r4⟩:=Qo1 (tot:=a.length+b.length+1) ha hb (by omega) rfl b.length 0 (List.replicate (a.length+b.length+1) 0) (by omega) (by simp) (Jx (by decide) _)
  (λj _=>Qdk _ j) (by rw [Qb1];simp [valB])
 have e0:z40.l0 b (b.length:Int) a ((0:Int),List.replicate (a.length+b.length+1) 0)=some ((b.length:Int),s'):=r1.lfp
 have e1:wr .i64 (wr .i64 ((a.length:Int)+(b.length:Int))+1)=((a.length+b.length+1:Nat):Int):=by
  rw [Qc (n:=(a.length:Int)+(b.length:Int)) (by omega) (by omega),Qc (by omega) (by omega)];omega
 unfold z40.F
 rw [e1,if_pos (by omega),Zi,e0]
 simp only [Zb]
 rw [Qe0 r2 (by show List.length _<=_;omega),r4]
 rfl
theorem Yj {m n:Nat} (hl:(lb m).length+(lb n).length<=800000000):z40.F (lb m) (lb n)=some (lb (m*n)):=by
 rw [Qwp (Qu bL m) (Qu bL n) hl,Q0 bL,Q0 bL]
 congr 2
theorem whole_Of (n:Nat) (b:Bool):z21.F (lb n) b=some (lb n,b&&decide (0<n)):=by
 unfold z21.F
 cases b
 ·rfl
 ·rw [Wl]
  simp only [Zd,Bool.true_and,Zb]
  congr 2
  by_cases h:n=0
  ·subst h;rfl
  ·rw [Zf h,Zt (by omega:0<n)];rfl
theorem whole_Of' {z:Int} {b:Bool} (h:(b=true/\z<=0)\/(b=false/\0<=z)):z21.F (lb z.natAbs) b=some (lb z.natAbs,neg z):=by
 rw [whole_Of]
 congr 2
 rcases h with ⟨rfl,h⟩|⟨rfl,h⟩
 ·rw [Bool.true_and];exact decide_eq_decide.2 (by omega)
 ·rw [Bool.false_and];symm;exact Zf (by omega)
theorem W9 {z:Int} {n:Nat} {b:Bool} (hn:n=z.natAbs) (h:(b=true/\z<=0)\/(b=false/\0<=z)):z21.F (lb n) b=some (lb z.natAbs,neg z):=by
 subst hn;exact whole_Of' h
theorem whole_From {z:Int} (h:-9223372036854775808<=z/\z<9223372036854775808):z48.F z=some (lb z.natAbs,neg z):=by
 unfold z48.F
 by_cases hz:z<0
 ·have e:wr .u64 (0-wr .u64 z)=((z.natAbs:Nat):Int):=by rw [Wo z,Wo];omega
  rw [bif_t hz,e,W4 (by omega)]
  simp only [Zb,Zi]
  rw [whole_Of' (z:=z) (.inl ⟨rfl,by omega⟩)];rfl
 ·have e:wr .u64 z=((z.natAbs:Nat):Int):=by rw [Qm (by omega) (by omega)];omega
  rw [Qa hz,e,W4 (by omega)]
  simp only [Zb,Zi]
  rw [whole_Of' (z:=z) (.inr ⟨rfl,by omega⟩)];rfl
theorem Qko (z:Int):z32.F (lb z.natAbs) (neg z)=some (lb (-z).natAbs,neg (-z)):=by
 unfold z32.F
 rw [W9 (z:=-z) (by omega) (by by_cases h:z<0;exact .inr ⟨by simp [neg,h],by omega⟩;exact .inl ⟨by simp [neg,h],by omega⟩)]
 rfl
theorem Yf (z:Int):z20.F (lb z.natAbs) (neg z)=some (cmpI z 0):=by
 unfold z20.F cmpI
 rw [Wl]
 simp only [Zb]
 by_cases h0:z=0
 ·subst h0;rfl
 ·rw [Qa (by omega)]
  by_cases h:z<0
  ·rw [bif_t h,if_pos h]
  ·rw [Qa h,if_neg h,if_neg h0]
theorem Qcj {x y:Int} (hl:(lb x.natAbs).length+(lb y.natAbs).length<=800000000):z31.F (lb x.natAbs) (neg x) (lb y.natAbs) (neg y)=some (lb (x+y).natAbs,neg (x+y)):=by
 unfold z31.F
 by_cases hs:neg x=neg y
 ·have hs':(x<0↔y<0):=by simpa [neg] using hs
  rw [bif_t hs,Qaq hl]
  simp only [Zb]
  rw [W9 (z:=x+y) (by omega) (by by_cases hx:x<0;exact .inl ⟨Zt hx,by omega⟩;exact .inr ⟨Zf hx,by omega⟩)]
  rfl
 ·have hs':¬(x<0↔y<0):=by simpa [neg] using hs
  rw [Qa hs,Qc3 (by omega)]
  simp only [Zb]
  by_cases hc:y.natAbs<=x.natAbs
  ·rw [if_pos hc]
   simp only [Zd]
   rw [W9 (z:=x+y) (by omega) (by by_cases hx:x<0;exact .inl ⟨Zt hx,by omega⟩;exact .inr ⟨Zf hx,by omega⟩)]
   rfl
  ·rw [if_neg hc]
   simp only [Zc]
   rw [Qc3 (by omega),if_pos (by omega)]
   simp only [Zb]
   rw [W9 (z:=x+y) (by omega) (by by_cases hy:y<0;exact .inl ⟨Zt hy,by omega⟩;exact .inr ⟨Zf hy,by omega⟩)]
   rfl
theorem Qhj {x y:Int} (hl:(lb x.natAbs).length+(lb y.natAbs).length<=800000000):z33.F (lb x.natAbs) (neg x) (lb y.natAbs) (neg y)=some (lb (x-y).natAbs,neg (x-y)):=by
 unfold z33.F
 rw [Qko]
 simp only [Zb]
 rw [Qcj (by rw [Int.natAbs_neg];exact hl)]
 rfl
theorem Qi2 {x y:Int} (hl:(lb x.natAbs).length+(lb y.natAbs).length<=800000000):z34.F (lb x.natAbs) (neg x) (lb y.natAbs) (neg y)=some (cmpI x y):=by
 unfold z34.F
 rw [Qhj hl]
 simp only [Zb]
 rw [Yf,Qo5]
 rfl
theorem neg_mul (x y:Int):((!decide (neg x=neg y))&&decide (0<x.natAbs*y.natAbs))=neg (x*y):=by
 have h0:0<x.natAbs*y.natAbs↔x≠0/\y≠0:=by
  constructor
  ·intro h;exact ⟨by rintro rfl;simp at h,by rintro rfl;simp at h⟩
  ·rintro ⟨h1,h2⟩;exact Nat.mul_pos (by omega) (by omega)
 rw [Bool.eq_iff_iff]
 simp only [Bool.and_eq_true,Bool.not_eq_true',decide_eq_true_eq,decide_eq_false_iff_not,h0]
 rcases Int.lt_trichotomy x 0 with hx|hx|hx<;>rcases Int.lt_trichotomy y 0 with hy|hy|hy
 ·have:=Int.mul_pos_of_neg_of_neg hx hy;simp [hx,hy];omega
 ·subst hy;simp
 ·have:=Int.mul_neg_of_neg_of_pos hx hy;simp [hx];omega
 ·subst hx;simp
 ·subst hx;simp
 ·subst hx;simp
 ·have:=Int.mul_neg_of_pos_of_neg hx hy;simp [hy];omega
 ·subst hy;simp
 ·have:=Int.mul_pos hx hy;simp;omega
theorem Y9 {x y:Int} (hl:(lb x.natAbs).length+(lb y.natAbs).length<=800000000):z54.F (lb x.natAbs) (neg x) (lb y.natAbs) (neg y)=some (lb (x*y).natAbs,neg (x*y)):=by
 unfold z54.F
 rw [Yj hl]
 simp only [Zb]
 rw [whole_Of,neg_mul,Int.natAbs_mul]
 rfl
def sz (n:Nat):Nat:=(toB 10 n).length
theorem Jr (n:Nat):n<10^sz n:=Qah b10
theorem sz_le {n k:Nat} (h:n<10^k):sz n<=k:=W3 b10 h
theorem Qy {m n:Nat} (h:m<=n):sz m<=sz n:=sz_le (Nat.lt_of_le_of_lt h (Jr n))
theorem Qh (n:Nat):(lb n).length<=sz n:=W3 bL (Nat.lt_of_lt_of_le (Jr n) (Nat.pow_le_pow_left (by decide) _))
theorem Qo (n:Nat):(dg n).length<=sz n:=W3 b4 (Nat.lt_of_lt_of_le (Jr n) (Nat.pow_le_pow_left (by decide) _))
theorem Q1 (m n:Nat):sz (m*n)<=sz m+sz n:=sz_le (by rw [Nat.pow_add];exact Nat.mul_lt_mul_of_lt_of_le (Jr m) (Nat.le_of_lt (Jr n)) (Nat.pow_pos (by decide)))
theorem Jl:sz 0=0:=by simp [sz,toB_zero]
theorem lb_zero:lb 0=[]:=toB_zero LB
theorem Qfa:dg 0=[]:=toB_zero 10000
def isD (b:UInt8):Bool:=decide (48<=b.toNat)&&decide (b.toNat<=57)
def digs (s:J1):Bool:=s.all isD
theorem Y2 {s:J1}:digs s=true↔Qs s:=by simp [digs,Qs,digit,isD]
theorem Qo6 (b c:UInt8):(b == c)=decide (b.toNat=c.toNat):=by
 rw [Bool.eq_iff_iff];simp [UInt8.toNat_inj]
theorem Qtj (b:UInt8):([48,49,50,51,52,53,54,55,56,57]:J1).contains b=isD b:=by
 rw [Bool.eq_iff_iff]
 simp only [List.contains_cons,List.contains_nil,Qo6,isD]
 simp
 omega
theorem Qe1 {α:Type} {p:α->Bool}:∀{l:List α},l.dropWhile p=[]↔∀x∈l,p x=true
 |[]=>by simp
 |
  a::l=>by
  by_cases h:p a=true
  ·rw [List.dropWhile_cons_of_pos h,Qe1 (l:=l)];simp [h]
  ·rw [List.dropWhile_cons_of_neg h];simp [h]
theorem Qmj (s cs:J1):Lib.trimS s cs=[]↔∀b∈s,cs.contains b=true:=by
 unfold Lib.trimS Lib.trimLeftS Lib.trimRightS
 rw [Qe1]
 constructor
 ·intro h
  cases he:s.reverse.dropWhile (cs.contains ·) with
  |
   nil=>
   rw [Qe1] at he
   exact λb hb=>he b (List.mem_reverse.2 hb)
  |
   cons x l=>
   have h1:=List.head?_dropWhile_not (cs.contains ·) s.reverse
   rw [he] at h1
   have h2:=h x (by rw [he];simp)
   simp only [List.head?_cons] at h1
   rw [h2] at h1;simp at h1
 ·intro h
  have he:s.reverse.dropWhile (cs.contains ·)=[]:=Qe1.2 λb hb=>h b (List.mem_reverse.1 hb)
  rw [he];simp
theorem Qow (s:J1) (hs:s.length<=9223372036854775807):∃r,z3.F s [48,49,50,51,52,53,54,55,56,57]=some r/\decide (r=[])=digs s:=by
 unfold z3.F
 rw [if_pos ⟨hs,by decide,by decide⟩]
 refine ⟨_,rfl,?_⟩
 rw [Bool.eq_iff_iff,decide_eq_true_iff,Qmj,digs,List.all_eq_true]
 simp only [Qtj]
def numOK (s:J1):Bool:=!decide (s=[])&&digs s && !(decide (1<s.length)&&decide ((s.getD 0 0).toNat=48))
def mDigits (s:J1):Nat×Int:=if 4096<s.length then (0,7) else if numOK s then ((tv 0 s).toNat,0) else (0,5)
theorem Qv2 {s:J1} {i:Nat} (hi:i<s.length) (h:(s.getD i 0).toNat<128):Utf8.decode ⟨s.toArray⟩ i=((s.getD i 0).toNat,1):=by
 have e:(ByteArray.mk s.toArray).get! (i+0)=s.getD i 0:=by
  show s.toArray[i+0]! = _
  simp [List.getD,hi]
 unfold Utf8.decode
 simp only [e]
 rw [if_pos h]
theorem Qxl {n:Int} (h1:-2147483648<=n) (h2:n<2147483648):wr .i32 n=n:=by
 simp only [wr,IntKind.wrap,IntKind.signed,IntKind.bits]
 simp;omega
theorem Qlc {s:J1} (hs:Qs s) (hl:s.length<=18):∀(f i:Nat) (d:Int),i+f=s.length->0<=d/\d<(10^i:Nat) ->
  Runs (λrec x=>z41.l2P s rec some x) (d,i) (tv d (s.drop i),s.length)
 |
  0,i,d,hf,_=>by
  have:i=s.length:=by omega
  subst this
  refine .done λrec=>?_
  unfold z41.l2P
  simp only
  rw [if_neg (by omega),List.drop_eq_nil_of_le (Nat.le_refl _)]
  rfl
 |
  f+1,i,d,hf,hd=>by
  have hi:i<s.length:=by omega
  have hb:=hs s[i] (List.getElem_mem hi)
  unfold digit at hb
  have eg:s.getD i 0=s[i]:=by simp [List.getD,hi]
  have hp:(10^i:Nat)<=10^17:=Nat.pow_le_pow_right (by decide) (by omega)
  have hp':((10^i:Nat):Int)<=100000000000000000:=Int.ofNat_le.2 hp
  have ih:=Qlc hs hl f (i+1) (10*d+(s[i].toNat:Int)-48) (by omega) ⟨by omega,by rw [Nat.pow_succ,Int.natCast_mul];omega⟩
  rw [List.drop_eq_getElem_cons hi]
  refine .step (λrec=>?_) ih
  unfold z41.l2P
  simp only
  rw [if_pos hi,Qv2 hi (by rw [eg];omega),eg]
  simp only
  rw [Qxl (by omega) (by omega),Qm (n:=(s[i].toNat:Int)-48) (by omega) (by omega),Qm (n:=10*d) (by omega) (by omega),Qm (by omega) (by omega)]
  congr 2;omega
theorem Qt1 {s:J1} {n j k:Nat} (hs:Qs s) (hk:k<=s.length) (hk':k<=18) (hn:n<10^j) (hj:j<=8192) {R:Type} (rec done:(J1×Bool×J0)->Option R) :
  z41.j5011a rec done (k:Int) s (lb n)=rec (s.drop k,false,lb (n*1000000000000000000+(tv 0 (s.take k)).toNat)):=by
 have hds:Qs (s.take k):=λb hb=>hs b (List.mem_of_mem_take hb)
 have hlen:(s.take k).length=k:=by rw [List.length_take];omega
 have htb:=Yx hds
 rw [hlen] at htb
 have hp:(10^k:Nat)<=10^18:=Nat.pow_le_pow_right (by decide) hk'
 have hp':((10^k:Nat):Int)<=1000000000000000000:=Int.ofNat_le.2 hp
 have r:=Qlc hds (by omega) (s.take k).length 0 0 (by omega) ⟨Int.le_refl 0,by decide⟩
 have er:z41.l2a (s.take k) ((0:Int),0)=some (tv 0 (s.take k),(s.take k).length):=r.lfp
 obtain ⟨U,hU⟩:∃U:Nat,1000000000000000000=U:=⟨_,rfl⟩
 have hU':Int.toNat 1000000000000000000=U:=by omega
 have hUs:sz U<=19:=sz_le (by omega)
 have hsn:=Nat.le_trans (Qh n) (sz_le hn)
 have hsu:=Nat.le_trans (Qh U) hUs
 have hsm:=Nat.le_trans (Qh (n*U)) (Nat.le_trans (Q1 n U) (Nat.add_le_add (sz_le hn) hUs))
 have hst:=Nat.le_trans (Qh (tv 0 (s.take k)).toNat) (sz_le (k:=18) (by omega))
 have e1:z38.F [(1000000000000000000:Int)]=some (lb U):=by rw [W4 (by omega),hU']
 have e2:z38.F [tv 0 (s.take k)]=some (lb (tv 0 (s.take k)).toNat):=W4 (by omega)
 have e3:z40.F (lb n) (lb U)=some (lb (n*U)):=Yj (by omega)
 have e4:z24.F (lb (n*U)) (lb (tv 0 (s.take k)).toNat)=some (lb (n*U+(tv 0 (s.take k)).toNat)):=Qaq (by omega)
 have e5:(0:Int)<=(k:Int)/\(k:Int)<=((s.length:Nat):Int):=by omega
 rw [hU]
 unfold z41.j5011a
 rw [if_pos e5,Zi,er]
 simp only [Zb]
 rw [e1]
 simp only [Zb]
 rw [e3]
 simp only [Zb]
 rw [e2]
 simp only [Zb]
 rw [e4]
 simp only [Zb]
 rw [if_pos e5]
theorem Ql7:∀(m:Nat) (s:J1),s.length<=m->Qs s->∀(n j:Nat) (first:Bool),n<10^j->j+s.length<=8192->((first=true/\n=0)\/(first=false/\s.length%18=0)) ->
  ∃f',Runs (λrec x=>z41.l0aaP rec some x) (s,first,lb n) ([],f',lb (tv n s).toNat)
 |
  0,s,hm,hs,n,j,first,hn,hj,hf=>by
  have:s=[]:=List.length_eq_zero_iff.1 (by omega)
  subst this
  refine ⟨first,.done λrec=>?_⟩
  simp [z41.l0aaP,tv]
 |
  m+1,s,hm,hs,n,j,first,hn,hj,hf=>by
  by_cases hne:s=[]
  ·subst hne
   refine ⟨first,.done λrec=>?_⟩
   simp [z41.l0aaP,tv]
  ·have hpos:0<s.length:=List.length_pos_iff.2 hne
   have key:∃k:Nat,0<k/\k<=s.length/\k<=18/\(n=0\/k=18)/\(s.length-k)%18=0 /\
     ∀rec,z41.l0aaP rec some (s,first,lb n)=z41.j5011a rec some (k:Int) s (lb n):=by
    have hd:(!decide (s=([]:J1)))=true:=by rw [Zf hne];rfl
    rcases hf with ⟨rfl,hn0⟩|⟨rfl,h18⟩
    ·have em:Int.tmod (s.length:Int) 18=((s.length%18:Nat):Int):=by rw [Yv (by omega)];rfl
     by_cases h0:s.length%18=0
     ·refine ⟨18,by omega,by omega,by omega,.inr rfl,by omega,λrec=>?_⟩
      unfold z41.l0aaP
      simp only [hd,Zn,Zd,Zc]
      rw [em,bif_t (by omega)];rfl
     ·refine ⟨s.length%18,by omega,Nat.mod_le _ _,by omega,.inl hn0,by omega,λrec=>?_⟩
      unfold z41.l0aaP
      simp only [hd,Zn,Zd,Zc]
      rw [em,Qa (by omega)]
    ·refine ⟨18,by omega,by omega,by omega,.inr rfl,by omega,λrec=>?_⟩
     unfold z41.l0aaP
     simp only [hd,Zo,Zd]
     rfl
   obtain ⟨k,k0,k1,k2,k3,k4,k5⟩:=key
   have hds:Qs (s.take k):=λb hb=>hs b (List.mem_of_mem_take hb)
   have hdd:Qs (s.drop k):=λb hb=>hs b (List.mem_of_mem_drop hb)
   have hlen:(s.take k).length=k:=by rw [List.length_take];omega
   have htb:=Yx hds
   rw [hlen] at htb
   have htv:tv n (s.take k)=((n*1000000000000000000+(tv 0 (s.take k)).toNat:Nat):Int):=by
    rw [Qb5,hlen]
    rcases k3 with h|h
    ·subst h;simp;omega
    ·subst h
     have:((10^18:Nat):Int)=1000000000000000000:=rfl
     rw [this];omega
   have hn':n*1000000000000000000+(tv 0 (s.take k)).toNat<10^(j+k):=by
    have hp0:0<10^j:=Nat.pow_pos (by decide)
    rcases k3 with h|h
    ·subst h
     have:10^k<=10^(j+k):=Nat.pow_le_pow_right (by decide) (by omega)
     omega
    ·subst h
     have e18:(10^(j+18):Nat)=10^j*1000000000000000000:=by rw [Nat.pow_add]
     have e18':((10^18:Nat):Int)=1000000000000000000:=rfl
     rw [e18]
     have:(n+1)*1000000000000000000<=10^j*1000000000000000000:=Nat.mul_le_mul_right _ hn
     omega
   obtain ⟨f',r⟩:=Ql7 m (s.drop k) (by rw [List.length_drop];omega) hdd (n*1000000000000000000+(tv 0 (s.take k)).toNat) (j+k) false hn' (by rw [List.length_drop];omega) (.inr ⟨rfl,by rw [List.length_drop];exact k4⟩)
   refine ⟨f',.step (y:=(s.drop k,false,lb (n*1000000000000000000+(tv 0 (s.take k)).toNat))) (λrec=>?_) ?_⟩
   ·rw [k5,Qt1 hs k1 k2 hn (by omega)]
   ·have e:tv n s=tv ((n*1000000000000000000+(tv 0 (s.take k)).toNat:Nat):Int) (s.drop k):=by
     conv=>lhs;rw [<-List.take_append_drop k s]
     rw [Qd0,htv]
    rw [e];exact r
theorem digits_Parse (s:J1):z41.F s=some (lb (mDigits s).1,(mDigits s).2):=by
 unfold z41.F mDigits
 by_cases h1:4096<s.length
 ·rw [bif_t (by omega),if_pos h1,lb_zero]
 ·rw [Qa (by omega),if_neg h1]
  by_cases h2:s=[]
  ·subst h2;rw [bif_t rfl];simp [numOK,lb_zero]
  ·rw [Qa h2]
   obtain ⟨r,t1,t2⟩:=Qow s (by omega)
   rw [t1]
   simp only [Zb]
   rw [t2]
   cases hd:digs s with
   |false=>simp [numOK,hd,lb_zero]
   |
    true=>
    have hds:=Y2.1 hd
    obtain ⟨f',r⟩:=Ql7 s.length s (Nat.le_refl _) hds 0 0 true (by decide) (by omega) (.inl ⟨rfl,rfl⟩)
    rw [lb_zero] at r
    have er:z41.l0aa (s,true,[])=some ([],f',lb (tv ((0:Nat):Int) s).toNat):=r.lfp
    simp only [Zn,Zc]
    rw [er]
    have hpos:0<s.length:=List.length_pos_iff.2 h2
    by_cases h3:1<s.length
    ·rw [bif_t (by omega),if_pos (by omega)]
     by_cases h4:(s.getD 0 0).toNat=48
     ·rw [bif_t (by omega)]
      have:numOK s=false:=by simp [numOK,h3];intro _ _ ;simpa [List.getD] using h4
      rw [this];simp [lb_zero]
     ·rw [Qa (by omega)]
      have:numOK s=true:=by simp only [numOK,Zf h2,hd,Zf h4];simp
      rw [this];rfl
    ·rw [Qa (by omega)]
     have:numOK s=true:=by simp only [numOK,Zf h2,hd,Zf h3];simp
     rw [this];rfl
theorem Qir (a:Int) (h0:0<=a) (h1:a<9223372036854775808):wr .i64 ((BitVec.ofInt (IntKind.bits .i64) a &&& BitVec.ofInt (IntKind.bits .i64) (1:Int)).toNat:Int)=a%2:=by
 have e:(BitVec.ofInt (IntKind.bits .i64) a &&& BitVec.ofInt (IntKind.bits .i64) (1:Int)).toNat=(a%2).toNat:=by
  rw [BitVec.toNat_and]
  have e1:(BitVec.ofInt (IntKind.bits .i64) (1:Int)).toNat=2^1-1:=rfl
  have e2:(BitVec.ofInt (IntKind.bits .i64) a).toNat=(a%18446744073709551616).toNat:=by
   rw [BitVec.toNat_ofInt];rfl
  rw [e1,Nat.and_two_pow_sub_one_eq_mod,e2]
  omega
 rw [e,Qc (by omega) (by omega)];omega
theorem shr1 (a:Int):Int.fdiv a (2^(min 1 (64:Nat)))=a/2:=by
 rw [Int.fdiv_eq_ediv_of_nonneg _ (by decide)];rfl
theorem Qe6:∀(f t n out:Nat),t<=f->t<9223372036854775808->sz out+t*sz n<=800000000 ->
  ∃n',Runs (λrec x=>z43.l0P rec some x) ((t:Int),lb n,lb out) ((0:Int),n',lb (out*n^t))
 |
  0,t,n,out,hf,ht,hb=>by
  have:t=0:=by omega
  subst this
  refine ⟨lb n,.done λrec=>?_⟩
  simp [z43.l0P]
 |
  f+1,t,n,out,hf,ht,hb=>by
  rcases Nat.eq_zero_or_pos t with h0|h0
  ·subst h0
   refine ⟨lb n,.done λrec=>?_⟩
   simp [z43.l0P]
  ·have hn:=Qh n
   have ho:=Qh out
   have hsq:=Q1 n n
   have hon:=Q1 out n
   have e2:(t:Int)/2=((t/2:Nat):Int):=by omega
   have em:(t:Int)%2=((t%2:Nat):Int):=by omega
   have hq:t*sz n=2*(t/2*sz n)+t%2*sz n:=by
    conv=>lhs;rw [<-Nat.div_add_mod t 2]
    rw [Nat.add_mul,Nat.mul_assoc]
   have hq2:t/2*sz (n*n)<=2*(t/2*sz n):=by
    have:=Nat.mul_le_mul_left (t/2) hsq
    have e:t/2*(sz n+sz n)=2*(t/2*sz n):=by rw [Nat.mul_add];omega
    omega
   have hpow:n^t=n^(t%2)*(n*n)^(t/2):=by
    rw [<-Nat.pow_two,<-Nat.pow_mul,<-Nat.pow_add];congr 1;omega
   by_cases hodd:t%2=1
   ·rw [hodd,Nat.one_mul] at hq
    by_cases h1:1<t
    ·have hge:1<=t/2:=by omega
     have hge':sz n<=t/2*sz n:=Nat.le_mul_of_pos_left _ hge
     obtain ⟨n',r⟩:=Qe6 f (t/2) (n*n) (out*n) (by omega) (by omega) (by omega)
     refine ⟨n',.step (λrec=>?_) (by rw [hpow,hodd,Nat.pow_one,<-Nat.mul_assoc];exact r)⟩
     unfold z43.l0P
     simp only
     rw [bif_t (by omega),Qir _ (by omega) (by omega),em,hodd,bif_t (by omega),Yj (by omega)]
     simp only [Zb]
     rw [bif_t (by omega),Yj (by omega),shr1,e2]
     rfl
    ·have ht1:t=1:=by omega
     subst ht1
     obtain ⟨n',r⟩:=Qe6 f 0 n (out*n) (by omega) (by omega) (by omega)
     refine ⟨n',.step (λrec=>?_) (by simpa using r)⟩
     unfold z43.l0P
     simp only
     rw [bif_t (by omega),Qir _ (by omega) (by omega),bif_t (by decide),Yj (by omega)]
     simp only [Zb]
     rw [Qa (by omega),shr1]
     rfl
   ·have h2:t%2=0:=by omega
    rw [h2,Nat.zero_mul,Nat.add_zero] at hq
    have hge:1<=t/2:=by omega
    have hge':sz n<=t/2*sz n:=Nat.le_mul_of_pos_left _ hge
    obtain ⟨n',r⟩:=Qe6 f (t/2) (n*n) out (by omega) (by omega) (by omega)
    refine ⟨n',.step (λrec=>?_) (by rw [hpow,h2,Nat.pow_zero,Nat.one_mul];exact r)⟩
    unfold z43.l0P
    simp only
    rw [bif_t (by omega),Qir _ (by omega) (by omega),em,h2,Qa (by omega),bif_t (by omega),Yj (by omega)]
    simp only [Zb]
    rw [shr1,e2]
theorem digits_power {n t:Nat} (ht:t<9223372036854775808) (h:t*sz n<=700000000):z43.F (lb n) (t:Int)=some (lb (n^t)):=by
 have h1:sz 1<=1:=sz_le (by decide)
 obtain ⟨n',r⟩:=Qe6 t t n 1 (Nat.le_refl _) ht (by omega)
 have e:z43.l0 ((t:Int),lb n,lb 1)=some ((0:Int),n',lb (1*n^t)):=r.lfp
 unfold z43.F
 rw [W4 (by omega)]
 simp only [Zb]
 rw [show Int.toNat 1=1 from rfl,e,Nat.one_mul]
 rfl
theorem digits_Ten {t:Nat} (ht:t<=4096):z44.F (t:Int)=some (lb (10^t),0):=by
 have h1:sz 10<=2:=sz_le (by decide)
 have h2:=Nat.mul_le_mul_left t h1
 unfold z44.F
 rw [Qa (by omega),Qa (by omega),W4 (by omega)]
 simp only [Zb]
 rw [show Int.toNat 10=10 from rfl,digits_power (by omega) (by omega)]
 rfl
def Yp (a b:Nat):Prop:=z68.F (lb a) (lb b)=some (lb (a/b),lb (a%b),0)
def Qay (M:Nat):Prop:=∀x y,x<=M->y<=M->0<y->Yp x y
theorem Wy {m n:Int}:cmpI m n<0↔m<n:=by unfold cmpI;split<;>(try split)<;>omega
theorem Wv {m n:Int}:cmpI m n>0↔n<m:=by unfold cmpI;split<;>(try split)<;>omega
theorem Jt {m n:Int}:cmpI m n=0↔m=n:=by unfold cmpI;split<;>(try split)<;>omega
theorem Qe8 {a:Nat} (h0:0<a) (h:a<18446744073709551616):lb a=[(a:Int)]:=by
 show toB LB a=_
 rw [Wp bL h0,Nat.mod_eq_of_lt h,Nat.div_eq_of_lt h,toB_zero]
theorem Qk0 {a b:Int} (ha:0<=a/\a<18446744073709551616) (hb:0<b):z63.F 0 a b=some (a/b,a%b):=by
 unfold z63.F
 rw [Qa (by omega),Qa (by omega),bif_t rfl,if_neg (by omega),if_neg (by omega),W1 ha.1,Yv ha.1]
 have h1:=Int.ediv_nonneg ha.1 (Int.le_of_lt hb)
 have h2:=Int.ediv_le_self b ha.1
 rw [Qm h1 (by omega)]
theorem Qtt {a b:Int} (ha:0<=a/\a<18446744073709551616) (hb:0<b):z64.F [a] b=some ([a/b],a%b):=by
 have h0:z64.l0 [a] b ((0:Int),(0:Int),[(0:Int)])=some (a%b,(-1:Int),[a/b]):=by
  refine (Runs.step (y:=(a%b,(-1:Int),[a/b])) (λrec=>?_) (Runs.done λrec=>?_):Runs (λrec x=>z64.l0P [a] b rec some x) _ _).lfp
  ·unfold z64.l0P
   simp only [List.length_singleton]
   rw [bif_t (by omega),if_pos (by omega),show [a].getD (Int.toNat 0) 0=a from rfl,Qk0 ha hb]
   rfl
  ·unfold z64.l0P
   simp only
   rw [Qa (by omega)]
 unfold z64.F
 simp only [List.length_singleton]
 rw [if_pos (by omega)]
 show ((z64.l0 [a] b ((0:Int),wr .i64 0,[(0:Int)])).bind _)=_
 rw [Qc (by omega) (by omega),h0]
 rfl
theorem Qgu {a b:Nat} (h:a<b) (hs:(lb a).length<=900000000):Yp a b:=by
 unfold Yp z68.F
 rw [Wl]
 simp only [Zb]
 rw [Qa (by omega),Qcb hs]
 simp only [Zb]
 have:cmpI (a:Int) b<0:=by unfold cmpI;rw [if_pos (by omega)];decide
 rw [bif_t this,Nat.div_eq_of_lt h,Nat.mod_eq_of_lt h,lb_zero]
theorem Qv0 {a b:Nat} (ha:a<18446744073709551616) (hb:0<b):Yp a b:=by
 have hl:(lb a).length<=1:=W3 bL (by simpa using ha)
 rcases Nat.lt_or_ge a b with h|h
 ·exact Qgu h (by omega)
 ·unfold Yp z68.F
  rw [Wl]
  simp only [Zb]
  rw [Qa (by omega),Qcb (by omega)]
  simp only [Zb]
  have:¬cmpI (a:Int) b<0:=by unfold cmpI;rw [if_neg (by omega)];split<;>omega
  rw [Qa this,Qe8 (by omega) ha,Qe8 hb (by omega),Jp (by show List.length _<=_;simp),Jp (by show List.length _<=_;simp)]
  simp only [Zb,List.length_singleton]
  rw [bif_t (by omega),if_pos (by omega),show [(b:Int)].getD 0 0=b from rfl,Qtt (by omega) (by omega)]
  simp only [Zb]
  have b1:a/b<=a:=Nat.div_le_self a b
  have b2:a%b<=a:=Nat.mod_le a b
  obtain ⟨q,hq⟩:∃q,a/b=q:=⟨_,rfl⟩
  obtain ⟨m,hm⟩:∃m,a%b=m:=⟨_,rfl⟩
  have e1:((a:Int)/b)=(q:Int):=by rw [<-hq];rfl
  have e2:((a:Int)%b)=(m:Int):=by rw [<-hm];rfl
  rw [hq] at b1 ⊢
  rw [hm] at b2 ⊢
  rw [e1,e2,W4 (by omega)]
  simp only [Zb]
  rw [W4 (by omega)]
  rfl
theorem quot_Gcd {M:Nat} (hD:Qay M) {a b:Nat} (ha:a<=M) (hb:b<=M):z69.F (lb a) (lb b)=some (lb (Nat.gcd a b)):=by
 have key:∀(f a b:Nat),b<f->a<=M->b<=M->Runs (λrec x=>z69.l0P rec some x) (lb a,lb b) (lb (Nat.gcd a b),[]):=by
  intro f
  induction f with
  |zero=>intro a b h;omega
  |
   succ f ih=>
   intro a b h ha hb
   rcases Nat.eq_zero_or_pos b with h0|h0
   ·subst h0
    refine .done λrec=>?_
    unfold z69.l0P
    simp only [Wl,Zb]
    rw [Nat.gcd_zero_right,lb_zero];rfl
   ·have hm:=Nat.mod_lt a h0
    have hmm:=Nat.mod_le a b
    have e:Nat.gcd a b=Nat.gcd b (a%b):=by rw [Nat.gcd_comm,Nat.gcd_rec,Nat.gcd_comm]
    rw [e]
    refine .step (λrec=>?_) (ih b (a%b) (by omega) hb (by omega))
    unfold z69.l0P
    simp only [Wl,Zb]
    rw [Zf (by omega),Zo,Zd,hD a b ha hb h0]
    rfl
 unfold z69.F
 have e:z69.l0 (lb a,lb b)=some (lb (Nat.gcd a b),[]):=(key (b+1) a b (by omega) ha hb).lfp
 rw [e];rfl
theorem Qj8 (z:Int):decide (cmpI z 0<0)=neg z:=by
 unfold cmpI;apply decide_eq_decide.2;split<;>(try split)<;>omega
theorem Qi0 {z:Int} {g:Nat} (h:g∣z.natAbs) (h0:0<g):(z/(g:Int)).natAbs=z.natAbs/g/\(z/(g:Int)<0↔z<0):=by
 obtain ⟨k,hk⟩:=Int.ofNat_dvd_left.2 h
 subst hk
 have hg:(g:Int)≠0:=by omega
 rw [Int.mul_ediv_cancel_left _ hg,Int.natAbs_mul,Int.natAbs_natCast,Nat.mul_div_cancel_left _ h0]
 refine ⟨rfl,?_⟩
 constructor
 ·intro h;exact Int.mul_neg_of_pos_of_neg (by omega) h
 ·intro h
  rcases Int.lt_or_le k 0 with h'|h'
  ·exact h'
  ·have:=Int.mul_nonneg (show (0:Int)<=g by omega) h';omega
theorem frac_made {M:Nat} (hD:Qay M) {num:Int} {den:Nat} (h0:0<den) (hn:num.natAbs<=M) (hd:den<=M) (hs:sz den<=700000000) :
  z70.F (lb num.natAbs) (neg num) (lb den)=some (lb (mkRat num den).num.natAbs,neg (mkRat num den).num,lb ((mkRat num den).den-1)):=by
 have hg:0<Nat.gcd num.natAbs den:=Nat.gcd_pos_of_pos_right _ h0
 have hgd:Nat.gcd num.natAbs den<=den:=Nat.gcd_le_right _ h0
 have hdv:=Nat.gcd_dvd_right num.natAbs den
 have hdv2:=Nat.gcd_dvd_left num.natAbs den
 have hp:0<den/Nat.gcd num.natAbs den:=Nat.div_pos hgd hg
 have hle:den/Nat.gcd num.natAbs den<=den:=Nat.div_le_self _ _
 have hsz:=Nat.le_trans (Qh _) (Nat.le_trans (Qy hle) hs)
 obtain ⟨q1,q2⟩:=Qi0 hdv2 hg
 unfold z70.F z59.F
 simp only [Zb]
 rw [quot_Gcd hD hn hd]
 simp only [Zb]
 rw [Rat.num_mkRat,Rat.den_mkRat,if_neg (by omega),if_neg (by omega),Nat.gcd_comm den]
 generalize Nat.gcd num.natAbs den=g at *
 have d1:z68.F (lb num.natAbs) (lb g)=_:=hD _ _ hn (by omega) hg
 have d2:z68.F (lb den) (lb g)=_:=hD _ _ hd (by omega) hg
 rw [d1]
 simp only [Zb]
 rw [d2]
 simp only [Zb]
 rw [W4 (by omega)]
 simp only [Zb]
 rw [show Int.toNat 1=1 from rfl,Qc3 (by omega),if_pos (by omega)]
 simp only [Zb]
 rw [Yf]
 simp only [Zb]
 rw [Qj8,W9 (z:=num/(g:Int)) q1.symm (by
  have hz:num/(g:Int)<0↔num<0:=q2
  by_cases h:num<0
  ·exact .inl ⟨Zt h,by omega⟩
  ·exact .inr ⟨Zf h,by omega⟩)]
 rfl
abbrev fr (q:Rat):J0×Bool×J0:=(lb q.num.natAbs,neg q.num,lb (q.den-1))
theorem frac_Of {M:Nat} (hD:Qay M) {num den:Int} (h0:den≠0) (hn:num.natAbs<=M) (hd:den.natAbs<=M) (hs:sz den.natAbs<=700000000) :
  z71.F (lb num.natAbs) (neg num) (lb den.natAbs) (neg den)=some ((fr (Rat.divInt num den)).1,(fr (Rat.divInt num den)).2.1,(fr (Rat.divInt num den)).2.2,0):=by
 have hc:cmpI den 0=if den<0 then -1 else 1:=by
  unfold cmpI
  by_cases h:den<0
  ·rw [if_pos h,if_pos h]
  ·rw [if_neg h,if_neg h,if_neg h0]
 unfold z71.F
 rw [Yf]
 simp only [Zb]
 rw [hc]
 by_cases h:den<0
 ·have e:Rat.divInt num den=mkRat (-num) den.natAbs:=by
   have:den = -((den.natAbs:Nat):Int):=by omega
   conv=>lhs;rw [this]
   rw [Rat.divInt_neg',Rat.divInt_ofNat]
  rw [if_pos h,Qa (by decide),bif_t rfl,Qko]
  simp only [Zb]
  unfold z71.j4 z59.F
  simp only [Zb]
  rw [frac_made hD (by omega) (by omega) hd hs,e]
  rfl
 ·have e:Rat.divInt num den=mkRat num den.natAbs:=by
   have:den=((den.natAbs:Nat):Int):=by omega
   conv=>lhs;rw [this]
   rw [Rat.divInt_ofNat]
  rw [if_neg h,Qa (by decide),Qa (by decide)]
  unfold z71.j4 z59.F
  simp only [Zb]
  rw [frac_made hD (by omega) hn hd hs,e]
  rfl
theorem Yw (q:Rat) (a:J0) (b:Bool) (hs:sz q.den<=700000000):z73.F a b (lb (q.den-1))=some (lb q.den):=by
 have h1:sz 1<=1:=sz_le (by decide)
 have h2:=Nat.le_trans (Qh (q.den-1)) (Nat.le_trans (Qy (Nat.sub_le _ _)) hs)
 have h3:=Nat.le_trans (Qh 1) h1
 unfold z73.F
 rw [W4 (by omega)]
 simp only [Zb]
 rw [show Int.toNat 1=1 from rfl,Qaq (by omega),Nat.sub_add_cancel q.den_pos]
 rfl
theorem Qfv (q:Rat) (a:J0) (b:Bool) (hs:sz q.den<=700000000):z74.F a b (lb (q.den-1))=some (lb (q.den:Int).natAbs,neg (q.den:Int)):=by
 unfold z74.F
 rw [Yw q a b hs]
 simp only [Zb]
 rw [W9 (z:=(q.den:Int)) (by omega) (.inr ⟨rfl,by omega⟩)]
 rfl
theorem Qiz (q r:Rat):q/r=Rat.divInt (q.num*r.den) (q.den*r.num):=by
 rw [Rat.div_def,Rat.inv_def]
 conv=>lhs;rw [<-Rat.num_divInt_den q,Rat.divInt_mul_divInt]
theorem Qm8 {M:Nat} (hD:Qay M) {q r:Rat} (h0:r≠0) (hn:(q.num*r.den).natAbs<=M) (hd:(q.den*r.num).natAbs<=M) (hs:sz q.num.natAbs+sz r.den<=600000000) (hs':sz r.num.natAbs+sz q.den<=600000000) :
  z75.F (lb q.num.natAbs) (neg q.num) (lb (q.den-1)) (lb r.num.natAbs) (neg r.num) (lb (r.den-1))=some ((fr (q/r)).1,(fr (q/r)).2.1,(fr (q/r)).2.2,0):=by
 have e1:sz (r.den:Int).natAbs=sz r.den:=rfl
 have e2:sz (q.den:Int).natAbs=sz q.den:=rfl
 have l1:=Qh q.num.natAbs
 have l2:=Qh (r.den:Int).natAbs
 have l3:=Qh (q.den:Int).natAbs
 have l4:=Qh r.num.natAbs
 have hr:r.num≠0:=λh=>h0 (Rat.num_eq_zero.1 h)
 have hqd:=q.den_nz
 have m1:=Q1 (q.den:Int).natAbs r.num.natAbs
 rw [<-Int.natAbs_mul] at m1
 unfold z75.F
 rw [Qfv r _ _ (by omega)]
 simp only [Zb]
 rw [Y9 (by omega)]
 simp only [Zb]
 rw [Qfv q _ _ (by omega)]
 simp only [Zb]
 rw [Y9 (by omega)]
 simp only [Zb]
 rw [frac_Of hD (Int.mul_ne_zero (by omega) hr) hn hd (by show sz _<=_;omega),Qiz]
 rfl
def cutNeg (s:J1):J1×Bool:=match s with|[]=>([],false)|b::t=>if b=45 then (t,true) else (b::t,false)
theorem Ql8 (s:J1):(cutNeg s).1.length<=s.length:=by
 unfold cutNeg;split
 ·simp
 ·split<;>simp
theorem Qoz (s:J1):z37.F s [45]=some (cutNeg s):=by
 unfold z37.F z36.F z35.F cutNeg
 cases s with
 |nil=>rfl
 |
  cons b t=>
  have e1:([45]:J1).length=1:=rfl
  have e2:Int.toNat ((1:Nat):Int)=1:=rfl
  simp only [e1,e2]
  rw [bif_t (by simp;omega),if_pos (by simp;omega)]
  simp only [Zb,List.take_succ_cons,List.take_zero,List.drop_succ_cons,List.drop_zero,List.cons.injEq,and_true]
  by_cases h:b=45
  ·rw [Zt h,if_pos h,if_pos (by simp;omega)];rfl
  ·rw [Zf h,if_neg h];rfl
def mWhole (s:J1):Int×Int:=
 if (mDigits (cutNeg s).1).2≠0 then (0,(mDigits (cutNeg s).1).2)
 else if (cutNeg s).2&&decide ((mDigits (cutNeg s).1).1=0) then (0,5)
 else (if (cutNeg s).2 then -((mDigits (cutNeg s).1).1:Int) else (mDigits (cutNeg s).1).1,0)
theorem whole_Parse (s:J1):z42.F s=some (lb (mWhole s).1.natAbs,neg (mWhole s).1,(mWhole s).2):=by
 unfold z42.F mWhole
 rw [Qoz]
 simp only [Zb]
 rw [digits_Parse]
 simp only [Zb]
 generalize mDigits (cutNeg s).1=d
 generalize (cutNeg s).2=below
 by_cases h:d.2=0
 ·have h':¬(d.2≠0):=λhh=>hh h
  rw [Zt h,if_neg h']
  simp only [Zn,Zc]
  cases below with
  |
   true=>
   simp only [Zd,Bool.true_and,if_true]
   rw [Wl]
   simp only [Zb]
   by_cases h0:d.1=0
   ·rw [Zt h0]
    simp only [if_true,Zd]
    rw [show Int.natAbs 0=0 from rfl,lb_zero];rfl
   ·rw [Zf h0]
    simp only [Zc]
    rw [W9 (z:=-(d.1:Int)) (by omega) (.inl ⟨rfl,by omega⟩)]
    simp
  |
   false=>
   simp only [Zc,Bool.false_and]
   rw [W9 (z:=(d.1:Int)) (by omega) (.inr ⟨rfl,by omega⟩)]
   simp
 ·rw [Zf h,if_pos h]
  simp only [Zo,Zd]
  rw [show Int.natAbs 0=0 from rfl,lb_zero];rfl
def cutDot:J1->J1×Option J1
 |[]=>([],none)
 |b::t=>if b=46 then ([],some t) else (b::(cutDot t).1,(cutDot t).2)
theorem Qer:∀{t:J1},(cutDot t).2=none->(cutDot t).1=t
 |[],_=>rfl
 |
  b::t,h=>by
  unfold cutDot at h ⊢
  split at h
  ·simp at h
  ·rename_i hb
   rw [if_neg hb]
   simp only at h ⊢
   rw [Qer h]
theorem Qef:∀{t r:J1},(cutDot t).2=some r->t=(cutDot t).1++46::r
 |[],r,h=>by simp [cutDot] at h
 |
  b::t,r,h=>by
  unfold cutDot at h ⊢
  split at h
  ·rename_i hb
   rw [if_pos hb,hb]
   simp only [Zs] at h
   rw [h];rfl
  ·rename_i hb
   rw [if_neg hb]
   simp only at h ⊢
   conv=>lhs;rw [Qef h]
   rfl
theorem Qqy (b:UInt8) (t:J1) (c:UInt8):Y7 (b::t) c=if b=c then 0 else if Y7 t c<0 then -1 else Y7 t c+1:=by
 unfold Y7
 rw [List.length_cons,List.range_succ_eq_map,List.find?_cons]
 by_cases h:b=c
 ·simp [h]
 ·have h1:((b::t).getD 0 0 == c)=false:=by simp [h]
  rw [h1,if_neg h]
  simp only
  rw [List.find?_map]
  have e:((λi=>(b::t).getD i 0 == c)∘Nat.succ)=λi=>t.getD i 0 == c:=by funext i;simp [List.getD]
  rw [e]
  cases (List.range t.length).find? λi=>t.getD i 0 == c with
  |none=>simp
  |some i=>simp;omega
theorem Qkc:∀t:J1,Y7 t 46=if (cutDot t).2=none then -1 else ((cutDot t).1.length:Int)
 |[]=>by simp [Y7,cutDot]
 |
  b::t=>by
  have e:cutDot (b::t)=if b=46 then ([],some t) else (b::(cutDot t).1,(cutDot t).2):=by rw [cutDot]
  rw [Qqy,Qkc t,e]
  by_cases h:b=46
  ·simp [h]
  ·rw [if_neg h,if_neg h]
   by_cases h2:(cutDot t).2=none
   ·simp [h2]
   ·simp [h2];omega
def plainB (s:J1):Bool:=!decide (s=[])&&digs s
def zeros (s:J1):Bool:=s.all (· == 48)
theorem dec_plain (s:J1) (h:s.length<=9223372036854775807):z49.F s=some (plainB s):=by
 unfold z49.F plainB
 by_cases h0:s=[]
 ·rw [Zt h0];rfl
 ·rw [Zf h0]
  obtain ⟨r,t1,t2⟩:=Qow s h
  simp only [Zo,Zd]
  rw [t1]
  simp only [Zb]
  rw [t2];simp
theorem Qry (b:UInt8):([48]:J1).contains b=(b == 48):=by
 simp only [List.contains_cons,List.contains_nil,Bool.or_false]
theorem Qnh (s:J1) (hs:s.length<=9223372036854775807):∃r,z3.F s [48]=some r/\decide (r=[])=zeros s:=by
 unfold z3.F
 rw [if_pos ⟨hs,by decide,by decide⟩]
 refine ⟨_,rfl,?_⟩
 rw [Bool.eq_iff_iff,decide_eq_true_iff,Qmj,zeros,List.all_eq_true]
 simp only [Qry]
theorem Qlx:∀{s:J1},Qs s->tv 0 (trimL s [48])=tv 0 s/\Qs (trimL s [48])/\(trimL s [48]).length<=s.length/\(trimL s [48]≠[]->((trimL s [48]).getD 0 0).toNat≠48)
 |[],h=>by simp [trimL,tv,Qs]
 |
  b::s,h=>by
  have ih:=Qlx (s:=s) λx hx=>h x (by simp [hx])
  by_cases hb:b=48
  ·have e:trimL (b::s) [48]=trimL s [48]:=by unfold trimL;exact List.dropWhile_cons_of_pos (by rw [hb];decide)
   rw [e]
   refine ⟨?_,ih.2.1,by rw [List.length_cons];omega,ih.2.2.2⟩
   rw [ih.1,hb];rfl
  ·have e:trimL (b::s) [48]=b::s:=by unfold trimL;exact List.dropWhile_cons_of_neg (by simp [hb])
   rw [e]
   refine ⟨rfl,h,Nat.le_refl _,λ_ hh=>hb (UInt8.toNat_inj.1 hh)⟩
theorem Qpd {s:J1} (hd:Qs s) (hl:s.length<=4096):z41.F (if trimL s [48]=[] then [48] else trimL s [48])=some (lb (tv 0 s).toNat,0):=by
 obtain ⟨h1,h2,h3,h4⟩:=Qlx hd
 rw [digits_Parse]
 by_cases h:trimL s [48]=[]
 ·rw [if_pos h]
  rw [h] at h1
  rw [<-h1];rfl
 ·rw [if_neg h,<-h1]
  unfold mDigits
  have:numOK (trimL s [48])=true:=by
   unfold numOK
   rw [Zf h,Y2.2 h2,Zf (h4 h)];simp
  rw [if_neg (by omega),this];rfl
def Jc (below:Bool) (a:J1) (o:Option J1):Int×Nat×Int:=
 if !plainB a||(o.isSome && !plainB (o.getD []))||(decide (1<a.length)&&decide ((a.getD 0 0).toNat=48)) then (0,0,5)
 else if below&&zeros (a++o.getD []) then (0,0,5)
 else if 64<(o.getD []).length then (0,0,10)
 else (if below then -tv 0 (a++o.getD []) else tv 0 (a++o.getD []),(o.getD []).length,0)
def mDec (s:J1):Int×Nat×Int:=if 4096<s.length then (0,0,7) else Jc (cutNeg s).2 (cutDot (cutNeg s).1).1 (cutDot (cutNeg s).1).2
abbrev decR (m:Int×Nat×Int):J0×Bool×Int×Int:=(lb m.1.natAbs,neg m.1,(m.2.1:Int),m.2.2)
theorem Y4 (e:Int):decR (0,0,e)=([],false,0,e):=by unfold decR;simp [lb_zero]
theorem Qpv (n:Int) (h:0<=n) (below:Bool):z21.F (lb n.toNat) below=some (lb (if below then -n else n).natAbs,neg (if below then -n else n)):=by
 cases below
 ·rw [W9 (z:=n) (by omega) (.inr ⟨rfl,h⟩)];rfl
 ·rw [W9 (z:=-n) (by omega) (.inl ⟨rfl,by omega⟩)];rfl
theorem Qve {rest a b:J1} {below lead:Bool} (h1:rest.take a.length=a) (h2:rest.drop (a.length+1)=b) (ha:Qs a) (hb:Qs b) (hl:a.length+b.length<=4096) :
  z50.j14 lead (rest,below) (a.length:Int)=some (decR (if lead then (0,0,5) else if below&&zeros (a++b) then (0,0,5) else if 64<b.length then (0,0,10) else (if below then -tv 0 (a++b) else tv 0 (a++b),b.length,0))):=by
 have e1:(wr .i64 ((a.length:Int)+1)).toNat=a.length+1:=by rw [Qc (by omega) (by omega)];omega
 have hab:Qs (a++b):=λx hx=>(List.mem_append.1 hx).elim (ha x) (hb x)
 have hln:(a++b).length<=4096:=by rw [List.length_append];exact hl
 have key:z50.j16 false (rest,below) (a.length:Int)=some (decR (if 64<b.length then (0,0,10) else (if below then -tv 0 (a++b) else tv 0 (a++b),b.length,0))):=by
  unfold z50.j16
  simp only [e1,Zi,h1,h2,Zc]
  by_cases h64:64<b.length
  ·rw [bif_t (by omega),if_pos h64,Y4]
  ·rw [Qa (by omega),if_neg h64,if_pos (by omega)]
   have et:z4.F (a++b) [48]=some (trimL (a++b) [48]):=by unfold z4.F;rw [if_pos ⟨by decide,by decide⟩]
   rw [et]
   simp only [Zb]
   have ep:=Qpd hab hln
   have fin:∀x,z41.F x=some (lb (tv 0 (a++b)).toNat,0)->z50.j18 x (rest,below) (a.length:Int)=some (decR (if below then -tv 0 (a++b) else tv 0 (a++b),b.length,0)):=λx hx=>by
    unfold z50.j18
    rw [hx]
    simp only [Zb,e1,h2]
    rw [Qpv _ (Yx hab).1]
    rfl
   by_cases ht:trimL (a++b) [48]=[]
   ·rw [if_pos ht] at ep
    rw [bif_t ht];exact fin _ ep
   ·rw [if_neg ht] at ep
    rw [Qa ht];exact fin _ ep
 unfold z50.j14
 simp only [e1,Zi,h1,h2]
 cases lead with
 |true=>simp only [Zd,if_true];rw [Y4]
 |
  false=>
  simp only [Zc]
  rw [if_neg Bool.false_ne_true]
  cases below with
  |false=>simp only [Zc,Bool.false_and];rw [key];rfl
  |
   true=>
   obtain ⟨r,t1,t2⟩:=Qnh (a++b) (by omega)
   simp only [Zd,Bool.true_and]
   rw [if_pos (by omega),t1]
   simp only [Zb]
   rw [t2]
   cases hz:zeros (a++b) with
   |true=>unfold z50.j16;simp only [Zd,if_true];rw [Y4]
   |false=>rw [key];rfl
theorem Qw1 {a:J1} {below lead:Bool} (ha:Qs a) (hl:a.length<=4096) :
  z50.j22 lead (a,below)=some (decR (if lead then (0,0,5) else if below&&zeros a then (0,0,5) else (if below then -tv 0 a else tv 0 a,0,0))):=by
 have key:z50.j24 (a,below)=some (decR (if below then -tv 0 a else tv 0 a,0,0)):=by
  unfold z50.j24
  simp only [List.append_nil]
  rw [if_pos (by simp;omega)]
  have et:z4.F a [48]=some (trimL a [48]):=by unfold z4.F;rw [if_pos ⟨by decide,by decide⟩]
  rw [et]
  simp only [Zb]
  have ep:=Qpd ha hl
  have fin:∀x,z41.F x=some (lb (tv 0 a).toNat,0)->z50.j26 x (a,below)=some (decR (if below then -tv 0 a else tv 0 a,0,0)):=λx hx=>by
   unfold z50.j26
   rw [hx]
   simp only [Zb]
   rw [Qpv _ (Yx ha).1]
   rfl
  by_cases ht:trimL a [48]=[]
  ·rw [if_pos ht] at ep
   rw [bif_t ht];exact fin _ ep
  ·rw [if_neg ht] at ep
   rw [Qa ht];exact fin _ ep
 unfold z50.j22
 simp only [List.append_nil]
 cases lead with
 |true=>simp only [Zd,if_true];rw [Y4]
 |
  false=>
  simp only [Zc]
  rw [if_neg Bool.false_ne_true]
  cases below with
  |false=>simp only [Zc,Bool.false_and];rw [key];rfl
  |
   true=>
   obtain ⟨r,t1,t2⟩:=Qnh a (by omega)
   simp only [Zd,Bool.true_and]
   rw [if_pos (by simp;omega),t1]
   simp only [Zb]
   rw [t2]
   cases hz:zeros a with
   |true=>simp only [Zd,if_true];rw [Y4]
   |false=>simp only [Zc];rw [key];rfl
theorem Qdi {s:J1} (h:plainB s=true):Qs s/\s≠[]:=by
 unfold plainB at h
 rw [Bool.and_eq_true] at h
 exact ⟨Y2.1 h.2,by simpa using h.1⟩
theorem Qnu {a:J1} (hne:a≠[]) {α:Type} (f:Bool->Option α) :
  (bif decide ((a.length:Int)>1) then (if (0:Int)<=(0:Int)/\(0:Int)<(a.length:Int) then f (decide (((a.getD 0 0).toNat:Int)=(48:Int))) else none) else f false)=f (decide (1<a.length)&&decide ((a.getD 0 0).toNat=48)):=by
 have hpos:=List.length_pos_iff.2 hne
 by_cases h:1<a.length
 ·rw [bif_t (by omega),if_pos (by omega),Zt h,Bool.true_and]
  congr 1;exact decide_eq_decide.2 (by omega)
 ·rw [Qa (by omega),Zf h,Bool.false_and]
theorem dec_Parse (s:J1):z50.F s=some (decR (mDec s)):=by
 unfold z50.F mDec
 by_cases h0:4096<s.length
 ·rw [bif_t (by omega),if_pos h0,Y4]
 ·rw [Qa (by omega),if_neg h0,Qoz]
  simp only [Zb]
  have hlen:=Ql8 s
  generalize cutNeg s=c at *
  obtain ⟨rest,below⟩:=c
  simp only at hlen ⊢
  have hp0:z49.F ([]:J1)=some false:=rfl
  by_cases hdot:([46]:J1)=rest
  ·subst hdot
   rw [bif_t rfl]
   simp only [List.length_singleton,List.take_zero,hp0,Zb]
   unfold z50.j4
   simp only [Zo,Zd]
   have:Jc below (cutDot [46]).1 (cutDot [46]).2=(0,0,5):=by simp [cutDot,Jc,plainB]
   rw [this,Y4]
   rfl
  ·rw [Qa hdot,if_pos (by simp)]
   have hi:z2.F rest ((([46]:J1).getD 0 0).toNat:Int)=some (Y7 rest 46):=rfl
   rw [hi]
   simp only [Zb]
   rw [Qkc]
   cases ho:(cutDot rest).2 with
   |
    none=>
    have ha:=Qer ho
    rw [if_pos rfl,Qa (by omega),ha,dec_plain _ (by omega)]
    simp only [Zb]
    unfold Jc
    simp only [Option.isSome_none,Bool.false_and,Bool.or_false,Option.getD_none,List.append_nil,List.length_nil]
    cases hpl:plainB rest with
    |false=>unfold z50.j22;simp only [Zo,Zd,Bool.true_or,if_true];rw [Y4]
    |
     true=>
     obtain ⟨hd,hne⟩:=Qdi hpl
     simp only [Zn,Zc,Bool.false_or]
     rw [Qnu hne λb=>z50.j22 b (rest,below),Qw1 hd (by omega)]
     rfl
   |
    some b=>
    have hab:=Qef ho
    generalize (cutDot rest).1=a at *
    have hl:rest.length=a.length+(b.length+1):=by rw [hab];simp
    have t1:rest.take a.length=a:=by rw [hab];simp
    have t2:rest.drop (a.length+1)=b:=by
     rw [hab,<-List.drop_drop];simp
    have e1:(wr .i64 ((a.length:Int)+1))=((a.length+1:Nat):Int):=by rw [Qc (by omega) (by omega)];omega
    rw [if_neg (by simp),bif_t (by omega),if_pos (by omega)]
    simp only [e1,Zi,t1,t2]
    rw [if_pos (by omega),dec_plain a (by omega)]
    simp only [Zb]
    unfold Jc
    simp only [Option.isSome_some,Bool.true_and,Option.getD_some]
    cases hpl:plainB a with
    |false=>unfold z50.j14;simp only [Zo,Zd,Bool.true_or,if_true];rw [Y4]
    |
     true=>
     obtain ⟨hd,hne⟩:=Qdi hpl
     simp only [Zn,Zc,Bool.false_or]
     rw [dec_plain b (by omega)]
     simp only [Zb]
     cases hpb:plainB b with
     |false=>unfold z50.j14;simp only [Zo,Zd,Bool.true_or,if_true];rw [Y4]
     |
      true=>
      obtain ⟨hdb,hneb⟩:=Qdi hpb
      simp only [Zn,Zc,Bool.false_or]
      rw [Qnu hne λx=>z50.j14 x (rest,below) (a.length:Int),Qve t1 t2 hd hdb (by omega)]
abbrev leap (y:Int):Prop:=y%4=0/\¬y%100=0\/y%400=0
abbrev goodY (y:Int):Prop:=1<=y/\y<=9999
def dDays (y m:Int):Int:=if ¬goodY y\/m<1\/12<m then 0 else if m=2 then (if leap y then 29 else 28) else if m=4\/m=6\/m=9\/m=11 then 30 else 31
abbrev right (y m d:Int):Prop:=1<=d/\d<=dDays y m
theorem Qbs {a b:Int} (hb:0<b):Int.tmod a b=0↔a%b=0:=by
 rw [<-Int.dvd_iff_tmod_eq_zero,<-Int.dvd_iff_emod_eq_zero]
theorem date_good (y:Int):z86.F y=some (decide (goodY y)):=by
 unfold z86.F
 by_cases h:y>=1
 ·rw [bif_t h];congr 1;exact decide_eq_decide.2 (by omega)
 ·rw [Qa h];congr 1;symm;exact Zf (by omega)
theorem date_Leap (y:Int):z87.F y=some (decide (goodY y/\leap y)):=by
 unfold z87.F
 rw [date_good]
 simp only [Zb,Qbs (show (0:Int)<4 by decide),Qbs (show (0:Int)<100 by decide),Qbs (show (0:Int)<400 by decide)]
 by_cases h:goodY y
 ·rw [bif_t h]
  by_cases h4:y%4=0
  ·rw [bif_t h4]
   by_cases h1:y%100=0
   ·rw [Zt h1];simp only [Zn,Zc];congr 1;exact decide_eq_decide.2 (by omega)
   ·rw [Zf h1];simp only [Zo,Zd];congr 1;symm;exact Zt (by omega)
  ·rw [Qa h4];congr 1;exact decide_eq_decide.2 (by omega)
 ·rw [Qa h];congr 1;symm;exact Zf (λhh=>h hh.1)
theorem date_Days (y m:Int):z88.F y m=some (dDays y m):=by
 unfold z88.F dDays
 rw [date_good]
 simp only [Zb]
 by_cases hy:goodY y
 ·rw [Zt hy]
  simp only [Zn,Zc]
  by_cases h1:m<1
  ·rw [bif_t h1,if_pos (by omega)]
  ·rw [Qa h1]
   by_cases h12:m>12
   ·rw [bif_t h12,if_pos (by omega)]
   ·rw [Qa h12,if_neg (by omega)]
    by_cases h2:m=2
    ·subst h2
     rw [bif_t rfl,if_pos rfl,date_Leap]
     simp only [Zb]
     by_cases hl:leap y
     ·rw [Zt ⟨hy,hl⟩,if_pos hl];rfl
     ·rw [Zf (λhh=>hl hh.2),if_neg hl];rfl
    ·rw [Qa h2,if_neg h2]
     have:m=1\/m=3\/m=4\/m=5\/m=6\/m=7\/m=8\/m=9\/m=10\/m=11\/m=12:=by omega
     rcases this with rfl|rfl|rfl|rfl|rfl|rfl|rfl|rfl|rfl|rfl|rfl<;>rfl
 ·rw [Zf hy,if_pos (.inl hy)];rfl
theorem Qg6 (y:Int):z10.F y=some (decide (goodY y/\leap y)):=by
 unfold z10.F z10.j1
 simp only [Qbs (show (0:Int)<4 by decide),Qbs (show (0:Int)<100 by decide),Qbs (show (0:Int)<400 by decide)]
 by_cases h1:y<1
 ·rw [bif_t h1];congr 1;symm;exact Zf (by omega)
 ·rw [Qa h1]
  by_cases h2:y>9999
  ·rw [bif_t h2];congr 1;symm;exact Zf (by omega)
  ·rw [Qa h2]
   by_cases h4:y%400=0
   ·rw [bif_t h4];congr 1;symm;exact Zt (by omega)
   ·rw [Qa h4]
    by_cases h3:y%4=0
    ·rw [bif_t h3];congr 1
     by_cases h5:y%100=0
     ·rw [Zt h5];symm;exact Zf (by omega)
     ·rw [Zf h5];symm;exact Zt (by omega)
    ·rw [Qa h3];congr 1;symm;exact Zf (by omega)
theorem Qck (y m:Int):z11.F y m=some (dDays y m):=by
 unfold z11.F z11.j1 dDays
 by_cases h0:y<1
 ·rw [bif_t h0,if_pos (by omega)]
 ·rw [Qa h0]
  by_cases h9:y>9999
  ·rw [bif_t h9,if_pos (by omega)]
  ·rw [Qa h9]
   by_cases h1:m<1
   ·rw [bif_t h1,if_pos (by omega)]
   ·rw [Qa h1]
    by_cases h12:m>12
    ·rw [bif_t h12,if_pos (by omega)]
    ·rw [Qa h12,if_neg (by omega)]
     by_cases h2:m=2
     ·rw [bif_t h2,if_pos h2,Qg6]
      simp only [Zb]
      by_cases hl:leap y
      ·rw [Zt ⟨by omega,hl⟩,if_pos hl];rfl
      ·rw [Zf (λhh=>hl hh.2),if_neg hl];rfl
     ·rw [Qa h2,if_neg h2]
      by_cases g4:m=4
      ·rw [bif_t g4,if_pos (.inl g4)]
      ·rw [Qa g4]
       by_cases g6:m=6
       ·rw [bif_t g6,if_pos (by omega)]
       ·rw [Qa g6]
        by_cases g9:m=9
        ·rw [bif_t g9,if_pos (by omega)]
        ·rw [Qa g9]
         by_cases g11:m=11
         ·rw [bif_t g11,if_pos (by omega)]
         ·rw [Qa g11,if_neg (by omega)]
theorem Qdz (y m:Int):0<=dDays y m/\dDays y m<=31:=by
 unfold dDays;split
 ·omega
 ·split
  ·split<;>omega
  ·split<;>omega
theorem Qjd {y m:Int} (hy:goodY y) (hm:1<=m/\m<=12):28<=dDays y m:=by
 unfold dDays;rw [if_neg (by omega)];split
 ·split<;>omega
 ·split<;>omega
theorem Q3 {y m d:Int} (h:right y m d):goodY y/\1<=m/\m<=12/\1<=d/\d<=31:=by
 have h1:=h.2
 have h2:=Qdz y m
 unfold dDays at h1
 split at h1
 ·have:=h.1;omega
 ·rename_i hn
  have:=h.1
  refine ⟨by omega,by omega,by omega,by omega,by omega⟩
theorem date_Check (y m d:Int):z89.F y m d=some (if right y m d then 0 else 11):=by
 unfold z89.F
 rw [date_Days]
 simp only [Zb]
 by_cases h:d<1
 ·rw [bif_t h,if_neg (by omega)]
 ·rw [Qa h]
  by_cases h':d>dDays y m
  ·rw [bif_t h',if_neg (by omega)]
  ·rw [Qa h',if_pos (by omega)]
theorem Qoa (y m d:Int):z124.F y m d=some (decide (right y m d)):=by
 unfold z124.F
 rw [Qck]
 simp only [Zb]
 by_cases h:d>=1
 ·rw [bif_t h];congr 1;exact decide_eq_decide.2 (by omega)
 ·rw [Qa h];congr 1;symm;exact Zf (by omega)
def addM (y m d k:Int):Int×Int×Int:=(((12*y+m-1)+k)/12,((12*y+m-1)+k)%12+1,min d (dDays (((12*y+m-1)+k)/12) (((12*y+m-1)+k)%12+1)))
abbrev okM (y m k:Int):Prop:=12<=(12*y+m-1)+k/\(12*y+m-1)+k<120000
theorem Qib {y m d k:Int} (h:right y m d) (ho:okM y m k):right (addM y m d k).1 (addM y m d k).2.1 (addM y m d k).2.2:=by
 have h1:=Q3 h
 have h2:=Qjd (y:=((12*y+m-1)+k)/12) (m:=((12*y+m-1)+k)%12+1) (by omega) (by omega)
 show 1<=min d _/\min d _<=dDays _ _
 simp only [addM]
 omega
theorem Qmf (a b:Int):(if a<b then a else b)=min b a:=by omega
theorem month_Add {y m d k:Int}:z90.F y m d k=some (if right y m d/\okM y m k then ((addM y m d k).1,(addM y m d k).2.1,(addM y m d k).2.2,0) else (0,0,0,11)):=by
 unfold z90.F
 rw [date_Check]
 simp only [Zb]
 by_cases h:right y m d
 ·have hg:=Q3 h
  rw [if_pos h]
  simp only [decide_true,Zn,Zc]
  by_cases h1:k < -119988
  ·rw [bif_t h1,if_neg (by omega)]
  ·rw [Qa h1]
   by_cases h2:k>119988
   ·rw [bif_t h2,if_neg (by omega)]
   ·rw [Qa h2]
    unfold z90.j2 z90.j3
    rw [Qc (n:=12*y) (by omega) (by omega),Qc (n:=12*y+m) (by omega) (by omega),Qc (n:=12*y+m-1) (by omega) (by omega),Qc (n:=12*y+m-1+k) (by omega) (by omega)]
    by_cases h3:12*y+m-1+k<12
    ·rw [bif_t h3,if_neg (by omega)]
    ·rw [Qa h3,W1 (by omega),Qc (n:=(12*y+m-1+k)/12) (by omega) (by omega)]
     by_cases h4:(12*y+m-1+k)/12>9999
     ·rw [bif_t h4,if_neg (by omega)]
     ·rw [Qa h4,Yv (by omega),Qc (n:=(12*y+m-1+k)%12+1) (by omega) (by omega),date_Days,if_pos (by exact ⟨h,by omega⟩)]
      simp only [Zb,Qmf]
      rfl
 ·rw [if_neg h,if_neg (λhh=>h hh.1)];rfl
theorem Qlz:∀(f:Nat) (y m:Int),0<=y/\y<=1000000-f->m<=12*f+12/\-1000000<=m->∃y' m',Runs (λrec x=>z125.l0P rec some x) (y,m) (y',m')/\12*y'+m'=12*y+m/\m'<=12/\(m'=m/\y'=y\/1<=m')
 |0,y,m,hy,hm=>⟨y,m,.done λrec=>by unfold z125.l0P;simp only;rw [Qa (by omega)],rfl,by omega,.inl ⟨rfl,rfl⟩⟩
 |
  f+1,y,m,hy,hm=>by
  by_cases h:m>12
  ·obtain ⟨y',m',r,e1,e2,e3⟩:=Qlz f (y+1) (m-12) (by omega) (by omega)
   refine ⟨y',m',.step (λrec=>?_) r,by omega,e2,.inr (by omega)⟩
   unfold z125.l0P
   simp only
   rw [bif_t h,Qc (by omega) (by omega),Qc (by omega) (by omega)]
  ·exact ⟨y,m,.done λrec=>by unfold z125.l0P;simp only;rw [Qa h],rfl,by omega,.inl ⟨rfl,rfl⟩⟩
theorem Qn2:∀(f:Nat) (y m:Int),-1000000+f<=y/\y<=1000000->1<=m+12*f/\m<=12->∃y' m',Runs (λrec x=>z125.l2P rec some x) (y,m) (y',m')/\12*y'+m'=12*y+m/\1<=m'/\m'<=12
 |0,y,m,hy,hm=>⟨y,m,.done λrec=>by unfold z125.l2P;simp only;rw [Qa (by omega)],rfl,by omega,by omega⟩
 |
  f+1,y,m,hy,hm=>by
  by_cases h:m<1
  ·obtain ⟨y',m',r,e1,e2,e3⟩:=Qn2 f (y-1) (m+12) (by omega) (by omega)
   refine ⟨y',m',.step (λrec=>?_) r,by omega,e2,e3⟩
   unfold z125.l2P
   simp only
   rw [bif_t h,Qc (by omega) (by omega),Qc (by omega) (by omega)]
  ·exact ⟨y,m,.done λrec=>by unfold z125.l2P;simp only;rw [Qa h],rfl,by omega,by omega⟩
theorem Qmr {y m d k:Int} (h:right y m d):z125.F y m d k=some (if okM y m k then ((addM y m d k).1,(addM y m d k).2.1,(addM y m d k).2.2,true) else (0,0,0,false)):=by
 have hg:=Q3 h
 unfold z125.F
 by_cases h1:k>200000
 ·rw [bif_t h1,if_neg (by omega)]
 ·rw [Qa h1]
  by_cases h2:k < -200000
  ·rw [bif_t h2,if_neg (by omega)]
  ·rw [Qa h2]
   obtain ⟨y1,m1,r1,a1,a2,a3⟩:=Qlz 17000 y (m+k) (by omega) (by omega)
   obtain ⟨y2,m2,r2,b1,b2,b3⟩:=Qn2 17000 y1 m1 (by omega) (by omega)
   have e1:z125.l0 (y,m+k)=some (y1,m1):=r1.lfp
   have e2:z125.l2 (y1,m1)=some (y2,m2):=r2.lfp
   unfold z125.j1
   rw [Qc (by omega) (by omega),e1]
   simp only [Zb]
   rw [e2]
   simp only [Zb]
   have hy:y2=((12*y+m-1)+k)/12:=by omega
   have hm:m2=((12*y+m-1)+k)%12+1:=by omega
   by_cases h3:y2<1
   ·rw [bif_t h3,if_neg (by omega)]
   ·rw [Qa h3]
    by_cases h4:y2>9999
    ·rw [bif_t h4,if_neg (by omega)]
    ·rw [Qa h4,if_pos (by omega),Qck]
     simp only [Zb,Qmf]
     rw [hy,hm];rfl
def aheadY (y:Int):Int:=365*(y-1)+(y-1)/4-(y-1)/100+(y-1)/400
def cumD (y m:Int):Int:=(367*m-362)/12-(if m<=2 then 0 else if leap y then 1 else 2)
def num (y m d:Int):Int:=aheadY y+cumD y m+d
theorem Qc0 (y:Int):cumD y 1=0:=rfl
theorem Qak {y m:Int} (hy:goodY y) (hm:1<=m/\m<=12):cumD y (m+1)=cumD y m+dDays y m:=by
 unfold cumD dDays
 rw [if_neg (show ¬(¬goodY y\/m<1\/12<m) by omega)]
 have:m=1\/m=2\/m=3\/m=4\/m=5\/m=6\/m=7\/m=8\/m=9\/m=10\/m=11\/m=12:=by omega
 by_cases hl:leap y
 ·simp only [if_pos hl];rcases this with rfl|rfl|rfl|rfl|rfl|rfl|rfl|rfl|rfl|rfl|rfl|rfl<;>rfl
 ·simp only [if_neg hl];rcases this with rfl|rfl|rfl|rfl|rfl|rfl|rfl|rfl|rfl|rfl|rfl|rfl<;>rfl
theorem Qa8 (y:Int):aheadY (y+1)=aheadY y+cumD y 13:=by
 unfold aheadY cumD
 rw [if_neg (by decide)]
 by_cases hl:leap y
 ·rw [if_pos hl];omega
 ·rw [if_neg hl];omega
theorem Qbk {y y':Int} (h:y<=y'):aheadY y<=aheadY y':=by unfold aheadY;omega
theorem Qbu {y m m':Int} (h:m<=m') (h1:1<=m):cumD y m<=cumD y m':=by
 unfold cumD
 split<;>split<;>(try split)<;>omega
theorem Qhe {y m d y' m' d':Int} (h:right y m d) (h':right y' m' d') (hl:y<y'\/y=y'/\(m<m'\/m=m'/\d<d')):num y m d<num y' m' d':=by
 have g:=Q3 h
 have g':=Q3 h'
 unfold num
 rcases hl with hl|⟨rfl,hl|⟨rfl,hl⟩⟩
 ·have s1:=Qak g.1 ⟨g.2.1,g.2.2.1⟩
  have s2:=Qbu (y:=y) (m:=m+1) (m':=13) (by omega) (by omega)
  have s3:=Qa8 y
  have s4:=Qbk (y:=y+1) (y':=y') (by omega)
  have s5:=Qbu (y:=y') (m:=1) (m':=m') (by omega) (by omega)
  rw [Qc0] at s5
  omega
 ·have s1:=Qak g.1 ⟨g.2.1,g.2.2.1⟩
  have s2:=Qbu (y:=y) (m:=m+1) (m':=m') (by omega) (by omega)
  omega
 ·omega
theorem Qwn {y:Int} (h:-20000<=y/\y<=20000) (h1:1<=y):z97.F y=some (aheadY y):=by
 unfold z97.F aheadY
 rw [Qc (n:=y-1) (by omega) (by omega),W1 (by omega),W1 (by omega),W1 (by omega)]
 rw [Qc (n:=365*(y-1)) (by omega) (by omega),Qc (n:=(y-1)/4) (by omega) (by omega),Qc (n:=(y-1)/100) (by omega) (by omega),Qc (n:=(y-1)/400) (by omega) (by omega)]
 rw [Qc (n:=365*(y-1)+(y-1)/4) (by omega) (by omega),Qc (n:=365*(y-1)+(y-1)/4-(y-1)/100) (by omega) (by omega),Qc (by omega) (by omega)]
theorem Jz {y:Int} (h:1<=y/\y<=20000):0<=aheadY y/\aheadY y<=8000000:=by unfold aheadY;omega
theorem Qk2 {y m:Int} (h:1<=m/\m<=13):0<=cumD y m/\cumD y m<=366:=by
 unfold cumD;split
 ·omega
 ·split<;>omega
theorem Qnq {y:Int} (hy:goodY y):∀(f:Nat) (n k m:Int),1<=k->k+f=m->m<=12->0<=n/\n<=10000000-40*f ->
  Runs (λrec x=>z98.l0P y m rec some x) (n,k) (n+cumD y m-cumD y k,m)
 |
  0,n,k,m,h1,hk,hm,hn=>by
  have:k=m:=by omega
  subst this
  refine .done λrec=>?_
  unfold z98.l0P
  simp only
  rw [Qa (by omega)];congr 2;omega
 |
  f+1,n,k,m,h1,hk,hm,hn=>by
  have hd:=Qdz y k
  have ih:=Qnq hy f (n+dDays y k) (k+1) m (by omega) (by omega) hm (by omega)
  have e:n+dDays y k+cumD y m-cumD y (k+1)=n+cumD y m-cumD y k:=by rw [Qak hy (by omega)];omega
  rw [e] at ih
  refine .step (λrec=>?_) ih
  unfold z98.l0P
  simp only
  rw [bif_t (by omega),date_Days]
  simp only [Zb]
  rw [Qc (by omega) (by omega),Qc (by omega) (by omega)]
theorem Qld {y m d:Int} (h:right y m d):1<=num y m d/\num y m d<=3652059:=by
 have g:=Q3 h
 have s1:=Qak g.1 ⟨g.2.1,g.2.2.1⟩
 have s2:=Qbu (y:=y) (m:=m+1) (m':=13) (by omega) (by omega)
 have s3:=Qa8 y
 have s4:=Qbk (y:=y+1) (y':=10000) (by omega)
 have s5:=Jz (y:=y) (by omega)
 have s6:=Qk2 (y:=y) (m:=m) (by omega)
 have s7:aheadY 10000=3652059:=by decide
 unfold num;omega
theorem date_Number (y m d:Int):z98.F y m d=some (if right y m d then (num y m d,0) else (0,11)):=by
 unfold z98.F
 rw [date_Check]
 simp only [Zb]
 by_cases h:right y m d
 ·have g:=Q3 h
  have b:=Qld h
  have ha:=Jz (y:=y) (by omega)
  have r:=Qnq g.1 (m-1).toNat (aheadY y) 1 m (by omega) (by omega) (by omega) (by omega)
  have e:z98.l0 y m (aheadY y,(1:Int))=some (aheadY y+cumD y m-cumD y 1,m):=r.lfp
  rw [if_pos h,if_pos h]
  simp only [decide_true,Zn,Zc]
  rw [Qwn (by omega) (by omega)]
  simp only [Zb]
  rw [e]
  simp only [Zb]
  rw [Qc0,Int.sub_zero]
  have e2:aheadY y+cumD y m+d=num y m d:=rfl
  rw [e2,Qc (by omega) (by omega)]
 ·rw [if_neg h,if_neg h];rfl
def dcmp (a b c a' b' c':Int):Int:=if a<a' then -1 else if a'<a then 1 else if b<b' then -1 else if b'<b then 1 else if c<c' then -1 else if c'<c then 1 else 0
theorem or3 (x y z:Int):z95.F [x,y,z]=some (if x≠0 then x else if y≠0 then y else z):=by
 have e0:wr .i64 (0+1)=1:=by decide
 have e1:wr .i64 (1+1)=2:=by decide
 have e2:wr .i64 (2+1)=3:=by decide
 have r3:Runs (λrec i=>z95.l0P 0 [x,y,z] 3 rec some i) 3 (.inl 3):=.done λrec=>by unfold z95.l0P;rw [Qa (by decide)]
 have r2:Runs (λrec i=>z95.l0P 0 [x,y,z] 3 rec some i) 2 (if z≠0 then .inr z else .inl 3):=by
  by_cases h:z=0
  ·rw [if_neg (by omega)]
   refine .step (λrec=>?_) r3
   unfold z95.l0P
   rw [bif_t (by decide),if_pos (by simp),show [x,y,z].getD (Int.toNat 2) 0=z from rfl,Zt h,e2];rfl
  ·rw [if_pos h]
   refine .done λrec=>?_
   unfold z95.l0P
   rw [bif_t (by decide),if_pos (by simp),show [x,y,z].getD (Int.toNat 2) 0=z from rfl,Zf h];rfl
 have r1:Runs (λrec i=>z95.l0P 0 [x,y,z] 3 rec some i) 1 (if y≠0 then .inr y else if z≠0 then .inr z else .inl 3):=by
  by_cases h:y=0
  ·rw [if_neg (by omega)]
   refine .step (λrec=>?_) r2
   unfold z95.l0P
   rw [bif_t (by decide),if_pos (by simp),show [x,y,z].getD (Int.toNat 1) 0=y from rfl,Zt h,e1];rfl
  ·rw [if_pos h]
   refine .done λrec=>?_
   unfold z95.l0P
   rw [bif_t (by decide),if_pos (by simp),show [x,y,z].getD (Int.toNat 1) 0=y from rfl,Zf h];rfl
 have r0:Runs (λrec i=>z95.l0P 0 [x,y,z] 3 rec some i) 0 (if x≠0 then .inr x else if y≠0 then .inr y else if z≠0 then .inr z else .inl 3):=by
  by_cases h:x=0
  ·rw [if_neg (by omega)]
   refine .step (λrec=>?_) r1
   unfold z95.l0P
   rw [bif_t (by decide),if_pos (by simp),show [x,y,z].getD (Int.toNat 0) 0=x from rfl,Zt h,e0];rfl
  ·rw [if_pos h]
   refine .done λrec=>?_
   unfold z95.l0P
   rw [bif_t (by decide),if_pos (by simp),show [x,y,z].getD (Int.toNat 0) 0=x from rfl,Zf h];rfl
 have e:z95.l0 0 [x,y,z] 3 0=_:=r0.lfp
 unfold z95.F
 show ((z95.l0 0 [x,y,z] 3 0).bind _)=_
 rw [e]
 simp only [Zb]
 by_cases hx:x=0<;>by_cases hy:y=0<;>by_cases hz:z=0<;>simp [hx,hy,hz]
theorem date_Cmp (a b c a' b' c':Int):z96.F a b c a' b' c'=some (dcmp a b c a' b' c'):=by
 unfold z96.F
 rw [Qdf]
 simp only [Zb]
 rw [Qdf]
 simp only [Zb]
 rw [Qdf]
 simp only [Zb]
 rw [or3]
 simp only [Zb]
 congr 1
 unfold cmpI dcmp
 rcases Int.lt_trichotomy a a' with h|h|h<;>rcases Int.lt_trichotomy b b' with g|g|g<;>rcases Int.lt_trichotomy c c' with k|k|k <;>
  (repeat' split)<;>omega
theorem Qs3 {y m d y' m' d':Int} (h:right y m d) (h':right y' m' d'):dcmp y m d y' m' d'=cmpI (num y m d) (num y' m' d'):=by
 by_cases e:y=y'/\m=m'/\d=d'
 ·obtain ⟨rfl,rfl,rfl⟩:=e
  unfold dcmp cmpI;simp
 ·by_cases hl:y<y'\/y=y'/\(m<m'\/m=m'/\d<d')
  ·have:=Qhe h h' hl
   rw [show cmpI (num y m d) (num y' m' d') = -1 from by unfold cmpI;rw [if_pos this]]
   unfold dcmp
   (repeat' split)<;>omega
  ·have:=Qhe h' h (by omega)
   rw [show cmpI (num y m d) (num y' m' d')=1 from by unfold cmpI;rw [if_neg (by omega),if_neg (by omega)]]
   unfold dcmp
   (repeat' split)<;>omega
theorem Qnn {s:J1} (h:Qs s):sz (tv 0 s).toNat<=s.length:=sz_le (by have:=Yx h;omega)
theorem Qu1 (s:J1):sz (mDigits s).1<=4096:=by
 have h0:sz 0<=4096:=by rw [Jl];omega
 unfold mDigits
 split
 ·exact h0
 ·split
  ·rename_i h1 h2
   unfold numOK at h2
   simp only [Bool.and_eq_true] at h2
   have:=Qnn (Y2.1 h2.1.2)
   show sz (tv 0 s).toNat<=4096
   omega
  ·exact h0
theorem Qk6 (s:J1):sz (mWhole s).1.natAbs<=4096:=by
 have h:=Qu1 (cutNeg s).1
 have h0:sz 0<=4096:=by rw [Jl];omega
 unfold mWhole
 split
 ·exact h0
 ·split
  ·exact h0
  ·show sz (if _ then _ else _:Int).natAbs<=_
   split
   ·rw [Int.natAbs_neg];exact h
   ·exact h
def mMoney (s:J1):Int×Int:=
 if (mWhole s).2≠0 then (0,(mWhole s).2) else if (mWhole s).1<0\/10^30<(mWhole s).1 then (0,19) else ((mWhole s).1,0)
theorem terms_greatest:z45.F=some (lb (Int.natAbs (10^30)),neg (10^30)):=by
 unfold z45.F
 have h:=digits_Ten (t:=30) (by decide)
 rw [show ((30:Nat):Int)=30 from rfl] at h
 rw [h]
 simp only [Zb]
 rw [W9 (z:=10^30) (by decide) (.inr ⟨rfl,by decide⟩)]
 rfl
theorem terms_Money (s:J1):z46.F s=some (lb (mMoney s).1.natAbs,neg (mMoney s).1,(mMoney s).2):=by
 have hz:=Qk6 s
 unfold z46.F mMoney
 rw [whole_Parse]
 simp only [Zb]
 generalize mWhole s=w at *
 have hn:lb (Int.natAbs 0)=[]:=lb_zero
 by_cases h:w.2=0
 ·rw [Zt h,if_neg (by omega)]
  simp only [Zn,Zc]
  rw [Yf]
  simp only [Zb]
  by_cases h1:w.1<0
  ·rw [bif_t (Wy.2 h1),if_pos (.inl h1),hn];rfl
  ·rw [Qa (λh=>h1 (Wy.1 h)),terms_greatest]
   simp only [Zb]
   have l1:=Qh w.1.natAbs
   have l2:(lb (Int.natAbs (10^30))).length<=31:=Nat.le_trans (Qh _) (sz_le (by decide))
   have l3:sz w.1.natAbs<=4096:=hz
   rw [Qi2 (by omega)]
   simp only [Zb]
   by_cases h2:10^30<w.1
   ·rw [bif_t (Wv.2 h2),if_pos (.inr h2),hn];rfl
   ·rw [Qa (λh=>h2 (Wv.1 h)),if_neg (by omega)]
 ·rw [Zf h,if_pos h,hn];rfl
theorem Qg1 (s:J1):(mDec s).2.1<=64/\sz (mDec s).1.natAbs<=4096:=by
 have h0:sz (Int.natAbs 0)<=4096:=by show sz 0<=4096;rw [Jl];omega
 unfold mDec
 split
 ·exact ⟨Nat.zero_le _,h0⟩
 ·rename_i hl
  have hc:=Ql8 s
  generalize (cutNeg s).1=t at *
  unfold Jc
  split
  ·exact ⟨Nat.zero_le _,h0⟩
  ·rename_i hp
   split
   ·exact ⟨Nat.zero_le _,h0⟩
   ·split
    ·exact ⟨Nat.zero_le _,h0⟩
    ·rename_i h64
     refine ⟨by show List.length _<=64;omega,?_⟩
     have hd:Qs ((cutDot t).1++(cutDot t).2.getD [])/\((cutDot t).1++(cutDot t).2.getD []).length<=4096:=by
      simp only [Bool.or_eq_true,not_or,Bool.not_eq_true',Bool.not_eq_false,Bool.and_eq_true] at hp
      obtain ⟨⟨p1,p2⟩,p3⟩:=hp
      have q1:=(Qdi (by simpa using p1)).1
      cases ho:(cutDot t).2 with
      |
       none=>
       have:=Qer ho
       simp only [Option.getD_none,List.append_nil]
       exact ⟨q1,by rw [this];omega⟩
      |
       some b=>
       have:=Qef ho
       rw [ho] at p2
       have q2:=(Qdi (s:=b) (by simpa using p2)).1
       simp only [Option.getD_some]
       refine ⟨λx hx=>(List.mem_append.1 hx).elim (q1 x) (q2 x),?_⟩
       have hlen:t.length=(cutDot t).1.length+(b.length+1):=by
        conv=>lhs;rw [this]
        simp
       rw [List.length_append];omega
     have h1:=Nat.le_trans (Qnn hd.1) hd.2
     have h2:=(Yx hd.1).1
     show sz (if _ then _ else _:Int).natAbs<=_
     have e:∀z:Int,0<=z->z.natAbs=z.toNat:=λz hz=>by omega
     split
     ·rw [Int.natAbs_neg,e _ h2];exact h1
     ·rw [e _ h2];exact h1
theorem dec_ten {t:Nat} (ht:t<=4096):z55.F (t:Int)=some (lb (10^t:Nat),false):=by
 unfold z55.F
 rw [digits_Ten ht]
 simp only [Zb]
 rw [whole_Of];rfl
theorem Qls {t:Nat} (ht:t<=4096):z55.F (t:Int)=some (lb ((10^t:Nat):Int).natAbs,neg ((10^t:Nat):Int)):=by
 rw [dec_ten ht]
 have:neg ((10^t:Nat):Int)=false:=Zf (Int.not_lt.2 (Int.natCast_nonneg _))
 rw [this];rfl
theorem Qb7 (t:Nat):sz (10^t)<=t+1:=sz_le (by rw [Nat.pow_succ];have:0<10^t:=Nat.pow_pos (by decide);omega)
theorem Qn3 {c:Int} {s t:Nat} (h:s<=t) (ht:t<=4096) (hc:sz c.natAbs<=100000000):z56.F (lb c.natAbs) (neg c) (s:Int) (t:Int)=some (lb (c*(10^(t-s):Nat)).natAbs,neg (c*(10^(t-s):Nat))):=by
 have l1:=Qh c.natAbs
 have l2:=Qh ((10^(t-s):Nat):Int).natAbs
 have l3:=Qb7 (t-s)
 have l4:sz ((10^(t-s):Nat):Int).natAbs=sz (10^(t-s)):=rfl
 unfold z56.F
 rw [Qc (by omega) (by omega),show (t:Int)-s=((t-s:Nat):Int) by omega,Qls (by omega)]
 simp only [Zb]
 rw [Y9 (by omega)]
 rfl
theorem Qu2 {c c':Int} {s s':Nat} (hs:s<=2000) (hs':s'<=2000) (hc:sz c.natAbs<=100000000) (hc':sz c'.natAbs<=100000000) :
  z57.F (lb c.natAbs) (neg c) (s:Int) (lb c'.natAbs) (neg c') (s':Int)=some (cmpI (c*(10^(max s s'-s):Nat)) (c'*(10^(max s s'-s'):Nat))):=by
 have e:(if (s':Int)>(s:Int) then (s':Int) else (s:Int))=((max s s':Nat):Int):=by split<;>omega
 have m1:=Q1 c.natAbs (10^(max s s'-s))
 have m2:=Q1 c'.natAbs (10^(max s s'-s'))
 have t1:=Qb7 (max s s'-s)
 have t2:=Qb7 (max s s'-s')
 have l1:=Qh (c*(10^(max s s'-s):Nat)).natAbs
 have l2:=Qh (c'*(10^(max s s'-s'):Nat)).natAbs
 have e1:(c*(10^(max s s'-s):Nat)).natAbs=c.natAbs*10^(max s s'-s):=by rw [Int.natAbs_mul];rfl
 have e2:(c'*(10^(max s s'-s'):Nat)).natAbs=c'.natAbs*10^(max s s'-s'):=by rw [Int.natAbs_mul];rfl
 have hc1:sz c.natAbs<=100000000:=hc
 have hc2:sz c'.natAbs<=100000000:=hc'
 rw [<-e1] at m1
 rw [<-e2] at m2
 unfold z57.F
 rw [e,Qn3 (by omega) (by omega) hc]
 simp only [Zb]
 rw [Qn3 (by omega) (by omega) hc']
 simp only [Zb]
 rw [Qi2 (by omega)]
 rfl
theorem Qa1 (n:Int) {d:Nat} (hd:0<d):(mkRat n d).num.natAbs<=n.natAbs:=by
 rw [Rat.num_mkRat,if_neg (by omega),Nat.gcd_comm]
 have hg:0<Nat.gcd n.natAbs d:=Nat.gcd_pos_of_pos_right _ hd
 rw [(Qi0 (Nat.gcd_dvd_left n.natAbs d) hg).1]
 exact Nat.div_le_self _ _
theorem Qaw (n:Int) {d:Nat} (hd:0<d):(mkRat n d).den<=d:=by
 rw [Rat.den_mkRat,if_neg (by omega)]
 exact Nat.div_le_self _ _
theorem Qqx {M:Nat} (hD:Qay M) {c:Int} {s:Nat} (hs:s<=4096) (hc:c.natAbs<=M) (hM:10^s<=M):z72.F (lb c.natAbs) (neg c) (s:Int)=some (fr (mkRat c (10^s))):=by
 have hp:0<10^s:=Nat.pow_pos (by decide)
 have l:=Qb7 s
 unfold z72.F
 rw [Qls hs]
 simp only [Zb]
 rw [frac_Of (num:=c) (den:=((10^s:Nat):Int)) hD (by exact_mod_cast (Nat.ne_of_gt hp)) hc (by show 10^s<=M;exact hM) (by show sz (10^s)<=_;omega),Rat.divInt_ofNat]
 rfl
def mRate (s:J1):Rat×Int:=
 if (mDec s).2.2≠0 then (0,(mDec s).2.2)
 else if (mDec s).1<0\/1000*(10^(mDec s).2.1:Nat)<(mDec s).1\/12<(mDec s).2.1 then (0,18)
 else (mkRat (mDec s).1 (10^(mDec s).2.1)/100,0)
theorem Qtm:fr 0=([],false,[]):=by
 show (lb 0,neg 0,lb 0)=_
 rw [lb_zero];rfl
theorem Qd3 (e:Int):some (([]:J0),false,([]:J0),e)=some ((fr (0:Rat)).1,(fr (0:Rat)).2.1,(fr (0:Rat)).2.2,e):=by
 rw [Qtm]
theorem Qs7:fr 100=(lb (Int.natAbs 100),neg 100,[]):=by
 show (lb 100,neg 100,lb 0)=_
 rw [lb_zero];rfl
theorem Qm1:Qay 1000000000000000000:=λx y hx hy h0=>Qv0 (by omega) h0
theorem terms_Rate (s:J1):z76.F s=some ((fr (mRate s).1).1,(fr (mRate s).1).2.1,(fr (mRate s).1).2.2,(mRate s).2):=by
 obtain ⟨hb1,hb2⟩:=Qg1 s
 unfold z76.F mRate
 rw [dec_Parse]
 simp only [Zb,decR]
 generalize mDec s=d at *
 obtain ⟨c,sc,e⟩:=d
 simp only at *
 have hcz:sz c.natAbs<=4096:=hb2
 by_cases h:e=0
 ·rw [Zt h,if_neg (by omega)]
  simp only [Zn,Zc]
  rw [whole_From (by omega)]
  simp only [Zb]
  have ho:z52.F (lb (Int.natAbs 1000)) (neg 1000) 0=some (lb (Int.natAbs 1000),neg 1000,0,0):=rfl
  rw [ho]
  simp only [Zb]
  unfold z53.F z58.F
  simp only [Zb]
  rw [Yf]
  simp only [Zb]
  by_cases h1:c<0
  ·rw [bif_t (Wy.2 h1),if_pos (.inl h1)];exact Qd3 18
  ·rw [Qa (λh=>h1 (Wy.1 h))]
   have hk:sz (Int.natAbs 1000)<=4:=sz_le (by decide)
   have hcmp:=Qu2 (c:=c) (c':=1000) (s:=sc) (s':=0) (by omega) (by omega) (by omega) (by omega)
   rw [show ((0:Nat):Int)=0 from rfl] at hcmp
   rw [hcmp]
   simp only [Zb,Nat.max_zero,Nat.sub_self,Nat.pow_zero,Nat.sub_zero,Int.natCast_one,Int.mul_one]
   by_cases h2:1000*((10^sc:Nat):Int)<c
   ·rw [bif_t (Wv.2 h2),if_pos (.inr (.inl h2))];exact Qd3 18
   ·rw [Qa (λh=>h2 (Wv.1 h))]
    by_cases h3:12<sc
    ·rw [bif_t (by omega),if_pos (.inr (.inr h3))];exact Qd3 18
    ·rw [Qa (by omega),if_neg (by omega)]
     have hp12:10^sc<=10^12:=Nat.pow_le_pow_right (by decide) (by omega)
     have hp0:0<10^sc:=Nat.pow_pos (by decide)
     have n1:=Qa1 c hp0
     have n2:=Qaw c hp0
     have hd0:=(mkRat c (10^sc)).den_pos
     unfold z76.j8
     rw [Qqx Qm1 (by omega) (by omega) (by omega)]
     simp only [Zb]
     rw [whole_From (by omega)]
     simp only [Zb]
     have hf:z47.F (lb (Int.natAbs 100)) (neg 100)=some (fr 100):=by rw [Qs7];rfl
     rw [hf]
     simp only [Zb]
     generalize mkRat c (10^sc)=q at *
     have hq:=Qm8 Qm1 (q:=q) (r:=100) (by decide)
      (by rw [show (100:Rat).den=1 from rfl];simp;omega)
      (by rw [show (100:Rat).num=100 from rfl,Int.natAbs_mul];show q.den*100<=_;omega)
      (by
        rw [show (100:Rat).den=1 from rfl]
        have a1:sz q.num.natAbs<=20:=sz_le (by omega)
        have a2:sz 1<=1:=sz_le (by decide)
        omega)
      (by
        rw [show (100:Rat).num=100 from rfl]
        have a1:sz q.den<=20:=sz_le (by omega)
        have a2:sz (Int.natAbs 100)<=3:=sz_le (by decide)
        omega)
     rw [hq]
     rfl
 ·rw [Zf h,if_pos h];exact Qd3 e
structure Tm where
 p:List UInt8
 r:List UInt8
 kind:Int
 basis:Int
 mode:Int
 y:Int
 m:Int
 d:Int
 every:Int
 count:Int
abbrev Qai (e:Int):Prop:=e=1\/e=2\/e=3\/e=4\/e=6\/e=12
abbrev kindsOK (t:Tm):Prop:=(0<=t.kind/\t.kind<=2)/\(0<=t.basis/\t.basis<=2)/\(0<=t.mode/\t.mode<=4)/\Qai t.every
def mCheck (t:Tm):Int:=
 if (mMoney t.p).2≠0 then (mMoney t.p).2 else if (mMoney t.p).1=0 then 19 else if (mRate t.r).2≠0 then (mRate t.r).2
 else if ¬kindsOK t then 2 else if t.count<1\/1200<t.count then 6 else if right t.y t.m t.d/\okM t.y t.m (t.every*t.count) then 0 else 11
theorem terms_Word (k:Int):∃w,z78.F k=some w/\decide (w=[])=decide (¬(0<=k/\k<=2)):=by
 unfold z78.F
 by_cases h:k<0
 ·rw [bif_t h];exact ⟨_,rfl,by simp;omega⟩
 ·rw [Qa h]
  by_cases h':k>=3
  ·rw [bif_t h'];exact ⟨_,rfl,by simp;omega⟩
  ·rw [Qa h']
   have:k=0\/k=1\/k=2:=by omega
   rcases this with rfl|rfl|rfl<;>exact ⟨_,rfl,rfl⟩
theorem Qu8 (k:Int):∃w,z84.F k=some w/\decide (w=[])=decide (¬(0<=k/\k<=2)):=by
 unfold z84.F z82.F
 by_cases h:k>=0
 ·rw [bif_t h]
  by_cases h':k<3
  ·have:k=0\/k=1\/k=2:=by omega
   rcases this with rfl|rfl|rfl<;>exact ⟨_,rfl,rfl⟩
  ·rw [Zf h'];exact ⟨_,rfl,by simp;omega⟩
 ·rw [Qa h];exact ⟨_,rfl,by simp;omega⟩
theorem Qvy (k:Int):∃w,z81.F k=some w/\decide (w=[])=decide (¬(0<=k/\k<=4)):=by
 unfold z81.F z79.F
 by_cases h:k>=0
 ·rw [bif_t h]
  by_cases h':k<5
  ·have:k=0\/k=1\/k=2\/k=3\/k=4:=by omega
   rcases this with rfl|rfl|rfl|rfl|rfl<;>exact ⟨_,rfl,rfl⟩
  ·rw [Zf h'];exact ⟨_,rfl,by simp;omega⟩
 ·rw [Qa h];exact ⟨_,rfl,by simp;omega⟩
theorem Qu9 {e:Int} (h:1<=e) (h5:e≠5):Int.tmod 12 e=0↔Qai e:=by
 rw [Yv (by decide)]
 by_cases hb:12<e
 ·rw [Int.emod_eq_of_lt (by decide) hb];omega
 ·have:e=1\/e=2\/e=3\/e=4\/e=6\/e=7\/e=8\/e=9\/e=10\/e=11\/e=12:=by omega
  rcases this with rfl|rfl|rfl|rfl|rfl|rfl|rfl|rfl|rfl|rfl|rfl<;>decide
theorem terms_odd (t:Tm):z85.F t.p t.r t.kind t.basis t.mode t.y t.m t.d t.every t.count=some (decide (¬kindsOK t)):=by
 obtain ⟨w1,e1,d1⟩:=terms_Word t.kind
 obtain ⟨w2,e2,d2⟩:=Qu8 t.basis
 obtain ⟨w3,e3,d3⟩:=Qvy t.mode
 unfold z85.F
 rw [e1]
 simp only [Zb]
 rw [d1]
 by_cases h1:0<=t.kind/\t.kind<=2
 ·rw [Qa (λhh=>hh h1),e2]
  simp only [Zb]
  rw [d2]
  by_cases h2:0<=t.basis/\t.basis<=2
  ·rw [Qa (λhh=>hh h2),e3]
   simp only [Zb]
   rw [d3]
   by_cases h3:0<=t.mode/\t.mode<=4
   ·rw [Qa (λhh=>hh h3)]
    by_cases h4:t.every<1
    ·rw [bif_t h4];congr 1;symm;exact Zt (by omega)
    ·rw [Qa h4]
     by_cases h5:t.every=5
     ·rw [bif_t h5];congr 1;symm;exact Zt (by omega)
     ·rw [Qa h5,if_neg (by omega)]
      congr 1
      have:=Qu9 (e:=t.every) (by omega) h5
      rw [<-decide_not]
      exact decide_eq_decide.2 (by omega)
   ·rw [bif_t h3];congr 1;symm;exact Zt (by omega)
  ·rw [bif_t h2];congr 1;symm;exact Zt (by omega)
 ·rw [bif_t h1];congr 1;symm;exact Zt (by omega)
theorem Qfk {e c:Int} (he:Qai e) (hc:1<=c/\c<=1200):1<=e*c/\e*c<=14400:=by
 rcases he with rfl|rfl|rfl|rfl|rfl|rfl<;>omega
theorem terms_Check (t:Tm):z91.F t.p t.r t.kind t.basis t.mode t.y t.m t.d t.every t.count=some (mCheck t):=by
 unfold z91.F mCheck
 rw [terms_Money]
 simp only [Zb]
 by_cases h1:(mMoney t.p).2=0
 ·rw [Zt h1,if_neg (by omega)]
  simp only [Zn,Zc]
  rw [Yf]
  simp only [Zb]
  by_cases h2:(mMoney t.p).1=0
  ·rw [bif_t (Jt.2 h2),if_pos h2]
  ·rw [Qa (λh=>h2 (Jt.1 h)),if_neg h2,terms_Rate]
   simp only [Zb]
   by_cases h3:(mRate t.r).2=0
   ·rw [Zt h3,if_neg (by omega)]
    simp only [Zn,Zc]
    rw [terms_odd]
    simp only [Zb]
    by_cases h4:kindsOK t
    ·rw [Qa (λhh=>hh h4),if_neg (λhh=>hh h4)]
     by_cases h5:t.count<1
     ·rw [bif_t h5,if_pos (.inl h5)]
     ·rw [Qa h5]
      by_cases h6:t.count>1200
      ·rw [bif_t h6,if_pos (.inr h6)]
      ·have hb:=Qfk (e:=t.every) (c:=t.count) h4.2.2.2 (by omega)
       rw [Qa h6,if_neg (by omega),Qc (by omega) (by omega),month_Add]
       simp only [Zb]
       by_cases h7:right t.y t.m t.d/\okM t.y t.m (t.every*t.count)
       ·rw [if_pos h7,if_pos h7]
       ·rw [if_neg h7,if_neg h7]
    ·rw [bif_t h4,if_pos h4]
   ·rw [Zf h3,if_pos h3];rfl
 ·rw [Zf h1,if_pos h1];rfl
theorem Qid {a b:Int} (hb:0<b):(Int.tmod a b<0->Int.tmod a b+b=a%b)/\(¬Int.tmod a b<0->Int.tmod a b=a%b)/\-b<Int.tmod a b/\Int.tmod a b<b:=by
 have h1:=Int.emod_nonneg a (show b≠0 by omega)
 have h2:=Int.emod_lt_of_pos a hb
 have h3:=Int.tmod_eq_emod (a:=a) (b:=b)
 by_cases h:0<=a\/b∣a
 ·rw [if_pos h] at h3;omega
 ·rw [if_neg h] at h3
  have:a%b≠0:=λe=>h (.inr (Int.dvd_of_emod_eq_zero e))
  omega
theorem Qp7 {a b c n:Int} (hn:1<=n/\n<=9999):∃y m d,z12.F a b c n=some (y,m,d)/\right y m d/\y<=n:=by
 have f1:=Qid (a:=a) (b:=n) (by omega)
 have f2:=Qid (a:=b) (b:=12) (by omega)
 have m1:=Int.emod_nonneg a (show n≠0 by omega)
 have m2:=Int.emod_lt_of_pos a (show 0<n by omega)
 have hd:=Qjd (y:=a%n+1) (m:=b%12+1) (by omega) (by omega)
 have hd':=Qdz (a%n+1) (b%12+1)
 have f3:=Qid (a:=c) (b:=dDays (a%n+1) (b%12+1)) (by omega)
 have m5:=Int.emod_nonneg c (show dDays (a%n+1) (b%12+1)≠0 by omega)
 have m6:=Int.emod_lt_of_pos c (show 0<dDays (a%n+1) (b%12+1) by omega)
 refine ⟨a%n+1,b%12+1,c%dDays (a%n+1) (b%12+1)+1,?_,⟨by omega,by omega⟩,by omega⟩
 have hj8:∀j,j=b%12->Int.tmod a n=a%n->z12.j8 a n j c=some (a%n+1,b%12+1,c%dDays (a%n+1) (b%12+1)+1):=λj hj ht=>by
  subst hj
  unfold z12.j8
  rw [ht,Qc (n:=a%n+1) (by omega) (by omega),Qc (n:=b%12+1) (by omega) (by omega),Qck]
  simp only [Zb]
  rw [if_neg (by omega)]
  generalize dDays (a%n+1) (b%12+1)=k at *
  by_cases h:Int.tmod c k<0
  ·rw [bif_t h,Qc (n:=Int.tmod c k+k) (by omega) (by omega),f3.1 h,Qc (by omega) (by omega)]
  ·rw [Qa h,f3.2.1 h,Qc (by omega) (by omega)]
 have hj5:∀j,j=b%12->Int.tmod a n<0->z12.j5 a n j c=some (a%n+1,b%12+1,c%dDays (a%n+1) (b%12+1)+1):=λj hj ht=>by
  subst hj
  unfold z12.j5 z12.j7
  rw [Qc (n:=Int.tmod a n+n) (by omega) (by omega),f1.1 ht,Qc (n:=a%n+1) (by omega) (by omega),Qc (n:=b%12+1) (by omega) (by omega),Qck]
  simp only [Zb]
  rw [if_neg (by omega)]
  generalize dDays (a%n+1) (b%12+1)=k at *
  by_cases h:Int.tmod c k<0
  ·rw [bif_t h,Qc (n:=Int.tmod c k+k) (by omega) (by omega),f3.1 h,Qc (by omega) (by omega)]
  ·rw [Qa h,f3.2.1 h,Qc (by omega) (by omega)]
 unfold z12.F
 rw [if_neg (by omega)]
 by_cases h1:Int.tmod a n<0
 ·rw [bif_t h1]
  by_cases h2:Int.tmod b 12<0
  ·rw [bif_t h2,Qc (by omega) (by omega),f2.1 h2];exact hj5 _ rfl h1
  ·rw [Qa h2,f2.2.1 h2];exact hj5 _ rfl h1
 ·rw [Qa h1]
  by_cases h2:Int.tmod b 12<0
  ·rw [bif_t h2,Qc (by omega) (by omega),f2.1 h2];exact hj8 _ rfl (f1.2.1 h1)
  ·rw [Qa h2,f2.2.1 h2];exact hj8 _ rfl (f1.2.1 h1)
theorem Qwt (n:Nat):numOK (txt n)=true:=by
 unfold numOK
 rw [Zf (Qqn n),Y2.2 (Qhl n)]
 by_cases h:n=0
 ·subst h;rfl
 ·obtain ⟨b,s,e,hb⟩:=Qlq h
  rw [e]
  have:((b::s).getD 0 0).toNat=b.toNat:=rfl
  rw [this,Zf hb];simp
theorem Qvb {s:J1} (h:Qs s):cutNeg s=(s,false):=by
 unfold cutNeg
 cases s with
 |nil=>rfl
 |
  cons b t=>
  have hb:=h b (by simp)
  unfold digit at hb
  simp only
  rw [if_neg]
  rintro rfl
  simp at hb
theorem Qx2 {n:Nat} (h:(txt n).length<=4096):mWhole (txt n)=((n:Int),0):=by
 have hd:mDigits (txt n)=(n,0):=by
  unfold mDigits
  rw [if_neg (by omega),if_pos (Qwt n),Qlv,Zi]
 unfold mWhole
 rw [Qvb (Qhl n)]
 simp only [hd]
 rw [if_neg (by simp),if_neg (by simp)]
 rfl
theorem Qxs {n:Nat} (h:n<=10^30):mMoney (txt n)=((n:Int),0):=by
 unfold mMoney
 have hl:(txt n).length<=31:=Qbw (by omega) (by decide)
 rw [Qx2 (by omega)]
 have e:(10:Int)^30=((10^30:Nat):Int):=rfl
 rw [if_neg (by simp),if_neg (by rw [e];omega)]
theorem Qvh (s:J1) (k:Nat) (hk:k<=1000000000):∀(f:Nat),k+1-s.length=f->Runs (λrec x=>z17.l0P (k:Int) rec some x) s (List.replicate f 48++s):=by
 intro f
 induction f generalizing s with
 |
  zero=>
  intro h
  refine .done λrec=>?_
  unfold z17.l0P
  rw [Qa (by omega)];rfl
 |
  succ f ih=>
  intro h
  have:=ih (48::s) (by simp;omega)
  have e:List.replicate f (48:UInt8)++48::s=List.replicate (f+1) 48++s:=by
   rw [List.replicate_succ',List.append_assoc];rfl
  rw [e] at this
  refine .step (λrec=>?_) this
  unfold z17.l0P
  rw [bif_t (by omega),if_pos (by simp;omega)]
  rfl
def padded (n k:Nat):J1:=List.replicate (k+1-(txt n).length) 48++txt n
theorem Qo4 (n k:Nat):k<(padded n k).length/\(padded n k).length<=k+1+(txt n).length:=by unfold padded;rw [List.length_append,List.length_replicate];omega
theorem Qs2 (n k:Nat):Qs (padded n k):=λb hb=>by
 rcases List.mem_append.1 hb with h|h
 ·rw [List.eq_of_mem_replicate h];unfold digit;decide
 ·exact Qhl n b h
theorem Qqh (f:Nat) (s:J1):tv 0 (List.replicate f 48++s)=tv 0 s:=by
 induction f with
 |zero=>rfl
 |succ f ih=>rw [List.replicate_succ,List.cons_append];exact ih
theorem Quz (n k:Nat):tv 0 (padded n k)=n:=by unfold padded;rw [Qqh,Qlv]
def decTxt (n k:Nat):J1:=(padded n k).take ((padded n k).length-k)++46::(padded n k).drop ((padded n k).length-k)
theorem Qsh {n k:Nat} (hk:0<k/\k<=1000000) (hn:4*(dg n).length<=1000000000) (hl:(txt n).length<=100000000):z17.F (dg n) false (k:Int)=some (decTxt n k):=by
 have r:=Qvh (txt n) k (by omega) _ rfl
 have e:z17.l0 (k:Int) (txt n)=some (padded n k):=r.lfp
 have pl:=Qo4 n k
 unfold z17.F
 rw [Qkj hn]
 simp only [Zb]
 rw [e]
 simp only [Zb]
 have ew:wr .i64 (((padded n k).length:Int)-(k:Int))=(((padded n k).length-k:Nat):Int):=by rw [Qc (by omega) (by omega)];omega
 rw [bif_t (by omega),ew,if_pos (by omega),if_pos (by simp;omega),if_pos (by omega),if_pos (by simp;omega),Zi]
 unfold z17.j3 decTxt
 simp
theorem Qn5:∀{a:J1} (b:J1),Qs a->cutDot (a++46::b)=(a,some b)
 |[],b,_=>rfl
 |
  x::a,b,h=>by
  have hx:=h x (by simp)
  have ih:=Qn5 (a:=a) b λy hy=>h y (by simp [hy])
  show cutDot (x::(a++46::b))=_
  unfold cutDot
  rw [if_neg (by rintro rfl;unfold digit at hx;simp at hx),ih]
theorem Qqo {n k:Nat} (hk:0<k/\k<=64) (hl:(txt n).length<=1000):mDec (decTxt n k)=((n:Int),k,0):=by
 have pl:=Qo4 n k
 have pd:=Qs2 n k
 have hda:Qs ((padded n k).take ((padded n k).length-k)):=λb hb=>pd b (List.mem_of_mem_take hb)
 have hdb:Qs ((padded n k).drop ((padded n k).length-k)):=λb hb=>pd b (List.mem_of_mem_drop hb)
 have la:((padded n k).take ((padded n k).length-k)).length=(padded n k).length-k:=by rw [List.length_take];omega
 have lb':((padded n k).drop ((padded n k).length-k)).length=k:=by rw [List.length_drop];omega
 have hcat:(padded n k).take ((padded n k).length-k)++(padded n k).drop ((padded n k).length-k)=padded n k:=List.take_append_drop _ _
 have hlead:(decide (1<((padded n k).take ((padded n k).length-k)).length)&&decide ((((padded n k).take ((padded n k).length-k)).getD 0 0).toNat=48))=false:=by
  by_cases h1:1<((padded n k).take ((padded n k).length-k)).length
  ·rw [la] at h1
   have h2:k+1<(padded n k).length:=by omega
   have h0:k+1-(txt n).length=0:=by
    unfold padded at h2
    rw [List.length_append,List.length_replicate] at h2;omega
   have e:padded n k=txt n:=by unfold padded;rw [h0];rfl
   have hn:n≠0:=by
    rintro rfl
    rw [e] at h2
    have:(txt 0).length=1:=rfl
    omega
   obtain ⟨b,s,ht,hb⟩:=Qlq hn
   rw [e,ht]
   have:(((b::s).take ((b::s).length-k)).getD 0 0).toNat=b.toNat:=by
    rw [e,ht] at h2
    have:(b::s).length-k=((b::s).length-k-1)+1:=by omega
    rw [this,List.take_succ_cons];rfl
   rw [this,Zf hb,Bool.and_false]
  ·rw [Zf h1,Bool.false_and]
 have hlen:(decTxt n k).length=(padded n k).length+1:=by
  unfold decTxt;rw [List.length_append,List.length_cons,la,lb'];omega
 have hneg:cutNeg (decTxt n k)=(decTxt n k,false):=by
  have hne:(padded n k).take ((padded n k).length-k)≠[]:=λh=>by rw [h] at la;simp at la;omega
  unfold decTxt
  cases hc:(padded n k).take ((padded n k).length-k) with
  |nil=>exact absurd hc hne
  |
   cons b t=>
   have hb:=hda b (by rw [hc];simp)
   unfold digit at hb
   unfold cutNeg
   simp only [List.cons_append]
   rw [if_neg (by rintro rfl;simp at hb)]
 have hpa:plainB ((padded n k).take ((padded n k).length-k))=true:=by
  unfold plainB;rw [Y2.2 hda,Zf (λh=>by rw [h] at la;simp at la;omega)];rfl
 have hpb:plainB ((padded n k).drop ((padded n k).length-k))=true:=by
  unfold plainB;rw [Y2.2 hdb,Zf (λh=>by rw [h] at lb';simp at lb';omega)];rfl
 unfold mDec
 rw [if_neg (by omega),hneg]
 have hcut:cutDot (decTxt n k)=((padded n k).take ((padded n k).length-k),some ((padded n k).drop ((padded n k).length-k))):=Qn5 _ hda
 rw [hcut]
 unfold Jc
 simp only [Option.isSome_some,Bool.true_and,Option.getD_some,hpa,hpb,hlead,Zn,Bool.or_false,Bool.false_and]
 rw [if_neg (by simp),if_neg (by simp),if_neg (by omega),hcat,Quz,lb',if_neg (by simp)]
theorem shr2 (a:Int):Int.fdiv a (2^(min 2 (64:Nat)))=a/4:=by
 rw [Int.fdiv_eq_ediv_of_nonneg _ (by decide)];rfl
theorem shr4 (a:Int):Int.fdiv a (2^(min 4 (64:Nat)))=a/16:=by
 rw [Int.fdiv_eq_ediv_of_nonneg _ (by decide)];rfl
theorem Qat {a b:Int} (ha:0<=a) (hb:0<b):Int.tmod a b=a%b/\0<=a%b/\a%b<b:=⟨Yv ha,Int.emod_nonneg a (by omega),Int.emod_lt_of_pos a hb⟩
structure Good (t:Tm) (most:Int):Prop where
 money:∃n:Nat,t.p=txt n/\0<n/\n<=10^30
 rate:∃n k:Nat,t.r=decTxt n k/\n<100000/\2<=k/\k<=8
 kinds:kindsOK t
 date:right t.y t.m t.d
 year:t.y<=9000
 count:1<=t.count/\t.count<=most
theorem Qxp {a0 a1 a2 a3 a4 a5 a6 a7 a8 a9 a10 a11 most:Int} (h0:0<=a0/\a0<18446744073709551616) (h1:0<=a1/\a1<65536) (h2:0<=a2/\a2<4294967296) (h3:0<=a3/\a3<256) (h4:0<=a4/\a4<256) (h5:0<=a5/\a5<256)
  (h6:0<=a6/\a6<256) (h7:0<=a7/\a7<256) (h8:0<=a8/\a8<256) (hm:1<=most/\most<=1000) :
  ∃t:Tm,Good t most/\z18.F a0 a1 a2 a3 a4 a5 a6 a7 a8 a9 a10 a11 most=some (t.p,t.r,t.kind,t.basis,t.mode,t.y,t.m,t.d,t.every,t.count):=by
 obtain ⟨y,m,d,ed,hd,hy⟩:=Qp7 (a:=a9) (b:=a10) (c:=a11) (n:=9000) (by omega)
 have w8:wr .i64 a8=a8:=Qc (by omega) (by omega)
 have t8:=Qat h8.1 (show (0:Int)<7 by decide)
 have t7:=Qat h7.1 (show 0<most by omega)
 have t6:=Qat h6.1 (show (0:Int)<5 by decide)
 have t5:=Qat h5.1 (show (0:Int)<3 by decide)
 have t4:=Qat h4.1 (show (0:Int)<3 by decide)
 have t3:=Qat h3.1 (show (0:Int)<7 by decide)
 have t2:=Qat h2.1 (show (0:Int)<100000 by decide)
 have hev:Qai ([(1:Int),(1:Int),(2:Int),(3:Int),(4:Int),(6:Int),(12:Int)].getD (a8%7).toNat 0):=by
  have:a8%7=0\/a8%7=1\/a8%7=2\/a8%7=3\/a8%7=4\/a8%7=5\/a8%7=6:=by omega
  rcases this with h|h|h|h|h|h|h<;>rw [h]<;>decide
 have hp:∀(x:Int) (p:J1),(∃n:Nat,p=txt n/\0<n/\n<=10^30)->Good ⟨p,decTxt (a2%100000).toNat (a3%7+2).toNat,a4%3,a5%3,a6%5,y,m,d,[(1:Int),(1:Int),(2:Int),(3:Int),(4:Int),(6:Int),(12:Int)].getD (a8%7).toNat 0,1+a7%most⟩ most:=λx p h=>{
  money:=h
  rate:=⟨_,_,rfl,by omega,by omega,by omega⟩
  kinds:=⟨by show 0<=a4%3/\a4%3<=2;omega,by show 0<=a5%3/\a5%3<=2;omega,by show 0<=a6%5/\a6%5<=4;omega,hev⟩
  date:=hd
  year:=hy
  count:=by show 1<=1+a7%most/\1+a7%most<=most;omega}
 have hrate:∀{α:Type} (f:J1->Option α),((z9.F (Int.tmod (wr .i64 a2) 100000)).bind λr7=>((z17.F r7.1 r7.2 (wr .i64 (Int.tmod (wr .i64 a3) 7+2))).bind λr8=>f r8))=f (decTxt (a2%100000).toNat (a3%7+2).toNat):=λf=>by
  rw [Qc (n:=a2) (by omega) (by omega),Qc (n:=a3) (by omega) (by omega),t2.1,t3.1,Qc (n:=a3%7+2) (by omega) (by omega),W2 (by omega)]
  simp only [Zb]
  have e1:neg (a2%100000)=false:=Zf (by omega)
  have e2:(a2%100000).natAbs=(a2%100000).toNat:=by omega
  have e3:a3%7+2=((a3%7+2).toNat:Int):=by omega
  have l1:(dg (a2%100000).toNat).length<=5:=W3 b4 (Nat.lt_of_lt_of_le (show (a2%100000).toNat<100000 by omega) (by decide))
  have l2:(txt (a2%100000).toNat).length<=5:=Qbw (show (a2%100000).toNat<10^5 by omega) (by decide)
  rw [e1,e2]
  conv=>lhs;rw [e3]
  rw [Qsh (by omega) (by omega) (by omega)]
  rfl
 have e11:((Int.natAbs 100000000000:Nat))=100000000000:=rfl
 unfold z18.F
 rw [w8,t8.1,if_pos ⟨t8.2.1,by simp;omega⟩,if_neg (by omega),ed]
 simp only [Zb]
 rw [shr2,shr4,Qc (n:=a0/4) (by omega) (by omega),Qc (n:=a0/4+1) (by omega) (by omega),Qc (n:=a0/16) (by omega) (by omega),Qc (n:=a0/16+1) (by omega) (by omega)]
 rw [Qc (n:=a4) (by omega) (by omega),Qc (n:=a5) (by omega) (by omega),Qc (n:=a6) (by omega) (by omega),Qc (n:=a7) (by omega) (by omega),t4.1,t5.1,t6.1,t7.1,Qc (n:=1+a7%most) (by omega) (by omega)]
 rw [W2 (z:=a0/4+1) (by omega)]
 simp only [Zb]
 by_cases hc:a1>60000
 ·rw [bif_t hc,W2 (by omega)]
  simp only [Zb]
  rw [W2 (by omega)]
  simp only [Zb]
  have g1:(dg (a0/16+1).natAbs).length<=20:=Nat.le_trans (Qo _) (sz_le (by omega))
  have g2:(dg (Int.natAbs 100000000000)).length<=20:=Nat.le_trans (Qo _) (sz_le (by decide))
  have hb:((a0/16+1)*100000000000).natAbs=(a0/16+1).toNat*100000000000:=by omega
  have g3:(dg ((a0/16+1)*100000000000).natAbs).length<=40:=Nat.le_trans (Qo _) (sz_le (by omega))
  have g4:(txt ((a0/16+1)*100000000000).natAbs).length<=40:=Qbw (by omega) (by decide)
  rw [Qel (by omega)]
  simp only [Zb]
  rw [Qiu (by omega) (by omega),if_neg (by omega)]
  simp only [Zb]
  refine ⟨_,hp 0 (txt ((a0/16+1)*100000000000).natAbs) ⟨_,rfl,by omega,by omega⟩,?_⟩
  rw [hrate]
 ·rw [Qa hc]
  have g3:(dg (a0/4+1).natAbs).length<=20:=Nat.le_trans (Qo _) (sz_le (by omega))
  have g4:(txt (a0/4+1).natAbs).length<=20:=Qbw (by omega) (by decide)
  rw [Qiu (by omega) (by omega),if_neg (by omega)]
  simp only [Zb]
  refine ⟨_,hp 0 (txt (a0/4+1).natAbs) ⟨_,rfl,by omega,by omega⟩,?_⟩
  rw [hrate]
theorem Good.moneyOK {t:Tm} {most:Int} (h:Good t most):(mMoney t.p).2=0/\(mMoney t.p).1≠0:=by
 obtain ⟨n,e,h1,h2⟩:=h.money
 rw [e,Qxs h2]
 exact ⟨rfl,by show (n:Int)≠0;omega⟩
theorem Good.rateOK {t:Tm} {most:Int} (h:Good t most):(mRate t.r).2=0:=by
 obtain ⟨n,k,e,h1,h2,h3⟩:=h.rate
 have hl:(txt n).length<=5:=Qbw (Nat.lt_of_lt_of_le h1 (by decide)) (by decide)
 have hk:10^2<=10^k:=Nat.pow_le_pow_right (by decide) h2
 rw [e]
 unfold mRate
 rw [Qqo (by omega) (by omega)]
 rw [if_neg (by simp),if_neg (by simp only;omega)]
theorem Good.check {t:Tm} {most:Int} (h:Good t most) (hm:t.every*t.count<=11000) (hc:most<=1200):mCheck t=0:=by
 have g:=Q3 h.date
 have hb:=Qfk h.kinds.2.2.2 (c:=t.count) ⟨h.count.1,by have:=h.count.2;omega⟩
 have hy:=h.year
 have hcc:=h.count
 unfold mCheck
 rw [if_neg (λhh=>hh h.moneyOK.1),if_neg h.moneyOK.2,if_neg (λhh=>hh h.rateOK),if_neg (λhh=>hh h.kinds),if_neg (by omega),if_pos ⟨h.date,by omega⟩]
abbrev D3:=Int×Int×Int
def dv (x:D3):List V:=[.int .i64 x.1,.int .i64 x.2.1,.int .i64 x.2.2]
def pv (x:D3×D3):List V:=[.int .i64 x.1.1,.int .i64 x.1.2.1,.int .i64 x.1.2.2,.int .i64 x.2.1,.int .i64 x.2.2.1,.int .i64 x.2.2.2]
abbrev rightD (x:D3):Prop:=right x.1 x.2.1 x.2.2
abbrev numD (x:D3):Int:=num x.1 x.2.1 x.2.2
theorem asD0 {R:Type} (x:D3) (K:Int->Option R):V.asInt .i64 ((dv x).getD 0 .undef) K=K x.1:=by simp [dv,V.asInt]
theorem asD1 {R:Type} (x:D3) (K:Int->Option R):V.asInt .i64 ((dv x).getD 1 .undef) K=K x.2.1:=by simp [dv,V.asInt]
theorem asD2 {R:Type} (x:D3) (K:Int->Option R):V.asInt .i64 ((dv x).getD 2 .undef) K=K x.2.2:=by simp [dv,V.asInt]
theorem asP0 {R:Type} (x:D3×D3) (K:Int->Option R):V.asInt .i64 ((pv x).getD 0 .undef) K=K x.1.1:=by simp [pv,V.asInt]
theorem asP1 {R:Type} (x:D3×D3) (K:Int->Option R):V.asInt .i64 ((pv x).getD 1 .undef) K=K x.1.2.1:=by simp [pv,V.asInt]
theorem asP2 {R:Type} (x:D3×D3) (K:Int->Option R):V.asInt .i64 ((pv x).getD 2 .undef) K=K x.1.2.2:=by simp [pv,V.asInt]
theorem asP3 {R:Type} (x:D3×D3) (K:Int->Option R):V.asInt .i64 ((pv x).getD 3 .undef) K=K x.2.1:=by simp [pv,V.asInt]
theorem asP4 {R:Type} (x:D3×D3) (K:Int->Option R):V.asInt .i64 ((pv x).getD 4 .undef) K=K x.2.2.1:=by simp [pv,V.asInt]
theorem asP5 {R:Type} (x:D3×D3) (K:Int->Option R):V.asInt .i64 ((pv x).getD 5 .undef) K=K x.2.2.2:=by simp [pv,V.asInt]
theorem Qar {α:Type} (f:α->List V) {l:List α} {i:Nat} (h:i<l.length):(l.map f).getD i []=f l[i]:=by
 simp [List.getD,h]
def Wj (y m d step:Int) (n:Nat):List D3:=(List.range n).map λk:Nat=>addM y m d ((k+1:Nat)*step)
theorem Qhk (y m d step:Int) (n:Nat):(Wj y m d step n).length=n:=by simp [Wj]
theorem Qev {y m d step:Int} {n i:Nat} (h:i<(Wj y m d step n).length):(Wj y m d step n)[i]=addM y m d ((i+1:Nat)*step):=by simp [Wj]
theorem Qk4 (y m d step:Int) (n:Nat):Wj y m d step (n+1)=Wj y m d step n++[addM y m d ((n+1:Nat)*step)]:=by
 unfold Wj;rw [List.range_succ,List.map_append];rfl
theorem Qh3 {y m k k':Int} (h:okM y m k) (h0:0<=k') (hk:k'<=k) (hm:12<=(12*y+m-1)):okM y m k':=by omega
theorem Qms {y m d step:Int} {n:Nat} (hr:right y m d) (hs:1<=step/\step<=12) (hn:n<=1200) (ho:okM y m (n*step)):∀(f k:Nat),k+f=n ->
  Runs (λrec x=>z92.l0P step (n:Int) y m d rec some x) (((k+1:Nat):Int),(Wj y m d step k).map dv) (.inl (((n+1:Nat):Int),(Wj y m d step n).map dv))
 |
  0,k,hk=>by
  have:k=n:=by omega
  subst this
  refine .done λrec=>?_
  unfold z92.l0P
  simp only
  rw [Qa (by omega)]
 |
  f+1,k,hk=>by
  have g:=Q3 hr
  have ih:=Qms hr hs hn ho f (k+1) (by omega)
  have hb:((k+1:Nat):Int)*step<=n*step:=Int.mul_le_mul_of_nonneg_right (by omega) (by omega)
  have hb0:0<=((k+1:Nat):Int)*step:=Int.mul_nonneg (by omega) (by omega)
  have hb1:(n:Int)*step<=1200*12:=Int.mul_le_mul (by omega) (by omega) (by omega) (by omega)
  refine .step (λrec=>?_) ih
  unfold z92.l0P
  simp only
  rw [bif_t (by omega),if_neg (by omega),Qc (n:=((k+1:Nat):Int)*step) (by omega) (by omega),month_Add,if_pos ⟨hr,Qh3 ho hb0 hb (by omega)⟩]
  simp only [Zb,decide_true,Zn,Zc]
  rw [if_pos (by rw [List.length_map,Qhk];simp;omega),Qc (by omega) (by omega),Qk4,List.map_append]
  rfl
theorem month_Series {y m d step:Int} {n:Nat} (hr:right y m d) (hs:1<=step/\step<=12) (hn:n<=1200) (ho:okM y m (n*step)):z92.F y m d step (n:Int)=some ((Wj y m d step n).map dv,0):=by
 have e:z92.l0 step (n:Int) y m d ((1:Int),[])=some (.inl (((n+1:Nat):Int),(Wj y m d step n).map dv)):=(Qms hr hs hn ho n 0 (by omega)).lfp
 unfold z92.F z92.j1
 rw [Qa (by omega),Qa (by omega),Qa (by omega),date_Check]
 simp only [Zb]
 rw [if_pos hr,e]
 rfl
def Tm.dates (t:Tm):List D3:=Wj t.y t.m t.d t.every t.count.toNat
theorem Ya {t:Tm} (h:mCheck t=0):kindsOK t/\(1<=t.count/\t.count<=1200)/\right t.y t.m t.d/\okM t.y t.m (t.every*t.count):=by
 unfold mCheck at h
 split at h
 ·exact absurd h ‹_›
 ·split at h
  ·simp at h
  ·split at h
   ·exact absurd h ‹_›
   ·split at h
    ·simp at h
    ·rename_i hk
     split at h
     ·simp at h
     ·split at h
      ·rename_i h5 h6
       exact ⟨Decidable.not_not.1 hk,by omega,h6.1,h6.2⟩
      ·simp at h
theorem Qbl {e:Int} (h:Qai e):1<=e/\e<=12:=by omega
theorem dues_Dates (t:Tm):z93.F t.p t.r t.kind t.basis t.mode t.y t.m t.d t.every t.count=some (if mCheck t=0 then (t.dates.map dv,0) else ([],mCheck t)):=by
 unfold z93.F
 rw [terms_Check]
 simp only [Zb]
 by_cases h:mCheck t=0
 ·obtain ⟨hk,hc,hr,ho⟩:=Ya h
  have he:=Qbl hk.2.2.2
  have ec:t.count=(t.count.toNat:Int):=by omega
  rw [Zt h,if_pos h]
  simp only [Zn,Zc]
  have hs:=month_Series (y:=t.y) (m:=t.m) (d:=t.d) (step:=t.every) (n:=t.count.toNat) hr he (by omega) (by rw [<-ec,Int.mul_comm];exact ho)
  rw [<-ec] at hs
  rw [hs];rfl
 ·rw [Zf h,if_neg h];rfl
def pairs (a:D3):List D3->List (D3×D3)
 |[]=>[]
 |b::l=>(a,b)::pairs b l
theorem Qlt:∀(a:D3) (l:List D3),(pairs a l).length=l.length
 |_,[]=>rfl
 |a,b::l=>by simp [pairs,Qlt b l]
theorem Qog {l:List D3} (hl:l.length<=2000):∀(f i:Nat) (s:J2) (a:D3),i+f=l.length->s.length=i ->
  ∃z,Runs (λrec x=>z94.l0P (l.map dv) (l.length:Int) rec some x) ((i:Int),s,a.1,a.2.1,a.2.2) ((l.length:Int),s++(pairs a (l.drop i)).map pv,z)
 |
  0,i,s,a,hf,hs=>by
  have:i=l.length:=by omega
  refine ⟨(a.1,a.2.1,a.2.2),.done λrec=>?_⟩
  ·unfold z94.l0P
   simp only
   rw [Qa (by omega),List.drop_eq_nil_of_le (by omega),this];simp [pairs]
 |
  f+1,i,s,a,hf,hs=>by
  have hi:i<l.length:=by omega
  obtain ⟨z,r⟩:=Qog hl f (i+1) (s++[pv (a,l[i])]) l[i] (by omega) (by simp;omega)
  refine ⟨z,.step (λrec=>?_) (by rw [List.drop_eq_getElem_cons hi];simp only [pairs,List.map_cons];rw [<-List.append_cons] at r;exact r)⟩
  unfold z94.l0P
  simp only
  rw [bif_t (by omega),if_pos (by rw [List.length_map];omega),Zi,Qar dv hi]
  rw [asD0,asD1,asD2,if_pos (by simp;omega),Qc (by omega) (by omega)]
  rfl
def Tm.start (t:Tm):D3:=(t.y,t.m,t.d)
def Tm.periods (t:Tm):List (D3×D3):=pairs t.start t.dates
theorem Tm.dates_len (t:Tm):t.dates.length=t.count.toNat:=Qhk _ _ _ _ _
theorem dues_Periods (t:Tm):z94.F t.p t.r t.kind t.basis t.mode t.y t.m t.d t.every t.count=some (if mCheck t=0 then (t.periods.map pv,0) else ([],mCheck t)):=by
 unfold z94.F
 rw [dues_Dates]
 simp only [Zb]
 by_cases h:mCheck t=0
 ·obtain ⟨hk,hc,hr,ho⟩:=Ya h
  rw [if_pos h,if_pos h]
  simp only [decide_true,Zn,Zc,List.length_map]
  have hl:=t.dates_len
  obtain ⟨z,r⟩:=Qog (l:=t.dates) (by omega) t.dates.length 0 [] t.start (by omega) rfl
  have e:z94.l0 (t.dates.map dv) (t.dates.length:Int) ((0:Int),[],t.y,t.m,t.d)=_:=r.lfp
  rw [e]
  rfl
 ·rw [if_neg h,if_neg h]
  simp only
  rw [Zf h];rfl
abbrev cmpD (x y:D3):Int:=dcmp x.1 x.2.1 x.2.2 y.1 y.2.1 y.2.2
theorem Qjy {y m d k k':Int} (h:right y m d) (h1:okM y m k) (h2:okM y m k') (hlt:k<k'):numD (addM y m d k)<numD (addM y m d k'):=by
 refine Qhe (Qib h h1) (Qib h h2) ?_
 show ((12*y+m-1)+k)/12<((12*y+m-1)+k')/12\/((12*y+m-1)+k)/12=((12*y+m-1)+k')/12/\(((12*y+m-1)+k)%12+1<((12*y+m-1)+k')%12+1\/_)
 omega
theorem Qus {y m d:Int} (h:right y m d):addM y m d 0=(y,m,d):=by
 have g:=Q3 h
 unfold addM
 have e1:((12*y+m-1)+0)/12=y:=by omega
 have e2:((12*y+m-1)+0)%12+1=m:=by omega
 rw [e1,e2]
 have:=h.2
 congr 2;omega
structure Qr6 (t:Tm):Prop where
 right:∀j (h:j<t.dates.length),rightD t.dates[j]
 start:rightD t.start
 first:∀j (h:j<t.dates.length),numD t.start<numD t.dates[j]
 lt:∀i j (hi:i<t.dates.length) (hj:j<t.dates.length),i<j->numD t.dates[i]<numD t.dates[j]
theorem Qs4 {t:Tm} (h:mCheck t=0):Qr6 t:=by
 obtain ⟨hk,hc,hr,ho⟩:=Ya h
 have he:=Qbl hk.2.2.2
 have hl:=t.dates_len
 have g:=Q3 hr
 have key:∀j:Nat,j<t.dates.length->okM t.y t.m ((j+1:Nat)*t.every)/\0<((j+1:Nat):Int)*t.every:=λj hj=>by
  have a1:((j+1:Nat):Int)*t.every<=t.count*t.every:=Int.mul_le_mul_of_nonneg_right (by omega) (by omega)
  have a2:0<((j+1:Nat):Int)*t.every:=Int.mul_pos (by omega) (by omega)
  rw [Int.mul_comm t.count] at a1
  exact ⟨Qh3 ho (by omega) a1 (by omega),a2⟩
 have h0:okM t.y t.m 0:=by omega
 refine ⟨λj hj=>?_,hr,λj hj=>?_,λi j hi hj hij=>?_⟩
 ·have e:t.dates[j]=addM t.y t.m t.d ((j+1:Nat)*t.every):=Qev hj
  rw [e];exact Qib hr (key j hj).1
 ·have e:t.dates[j]=addM t.y t.m t.d ((j+1:Nat)*t.every):=Qev hj
  have z:t.start=addM t.y t.m t.d 0:=(Qus hr).symm
  rw [e,z];exact Qjy hr h0 (key j hj).1 (key j hj).2
 ·have e:t.dates[j]=addM t.y t.m t.d ((j+1:Nat)*t.every):=Qev hj
  have e':t.dates[i]=addM t.y t.m t.d ((i+1:Nat)*t.every):=Qev hi
  rw [e,e']
  exact Qjy hr (key i hi).1 (key j hj).1 (Int.mul_lt_mul_of_pos_right (by omega) (by omega))
theorem Qrv {x y:D3} (hx:rightD x) (hy:rightD y):cmpD x y=cmpI (numD x) (numD y):=Qs3 hx hy
def Qpr:Tm:=⟨[],[],0,0,0,0,0,0,0,0⟩
theorem Qmh:mCheck Qpr=5:=by decide +kernel
theorem Qfw (t:Tm):mCheck t=0↔((mMoney t.p).2=0/\(mMoney t.p).1≠0)/\(mRate t.r).2=0/\kindsOK t/\(1<=t.count/\t.count<=1200)/\right t.y t.m t.d/\okM t.y t.m (t.every*t.count):=by
 constructor
 ·intro h
  have h':=Ya h
  unfold mCheck at h
  split at h
  ·exact absurd h ‹_›
  ·split at h
   ·simp at h
   ·split at h
    ·exact absurd h ‹_›
    ·rename_i h1 h2 h3
     exact ⟨⟨Decidable.not_not.1 h1,h2⟩,Decidable.not_not.1 h3,h'⟩
 ·rintro ⟨⟨h1,h2⟩,h3,h4,h5,h6,h7⟩
  unfold mCheck
  rw [if_neg (λhh=>hh h1),if_neg h2,if_neg (λhh=>hh h3),if_neg (λhh=>hh h4),if_neg (by omega),if_pos ⟨h6,h7⟩]
theorem Qis {b r:Nat} (hb:0<b) (hs:sz b+sz r<=300000000):∀(f lo hi:Nat),hi-lo<=f->lo<=hi->hi<=9999->b*lo<=r->r<b*(hi+1) ->
  Runs (λrec x=>z113.l2P (dg b) (dg r) rec some x) ((lo:Int),(hi:Int)) (((r/b:Nat):Int),((r/b:Nat):Int))
 |
  0,lo,hi,hf,hl,hh,h1,h2=>by
  have:lo=hi:=by omega
  subst this
  have e:r/b=lo:=Nat.div_eq_of_lt_le (by rw [Nat.mul_comm];exact h1) (by rw [Nat.mul_comm];exact h2)
  rw [e]
  refine .done λrec=>?_
  unfold z113.l2P
  simp only
  rw [Qa (by omega)]
 |
  f+1,lo,hi,hf,hl,hh,h1,h2=>by
  by_cases h:lo<hi
  ·have e1:wr .i64 (Int.tdiv (wr .i64 (wr .i64 ((lo:Int)+(hi:Int))+1)) 2)=(((lo+hi+1)/2:Nat):Int):=by
    rw [Qc (n:=(lo:Int)+(hi:Int)) (by omega) (by omega),Qc (n:=(lo:Int)+(hi:Int)+1) (by omega) (by omega),W1 (by omega),Qc (by omega) (by omega)];omega
   obtain ⟨mid,hmid⟩:∃mid,(lo+hi+1)/2=mid:=⟨_,rfl⟩
   rw [hmid] at e1
   have sm:sz mid<=4:=sz_le (by omega)
   have sbm:=Q1 b mid
   have l1:=Qo b
   have l2:=Qo mid
   have l3:=Qo (b*mid)
   have step:∀rec:(Int×Int)->Option (Int×Int),z113.l2P (dg b) (dg r) rec some ((lo:Int),(hi:Int))=if b*mid<=r then rec ((mid:Int),(hi:Int)) else rec ((lo:Int),((mid-1:Nat):Int)):=λrec=>by
    unfold z113.l2P
    simp only
    rw [bif_t (by omega),e1,Qe5 (by omega)]
    simp only [Zb]
    rw [Qbc (by omega)]
    simp only [Zb]
    rw [Qg9 (by omega)]
    simp only [Zb]
    by_cases hc:b*mid<=r
    ·rw [if_pos hc,bif_t (by
      rcases Nat.lt_or_eq_of_le hc with h3|h3
      ·exact Int.le_of_lt (Wy.2 (by exact_mod_cast h3))
      ·exact Int.le_of_eq (Jt.2 (by exact_mod_cast h3)))]
    ·rw [if_neg hc,Qa (by
      have:=Wv (m:=((b*mid:Nat):Int)) (n:=(r:Int))
      have h4:=this.2 (by exact_mod_cast Nat.lt_of_not_le hc)
      omega),Qc (n:=(mid:Int)-1) (by omega) (by omega)]
     congr 2;omega
   by_cases hc:b*mid<=r
   ·refine .step (λrec=>?_) (Qis hb hs f mid hi (by omega) (by omega) hh hc h2)
    rw [step,if_pos hc]
   ·refine .step (λrec=>?_) (Qis hb hs f lo (mid-1) (by omega) (by omega) (by omega) h1 (by rw [show mid-1+1=mid by omega];omega))
    rw [step,if_neg hc]
  ·have:lo=hi:=by omega
   subst this
   have e:r/b=lo:=Nat.div_eq_of_lt_le (by rw [Nat.mul_comm];exact h1) (by rw [Nat.mul_comm];exact h2)
   rw [e]
   refine .done λrec=>?_
   unfold z113.l2P
   simp only
   rw [Qa (by omega)]
theorem Qff {s:J0} {i:Nat} {x:Int}:(s.set i x).drop (i+1)=s.drop (i+1):=by
 apply List.ext_getElem?
 intro j
 rw [List.getElem?_drop,List.getElem?_drop,List.getElem?_set_ne (by omega)]
theorem Qpj {a:J0} {b N:Nat} (ha:inB 10000 a) (hb:0<b) (hs:sz b<=100000000) (hl:a.length<=800000000) (hN:(N:Int)=valB 10000 a) :
  ∀
   (k:Nat),k<=a.length->∀(m:Nat) (q:J0),(m:Int)=valB 10000 (a.drop k)->q.length=a.length->inB 10000 q->valB 10000 (q.drop k)=((m/b:Nat):Int) ->
   ∃q',Runs (λrec x=>z113.l0aP a (dg b) rec some x) (dg (m%b),(k:Int)-1,q) (dg (N%b),(-1:Int),q')/\q'.length=a.length/\inB 10000 q'/\valB 10000 q'=((N/b:Nat):Int)
 |
  0,hk,m,q,hm,hq,hi,hv=>by
  have:m=N:=by rw [List.drop_zero] at hm;omega
  subst this
  refine ⟨q,.done λrec=>?_,hq,hi,by rwa [List.drop_zero] at hv⟩
  unfold z113.l0aP
  simp only
  rw [Qa (by omega)];rfl
 |
  k+1,hk,m,q,hm,hq,hi,hv=>by
  have hka:k<a.length:=by omega
  have hkq:k<q.length:=by omega
  have hd:=Qw (B:=10000) (by decide) ha k
  obtain ⟨d,hd'⟩:∃d:Nat,a.getD k 0=(d:Int):=⟨(a.getD k 0).toNat,by omega⟩
  have hd2:d<10000:=by omega
  obtain ⟨r,hr⟩:∃r,m%b=r:=⟨_,rfl⟩
  have hrb:r<b:=hr▸Nat.mod_lt m hb
  obtain ⟨x,hx⟩:∃x,d+10000*r=x:=⟨_,rfl⟩
  have hxb:x<b*10000:=by omega
  have sx:sz x<=sz b+4:=sz_le (by
   have h1:=Jr b
   rw [Nat.pow_add]
   exact Nat.lt_of_lt_of_le hxb (Nat.mul_le_mul_right _ (Nat.le_of_lt h1)))
  have sr:sz r<=sz b:=Qy (by omega)
  have l1:=Qo x
  have l2:=Qo r
  have l3:=Qo b
  obtain ⟨z,hz⟩:∃z,x/b=z:=⟨_,rfl⟩
  obtain ⟨w,hw⟩:∃w,x%b=w:=⟨_,rfl⟩
  obtain ⟨y,hy⟩:∃y,m/b=y:=⟨_,rfl⟩
  have hq1:z<10000:=hz▸Nat.div_lt_of_lt_mul hxb
  have hdm:b*z+w=x:=by rw [<-hz,<-hw];exact Nat.div_add_mod x b
  have hmm:b*y+r=m:=by rw [<-hy,<-hr];exact Nat.div_add_mod m b
  have hm':((d+10000*m:Nat):Int)=valB 10000 (a.drop k):=by rw [Q4,hd',<-hm];omega
  have e:d+10000*m=x+b*(10000*y):=by
   have h4:b*(10000*y)=10000*(b*y):=by rw [<-Nat.mul_assoc,Nat.mul_comm b 10000,Nat.mul_assoc]
   omega
  have hdiv:(d+10000*m)/b=z+10000*y:=by rw [e,Nat.add_mul_div_left _ _ hb,hz]
  have hmod:(d+10000*m)%b=w:=by rw [e,Nat.add_mul_mod_self_left,hw]
  have hvq:valB 10000 ((q.set k (z:Int)).drop k)=(((d+10000*m)/b:Nat):Int):=by
   rw [Q4,Qff,hv,hdiv,hy]
   have:(q.set k (z:Int)).getD k 0=(z:Int):=by simp [List.getD,hkq]
   rw [this];omega
  obtain ⟨q',r1,r2,r3,r4⟩:=Qpj ha hb hs hl hN k (by omega) (d+10000*m) (q.set k (z:Int)) hm' (by simp [hq]) (Ww hi (by show (0:Int)<=(z:Int)/\(z:Int)<10000;omega)) hvq
  rw [hmod] at r1
  refine ⟨q',.step (λrec=>?_) r1,r2,r3,r4⟩
  have hsr:=Qis (b:=b) (r:=x) hb (by omega) 9999 0 9999 (by omega) (by omega) (by omega) (by omega) (by omega)
  have es:z113.l2 (dg b) (dg x) ((0:Int),(9999:Int))=some (((x/b:Nat):Int),((x/b:Nat):Int)):=hsr.lfp
  rw [hz] at es
  have et:z14.F ([(d:Int)]++dg r)=some (dg x):=by
   rw [Qbt (Qh1.2 ⟨We.2 ⟨by omega,inB_nil _⟩,Qu b4 r⟩) (by show ([(d:Int)]++dg r).length<=1000000000;rw [List.length_append,List.length_singleton];omega)]
   have:valB 10000 ([(d:Int)]++dg r)=(x:Int):=by
    show (d:Int)+((10000:Nat):Int)*valB 10000 (dg r)=x
    rw [Q0 b4];omega
   rw [this];rfl
  have szz:sz z<=4:=sz_le (by omega)
  have l4:=Qo z
  have l5:=Qo (b*z)
  have sbz:=Q1 b z
  have ek:((k+1:Nat):Int)-1=(k:Int):=by omega
  unfold z113.l0aP
  simp only
  rw [ek,bif_t (by omega),if_pos (by omega),Zi,hd',hr,if_pos (by rw [List.length_singleton];omega),et]
  simp only [Zb]
  rw [es]
  simp only [Zb]
  rw [if_pos (by omega),if_pos hkq,Qe5 (by omega)]
  simp only [Zb]
  rw [Qbc (by omega)]
  simp only [Zb]
  rw [Qh6 (by omega) (by omega)]
  simp only [Zb]
  rw [Qc (by omega) (by omega),show x-b*z=w by omega]
theorem Qds {a b:Nat} (hb:0<b) (ha:sz a<=700000000) (hs:sz b<=100000000):z113.F (dg a) (dg b)=some (dg (a/b),dg (a%b)):=by
 have l1:=Qo a
 obtain ⟨q',r1,r2,r3,r4⟩:=Qpj (a:=dg a) (b:=b) (N:=a) (Qu b4 a) hb hs (by omega) (by rw [Q0 b4]) (dg a).length (Nat.le_refl _) 0 (List.replicate (dg a).length 0) (by rw [List.drop_length];rfl) (by simp) (Jx (by decide) _) (by rw [List.drop_eq_nil_of_le (by simp)];simp [valB])
 rw [Nat.zero_mod,Qfa] at r1
 have e:z113.l0a (dg a) (dg b) ([],((dg a).length:Int)-1,List.replicate (dg a).length 0)=some (dg (a%b),(-1:Int),q'):=r1.lfp
 unfold z113.F
 rw [if_pos (by omega),Zi,Qc (by omega) (by omega),e]
 simp only [Zb]
 rw [Qbt r3 (by show List.length _<=_;omega),r4]
 rfl
theorem Qra {a b:Nat} (ha:sz a<=100000000) (hb:sz b<=100000000):z114.F (dg a) (dg b)=some (dg (Nat.gcd a b)):=by
 have key:∀(f a b:Nat),b<f->sz a<=100000000->sz b<=100000000->Runs (λrec x=>z114.l0P rec some x) (dg a,dg b) (dg (Nat.gcd a b),[]):=by
  intro f
  induction f with
  |zero=>intro a b h;omega
  |
   succ f ih=>
   intro a b h ha hb
   rcases Nat.eq_zero_or_pos b with h0|h0
   ·subst h0
    refine .done λrec=>?_
    unfold z114.l0P
    simp only
    rw [Qa (by rw [Qfa];simp),Nat.gcd_zero_right,Qfa]
   ·have hm:=Nat.mod_lt a h0
    have e:Nat.gcd a b=Nat.gcd b (a%b):=by rw [Nat.gcd_comm,Nat.gcd_rec,Nat.gcd_comm]
    have hsm:sz (a%b)<=sz b:=Qy (by omega)
    rw [e]
    refine .step (λrec=>?_) (ih b (a%b) (by omega) hb (by omega))
    unfold z114.l0P
    simp only
    rw [bif_t ((Qe3 b).2 h0),Qds h0 (by omega) hb]
    rfl
 unfold z114.F
 have e:z114.l0 (dg a,dg b)=some (dg (Nat.gcd a b),[]):=(key (b+1) a b (by omega) ha hb).lfp
 rw [e];rfl
abbrev rf (q:Rat):J0×Bool×J0:=(dg q.num.natAbs,neg q.num,dg q.den)
theorem Qci {num:Int} {den:Nat} (h0:0<den) (hn:sz num.natAbs<=100000000) (hd:sz den<=100000000):z115.F (dg num.natAbs) (neg num) (dg den)=some (rf (mkRat num den)):=by
 have hg:0<Nat.gcd num.natAbs den:=Nat.gcd_pos_of_pos_right _ h0
 have hgs:sz (Nat.gcd num.natAbs den)<=sz den:=Qy (Nat.gcd_le_right _ h0)
 obtain ⟨q1,q2⟩:=Qi0 (Nat.gcd_dvd_left num.natAbs den) hg
 unfold z115.F
 rw [Qra hn hd]
 simp only [Zb]
 show _=some (dg (mkRat num den).num.natAbs,neg (mkRat num den).num,dg (mkRat num den).den)
 rw [Rat.num_mkRat,Rat.den_mkRat,if_neg (by omega),if_neg (by omega),Nat.gcd_comm den]
 generalize Nat.gcd num.natAbs den=g at *
 rw [Qds hg (by omega) (by omega)]
 simp only [Zb]
 rw [Qds hg (by omega) (by omega)]
 simp only [Zb]
 rw [Ys (z:=num/(g:Int)) q1.symm (by
  have hz:num/(g:Int)<0↔num<0:=q2
  by_cases h:num<0
  ·exact .inl ⟨Zt h,by omega⟩
  ·exact .inr ⟨Zf h,by omega⟩)]
 rfl
theorem Qh0 {num den:Int} (h0:den≠0) (hn:sz num.natAbs<=100000000) (hd:sz den.natAbs<=100000000):z116.F (dg num.natAbs) (neg num) (dg den.natAbs) (neg den)=some (rf (Rat.divInt num den)):=by
 unfold z116.F
 by_cases h:den<0
 ·have e:Rat.divInt num den=mkRat (-num) den.natAbs:=by
   have:den = -((den.natAbs:Nat):Int):=by omega
   conv=>lhs;rw [this]
   rw [Rat.divInt_neg',Rat.divInt_ofNat]
  rw [bif_t h,Qgv]
  simp only [Zb]
  rw [Qci (by omega) (by rw [Int.natAbs_neg];exact hn) hd,e]
  rfl
 ·have e:Rat.divInt num den=mkRat num den.natAbs:=by
   have:den=((den.natAbs:Nat):Int):=by omega
   conv=>lhs;rw [this]
   rw [Rat.divInt_ofNat]
  rw [Qa h,Qci (by omega) hn hd,e]
  rfl
theorem Yi {a b:Int} (ha:-9223372036854775808<a/\a<9223372036854775808) (hb:-9223372036854775808<b/\b<9223372036854775808) (h0:b≠0):z117.F a b=some (rf (Rat.divInt a b)):=by
 have s1:sz a.natAbs<=20:=sz_le (by omega)
 have s2:sz b.natAbs<=20:=sz_le (by omega)
 unfold z117.F
 rw [W2 ha]
 simp only [Zb]
 rw [W2 hb]
 simp only [Zb]
 rw [Qh0 h0 (by omega) (by omega)]
 rfl
theorem Qdt {q r:Rat} (hs:sz q.num.natAbs+sz r.den<=800000000) (a:J0) (b:J0) (c:Bool):z120.F (dg q.num.natAbs) (neg q.num) a b c (dg r.den)=some (dg (q.num*r.den).natAbs,neg (q.num*r.den)):=by
 have l1:=Qo q.num.natAbs
 have l2:=Qo r.den
 have l3:(dg (r.den:Int).natAbs).length=(dg r.den).length:=rfl
 unfold z120.F
 rw [Ys (z:=(r.den:Int)) (n:=r.den) (by omega) (.inr ⟨rfl,by omega⟩)]
 simp only [Zb]
 rw [Qel (by omega)]
 rfl
theorem Qvw {q r:Rat} (hs:sz q.num.natAbs+sz r.den<=300000000) (hs':sz r.num.natAbs+sz q.den<=300000000):z121.F (rf q).1 (rf q).2.1 (rf q).2.2 (rf r).1 (rf r).2.1 (rf r).2.2=some (cmpI (q.num*r.den) (r.num*q.den)):=by
 have m1:=Q1 q.num.natAbs (r.den:Int).natAbs
 have m2:=Q1 r.num.natAbs (q.den:Int).natAbs
 rw [<-Int.natAbs_mul] at m1 m2
 have e1:sz (r.den:Int).natAbs=sz r.den:=rfl
 have e2:sz (q.den:Int).natAbs=sz q.den:=rfl
 have l1:=Qo (q.num*r.den).natAbs
 have l2:=Qo (r.num*q.den).natAbs
 unfold z121.F
 rw [Qdt (by omega)]
 simp only [Zb]
 rw [Qdt (by omega)]
 simp only [Zb]
 rw [Qhx (by omega)]
 rfl
theorem Qfh {q r:Rat} (h0:r≠0) (hs:sz q.num.natAbs+sz r.den<=90000000) (hs':sz r.num.natAbs+sz q.den<=90000000):z122.F (rf q).1 (rf q).2.1 (rf q).2.2 (rf r).1 (rf r).2.1 (rf r).2.2=some (rf (q/r)):=by
 have m1:=Q1 q.num.natAbs (r.den:Int).natAbs
 have m2:=Q1 r.num.natAbs (q.den:Int).natAbs
 rw [<-Int.natAbs_mul] at m1 m2
 have e1:sz (r.den:Int).natAbs=sz r.den:=rfl
 have e2:sz (q.den:Int).natAbs=sz q.den:=rfl
 have l1:=Qo r.num.natAbs
 have l2:=Qo (q.den:Int).natAbs
 have hr:r.num≠0:=λh=>h0 (Rat.num_eq_zero.1 h)
 have hqd:=q.den_nz
 unfold z122.F
 rw [Qdt (by omega)]
 simp only [Zb]
 rw [Ys (z:=(q.den:Int)) (n:=q.den) (by omega) (.inr ⟨rfl,by omega⟩)]
 simp only [Zb]
 rw [Qel (by omega)]
 simp only [Zb]
 rw [Qh0 (Int.mul_ne_zero hr (by omega)) (by omega) (by omega),Qiz,Int.mul_comm (q.den:Int)]
 rfl
theorem Yq {s:J1} {i:Nat} (h:i<s.length):s.getD i 0=s[i]:=by simp [List.getD,h]
theorem Qj3 {s:J1} (hs:s.length<=1000000000):∀(f i:Nat),i+f=s.length ->
  ∃o,Runs (λrec x=>z101.l0b4P s rec some x) (i:Int) o/\(match o with | .inl _=>true | .inr q=>q)=digs (s.drop i)
 |
  0,i,hf=>by
  refine ⟨.inl (i:Int),.done λrec=>?_,?_⟩
  ·unfold z101.l0b4P
   rw [Qa (by omega)]
  ·rw [List.drop_eq_nil_of_le (by omega)];rfl
 |
  f+1,i,hf=>by
  have hi:i<s.length:=by omega
  rw [List.drop_eq_getElem_cons hi]
  have e:digs (s[i]::s.drop (i+1))=(isD s[i]&&digs (s.drop (i+1))):=rfl
  rw [e]
  by_cases h1:(s[i].toNat:Int)<48
  ·refine ⟨.inr false,.done λrec=>?_,?_⟩
   ·unfold z101.l0b4P
    rw [bif_t (by omega),if_pos (by omega),Zi,Yq hi,bif_t h1]
   ·have:isD s[i]=false:=by unfold isD;rw [Zf (show ¬48<=s[i].toNat by omega)];rfl
    rw [this];rfl
  ·by_cases h2:(s[i].toNat:Int)>57
   ·refine ⟨.inr false,.done λrec=>?_,?_⟩
    ·unfold z101.l0b4P
     rw [bif_t (by omega),if_pos (by omega),Zi,Yq hi,Qa h1,if_pos (by omega),bif_t h2]
    ·have:isD s[i]=false:=by unfold isD;rw [Zf (show ¬s[i].toNat<=57 by omega)];simp
     rw [this];rfl
   ·obtain ⟨o,r,ho⟩:=Qj3 hs f (i+1) (by omega)
    refine ⟨o,.step (λrec=>?_) r,?_⟩
    ·unfold z101.l0b4P
     rw [bif_t (by omega),if_pos (by omega),Zi,Yq hi,Qa h1,if_pos (by omega),Qa h2,Qc (by omega) (by omega)]
     rfl
    ·have:isD s[i]=true:=by unfold isD;rw [Zt (show 48<=s[i].toNat by omega),Zt (show s[i].toNat<=57 by omega)];rfl
     rw [ho,this];rfl
theorem Qt5 {s:J1} (hs:s.length<=1000000000):z101.F s=some (numOK s):=by
 obtain ⟨o,r,ho⟩:=Qj3 hs s.length 0 (by omega)
 have e:z101.l0b4 s 0=some o:=r.lfp
 rw [List.drop_zero] at ho
 unfold z101.F numOK
 rw [e]
 simp only [Zb]
 by_cases h0:s=[]
 ·subst h0;rfl
 ·have hpos:=List.length_pos_iff.2 h0
  rw [Qa (by omega),Zf h0]
  by_cases h1:1<s.length
  ·rw [bif_t (by omega),if_pos (by omega),Zt h1]
   by_cases h2:(s.getD 0 0).toNat=48
   ·rw [bif_t (by omega),Zt h2];simp
   ·rw [Qa (by omega),Zf h2]
    simp only [Zo,Bool.true_and,Bool.and_true,Bool.and_false]
    cases o with
    |inl z=>exact congrArg some ho
    |inr q=>exact congrArg some ho
  ·rw [Qa (by omega),Zf h1]
   simp only [Zo,Bool.true_and,Bool.and_true,Bool.false_and]
   cases o with
   |inl z=>exact congrArg some ho
   |inr q=>exact congrArg some ho
theorem Qxz {s:J1} (hs:Qs s) {b:UInt8} {t:J1} (e:s=b::t) (hb:b.toNat≠48):0<tv 0 s:=by
 subst e
 have h1:=hs b (by simp)
 unfold digit at h1
 have h2:=Yx (s:=t) λx hx=>hs x (by simp [hx])
 have e:tv 0 (b::t)=((b.toNat:Int)-48)*(10^t.length:Nat)+tv 0 t:=by
  show tv (10*0+(b.toNat:Int)-48) t=_
  rw [Qb5];simp
 have h3:0<10^t.length:=Nat.pow_pos (by decide)
 have h4:1*((10^t.length:Nat):Int)<=((b.toNat:Int)-48)*(10^t.length:Nat):=Int.mul_le_mul_of_nonneg_right (by omega) (by omega)
 rw [e];omega
theorem Qmn {s:J1} (h:numOK s=true):Qs s/\s≠[]/\(1<s.length->(s.getD 0 0).toNat≠48):=by
 unfold numOK at h
 simp only [Bool.and_eq_true,Bool.not_eq_true',decide_eq_false_iff_not,Bool.and_eq_false_iff] at h
 exact ⟨Y2.1 h.1.2,h.1.1,λh1 h2=>by rcases h.2 with h3|h3<;>omega⟩
theorem Qst {s:J1} (h:numOK s=true):(tv 0 s).toNat=0↔s=[48]:=by
 obtain ⟨h1,h2,h3⟩:=Qmn h
 constructor
 ·intro h0
  cases s with
  |nil=>exact absurd rfl h2
  |
   cons b t=>
   by_cases hb:b.toNat=48
   ·have:t=[]:=by
     cases t with
     |nil=>rfl
     |cons c t'=>exact absurd hb (h3 (by simp))
    subst this
    rw [show b=48 from UInt8.toNat_inj.1 hb]
   ·have:=Qxz h1 rfl hb;omega
 ·rintro rfl;rfl
abbrev wr4 (w:Int×Int):J0×Bool×Int:=(dg w.1.natAbs,neg w.1,w.2)
theorem Qx7 (s:J1) (hs:s.length<=1000000):z102.F s=some (wr4 (mWhole s)):=by
 have key:∀(plain:J1) (below:Bool),plain.length<=s.length->cutNeg s=(plain,below)->(below=true->s.length=plain.length+1/\s.drop 1=plain/\(s.getD 0 0).toNat=45)->(below=false->s=plain) ->
   z102.j3 plain (dg (Int.natAbs 0),neg 0) s=some (wr4 (mWhole s)):=λplain below hp hc hb hb'=>by
  have z0:∀e:Int,some (dg (Int.natAbs 0),neg 0,e)=some (wr4 (0,e)):=λe=>rfl
  unfold z102.j3 mWhole
  rw [hc]
  simp only
  by_cases h1:4096<plain.length
  ·have hm:mDigits plain=(0,7):=by unfold mDigits;rw [if_pos h1]
   rw [bif_t (by omega),hm,if_pos (by decide)]
  ·rw [Qa (by omega),Qt5 (by omega)]
   simp only [Zb]
   cases hn:numOK plain with
   |
    false=>
    have hm:mDigits plain=(0,5):=by unfold mDigits;rw [if_neg h1,hn];rfl
    simp only [Zo,Zd]
    rw [hm,if_pos (by decide)]
   |
    true=>
    obtain ⟨d1,d2,d3⟩:=Qmn hn
    have hm:mDigits plain=((tv 0 plain).toNat,0):=by unfold mDigits;rw [if_neg h1,hn];rfl
    have hz:=Qst hn
    obtain ⟨v,hv⟩:∃v:Nat,tv 0 plain=(v:Int):=⟨_,(Int.toNat_of_nonneg (Yx d1).1).symm⟩
    rw [hv,Zi] at hm hz
    simp only [Zn,Zc]
    rw [hm,if_neg (by simp)]
    simp only
    have hread:z100.F s=some (dg v,(below&&decide (0<v))):=by
     unfold z100.F
     have hpos:=List.length_pos_iff.2 d2
     rw [if_pos (by omega)]
     cases below with
     |
      true=>
      obtain ⟨g1,g2,g3⟩:=hb rfl
      rw [bif_t (by omega),if_pos (by omega),g2,Qfe d1 (by omega),hv]
      simp only [Zb]
      rw [Qc4];rfl
     |
      false=>
      have g:=hb' rfl
      have hne:¬(((s.getD 0 0).toNat:Int)=45):=by
       rw [g,Yq hpos]
       have:=d1 plain[0] (List.getElem_mem hpos)
       unfold digit at this;omega
      rw [Qa hne,g,Qfe d1 (by omega),hv]
      simp only [Zb]
      rw [Qc4];rfl
    by_cases h48:plain=[48]
    ·have h0:=hz.2 h48
     rw [bif_t h48]
     cases below with
     |
      true=>
      obtain ⟨g1,g2,g3⟩:=hb rfl
      rw [bif_t (by rw [h48] at g1;simp at g1;omega),h0]
      rfl
     |
      false=>
      have g:=hb' rfl
      rw [Qa (by rw [g,h48];simp),hread,h0]
      rfl
    ·have h0:v≠0:=λhh=>h48 (hz.1 hh)
     rw [Qa h48,hread]
     simp only [Zb]
     have e:(below&&decide (v=0))=false:=by rw [Zf h0,Bool.and_false]
     rw [e]
     simp only [Bool.false_eq_true,if_false]
     cases below with
     |
      true=>
      have e1:(true&&decide (0<v))=neg (-(v:Int)):=by rw [Bool.true_and];exact decide_eq_decide.2 (by omega)
      rw [e1]
      show _=some (dg (-(v:Int)).natAbs,neg (-(v:Int)),0)
      rw [Int.natAbs_neg];rfl
     |
      false=>
      have e1:(false&&decide (0<v))=neg (v:Int):=by rw [Bool.false_and];symm;exact Zf (by omega)
      rw [e1];rfl
 unfold z102.F
 rw [W2 (by omega)]
 simp only [Zb]
 cases s with
 |
  nil=>
  rw [Qa (by simp)]
  exact key [] false (by simp) rfl (λh=>by simp at h) (λ_=>rfl)
 |
  cons b t=>
  rw [bif_t (by simp),if_pos (by simp)]
  by_cases h:b=45
  ·subst h
   rw [bif_t (by rfl),if_pos (by simp;omega)]
   exact key t true (by simp) rfl (λ_=>⟨by simp,rfl,rfl⟩) (λh=>by simp at h)
  ·have hb:¬((((b::t).getD 0 0).toNat:Int)=45):=λhh=>h (UInt8.toNat_inj.1 (by have e:(b::t).getD 0 0=b:=rfl;rw [e] at hh;show b.toNat=45;omega))
   rw [Qa hb]
   exact key (b::t) false (by simp) (by unfold cutNeg;simp [h]) (λh=>by simp at h) (λ_=>rfl)
theorem Qj9 (t:Nat) (ht:t<=1000000):∀(f i:Nat),i+f=t->Runs (λrec x=>z103.l0P (t:Int) rec some x) ((49:UInt8)::List.replicate i 48,(i:Int)) ((49:UInt8)::List.replicate t 48,(t:Int))
 |
  0,i,hf=>by
  have:i=t:=by omega
  subst this
  refine .done λrec=>?_
  unfold z103.l0P
  simp only
  rw [Qa (by omega)]
 |
  f+1,i,hf=>by
  refine .step (λrec=>?_) (Qj9 t ht f (i+1) (by omega))
  unfold z103.l0P
  simp only
  rw [bif_t (by omega),if_pos (by simp;omega),Qc (by omega) (by omega),List.replicate_succ']
  rfl
theorem Qjj:∀(t:Nat) (a:Int),tv a (List.replicate t 48)=a*(10^t:Nat)
 |0,a=>by simp [tv]
 |
  t+1,a=>by
  rw [List.replicate_succ]
  show tv (10*a+((48:UInt8).toNat:Int)-48) (List.replicate t 48)=_
  rw [Qjj t,Nat.pow_succ,Int.natCast_mul]
  have:((48:UInt8).toNat:Int)=48:=rfl
  rw [this]
  generalize ((10^t:Nat):Int)=p
  grind
theorem Qmg {t:Nat} (ht:t<=1000000):z103.F (t:Int)=some (dg (10^t)):=by
 have e:z103.l0 (t:Int) ([49],(0:Int))=some ((49:UInt8)::List.replicate t 48,(t:Int)):=(Qj9 t ht t 0 (by omega)).lfp
 have hd:Qs ((49:UInt8)::List.replicate t 48):=λb hb=>by
  rcases List.mem_cons.1 hb with h|h
  ·subst h;unfold digit;decide
  ·rw [List.eq_of_mem_replicate h];unfold digit;decide
 have hv:tv 0 ((49:UInt8)::List.replicate t 48)=((10^t:Nat):Int):=by
  show tv 1 (List.replicate t 48)=_
  rw [Qjj];simp
 unfold z103.F
 rw [e]
 simp only [Zb]
 rw [Qfe hd (by simp;omega),hv]
 rfl
theorem Qm2 (s:J1) (hs:s.length<=1000000):z112.F s=some (wr4 (mMoney s)):=by
 have hz:=Qk6 s
 unfold z112.F mMoney
 rw [W2 (by omega)]
 simp only [Zb]
 rw [Qx7 s hs]
 simp only [Zb,wr4]
 generalize mWhole s=w at *
 by_cases h:w.2=0
 ·rw [Zt h,if_neg (by omega)]
  simp only [Zn,Zc]
  have h30:=Qmg (t:=30) (by decide)
  rw [show ((30:Nat):Int)=30 from rfl] at h30
  rw [h30]
  simp only [Zb]
  rw [Ys (z:=10^30) (by decide) (.inr ⟨rfl,by decide⟩)]
  simp only [Zb]
  have l1:=Qo w.1.natAbs
  have l2:(dg (Int.natAbs (10^30))).length<=31:=Nat.le_trans (Qo _) (sz_le (by decide))
  rw [Qhx (by omega)]
  simp only [Zb]
  by_cases h1:w.1<0
  ·rw [bif_t h1,if_pos (.inl h1)]
  ·rw [Qa h1]
   by_cases h2:10^30<w.1
   ·rw [bif_t (Wv.2 h2),if_pos (.inr h2)]
   ·rw [Qa (λh=>h2 (Wv.1 h)),if_neg (by omega)]
 ·rw [Zf h,if_pos h];rfl
def scan:J1->J1->Int->Int->Bool->Option (J1×Int×Int×Bool)
 |[],all,ah,bh,z=>some (all,ah,bh,z)
 |
  b::t,all,ah,bh,z=>
  if b.toNat=46/\bh<0 then scan t all ah 0 z
  else if isD b=false then none
  else if bh<0 then scan t (all++[b]) (ah+1) bh (z&&decide (b.toNat=48))
  else scan t (all++[b]) ah (bh+1) (z&&decide (b.toNat=48))
def Qdm (n:Int):Option (J1×Int×Int×Bool)->(Int×J1×Int×Int×Bool)⊕Int
 |none=>.inr 5
 |some r=>.inl (n,r.1,r.2.1,r.2.2.1,r.2.2.2)
theorem Qj6 {s:J1} (hs:s.length<=1000000) {i:Nat} (hi:i<s.length) (all:J1) (ha:all.length<=1000000) (z:Bool) (x y:Int) {R:Type} (rec:(Int×J1×Int×Int×Bool)->Option R) (done:((Int×J1×Int×Int×Bool)⊕Int)->Option R) :
  z118.j11016a rec done z (i:Int) s all x y=rec (((i+1:Nat):Int),all++[s[i]],x,y,(z&&decide (s[i].toNat=48))):=by
 have e1:wr .i64 ((i:Int)+1)=((i+1:Nat):Int):=by rw [Qc (by omega) (by omega)];rfl
 have e2:(s.drop i).take (i+1-i)=[s[i]]:=by
  rw [show i+1-i=1 by omega,List.drop_eq_getElem_cons hi];rfl
 have e3:decide ((s[i].toNat:Int)=48)=decide (s[i].toNat=48):=decide_eq_decide.2 (by omega)
 unfold z118.j11016a
 simp only [e1,Zi,e2,Yq hi,e3]
 cases z with
 |true=>simp only [Zd,Bool.true_and];rw [if_pos (by omega),if_pos (by omega),if_pos (by simp;omega)]
 |false=>simp only [Zc,Bool.false_and];rw [if_pos (by omega),if_pos (by simp;omega)]
theorem Qd8 {s:J1} (hs:s.length<=1000000):∀(f i:Nat) (all:J1) (ah bh:Int) (z:Bool),i+f=s.length->all.length<=i->(0<=ah/\ah<=i)->(-1<=bh/\bh<=i) ->
  Runs (λrec x=>z118.l0b10P s rec some x) ((i:Int),all,ah,bh,z) (Qdm (s.length:Int) (scan (s.drop i) all ah bh z))
 |
  0,i,all,ah,bh,z,hf,_,_,_=>by
  refine .done λrec=>?_
  unfold z118.l0b10P
  simp only
  rw [Qa (by omega),List.drop_eq_nil_of_le (by omega),show (i:Int)=(s.length:Int) by omega];rfl
 |
  f+1,i,all,ah,bh,z,hf,ha,hah,hbh=>by
  have hi:i<s.length:=by omega
  have c1:(0:Int)<=(i:Int)/\(i:Int)<(s.length:Int):=by omega
  have e1:wr .i64 ((i:Int)+1)=((i+1:Nat):Int):=by rw [Qc (by omega) (by omega)];rfl
  rw [List.drop_eq_getElem_cons hi]
  by_cases hdot:s[i].toNat=46/\bh<0
  ·have ih:=Qd8 hs f (i+1) all ah 0 z (by omega) (by omega) (by omega) (by omega)
   have es:scan (s[i]::s.drop (i+1)) all ah bh z=scan (s.drop (i+1)) all ah 0 z:=by rw [scan];rw [if_pos hdot]
   rw [es]
   refine .step (λrec=>?_) ih
   unfold z118.l0b10P
   simp only
   rw [bif_t (by omega),if_pos c1,Zi,Yq hi,bif_t (by omega),bif_t hdot.2,e1]
  ·by_cases hd:isD s[i]=true
   ·have hd':48<=s[i].toNat/\s[i].toNat<=57:=by unfold isD at hd;simpa using hd
    have hnd:¬((s[i].toNat:Int)=46):=by omega
    by_cases hb:bh<0
    ·have ih:=Qd8 hs f (i+1) (all++[s[i]]) (ah+1) bh (z&&decide (s[i].toNat=48)) (by omega) (by simp;omega) (by omega) (by omega)
     have es:scan (s[i]::s.drop (i+1)) all ah bh z=scan (s.drop (i+1)) (all++[s[i]]) (ah+1) bh (z&&decide (s[i].toNat=48)):=by rw [scan];rw [if_neg hdot,if_neg (by rw [hd];simp),if_pos hb]
     rw [es]
     refine .step (λrec=>?_) ih
     unfold z118.l0b10P
     simp only
     rw [bif_t (by omega),if_pos c1,Zi,Yq hi,Qa hnd,if_pos c1,Qa (by omega),if_pos c1,Qa (by omega),bif_t hb,Qc (n:=ah+1) (by omega) (by omega)]
     exact Qj6 hs hi all (by omega) z _ _ rec some
    ·have ih:=Qd8 hs f (i+1) (all++[s[i]]) ah (bh+1) (z&&decide (s[i].toNat=48)) (by omega) (by simp;omega) (by omega) (by omega)
     have es:scan (s[i]::s.drop (i+1)) all ah bh z=scan (s.drop (i+1)) (all++[s[i]]) ah (bh+1) (z&&decide (s[i].toNat=48)):=by rw [scan];rw [if_neg hdot,if_neg (by rw [hd];simp),if_neg hb]
     rw [es]
     refine .step (λrec=>?_) ih
     unfold z118.l0b10P
     simp only
     rw [bif_t (by omega),if_pos c1,Zi,Yq hi,Qa hnd,if_pos c1,Qa (by omega),if_pos c1,Qa (by omega),Qa hb,Qc (n:=bh+1) (by omega) (by omega)]
     exact Qj6 hs hi all (by omega) z _ _ rec some
   ·have hd2:isD s[i]=false:=by simpa using hd
    have hd':s[i].toNat<48\/57<s[i].toNat:=by
     unfold isD at hd2
     simp at hd2
     omega
    have es:scan (s[i]::s.drop (i+1)) all ah bh z=none:=by rw [scan];rw [if_neg hdot,if_pos hd2]
    rw [es]
    refine .done λrec=>?_
    unfold z118.l0b10P
    simp only
    rw [bif_t (by omega),if_pos c1,Zi,Yq hi]
    by_cases h46:(s[i].toNat:Int)=46
    ·rw [bif_t h46,Qa (by omega),if_pos c1,bif_t (by omega)];rfl
    ·rw [Qa h46,if_pos c1]
     by_cases h48:(s[i].toNat:Int)<48
     ·rw [bif_t h48];rfl
     ·rw [Qa h48,if_pos c1,bif_t (by omega)];rfl
theorem Qgc (b:UInt8) (t:J1):zeros (b::t)=(decide (b.toNat=48)&&zeros t):=by
 show ((b == 48)&&zeros t)=_
 rw [Qo6];rfl
theorem Qjs:∀(t all:J1) (ah bh:Int) (z:Bool),0<=bh->scan t all ah bh z=if digs t then some (all++t,ah,bh+t.length,z&&zeros t) else none
 |[],all,ah,bh,z,h=>by simp [scan,digs,zeros]
 |
  b::t,all,ah,bh,z,h=>by
  have e:digs (b::t)=(isD b&&digs t):=rfl
  rw [scan,if_neg (by omega),e,Qgc]
  by_cases hd:isD b=true
  ·rw [if_neg (by rw [hd];simp),if_neg (by omega),Qjs t _ _ _ _ (by omega),hd,Bool.true_and,Bool.and_assoc,List.append_assoc]
   congr 3
   simp;omega
  ·have hd2:isD b=false:=by simpa using hd
   rw [if_pos hd2,hd2];rfl
theorem Qmu:∀(t all:J1) (ah:Int) (z:Bool),scan t all ah (-1) z =
  if digs (cutDot t).1 then (match (cutDot t).2 with
   |none=>some (all++(cutDot t).1,ah+(cutDot t).1.length,(-1:Int),z&&zeros (cutDot t).1)
   |some b=>if digs b then some (all++(cutDot t).1++b,ah+(cutDot t).1.length,(b.length:Int),z&&zeros (cutDot t).1&&zeros b) else none) else none
 |[],all,ah,z=>by simp [scan,cutDot,digs,zeros]
 |
  b::t,all,ah,z=>by
  by_cases h46:b=46
  ·subst h46
   rw [scan,if_pos ⟨rfl,by decide⟩,Qjs _ _ _ _ _ (Int.le_refl 0)]
   have:cutDot (46::t)=([],some t):=by rw [cutDot,if_pos rfl]
   rw [this]
   simp [digs,zeros]
  ·have hc:cutDot (b::t)=(b::(cutDot t).1,(cutDot t).2):=by rw [cutDot,if_neg h46]
   have h46':¬(b.toNat=46/\(-1:Int)<0):=λhh=>h46 (UInt8.toNat_inj.1 hh.1)
   have e:∀x,digs (b::x)=(isD b&&digs x):=λx=>rfl
   rw [scan,if_neg h46',hc,e]
   by_cases hd:isD b=true
   ·rw [if_neg (by rw [hd];simp),if_pos (by decide),Qmu t,hd,Bool.true_and]
    split
    ·cases (cutDot t).2 with
     |
      none=>
      simp only [Qgc,List.append_assoc,List.singleton_append,Bool.and_assoc,List.length_cons]
      congr 3
      omega
     |
      some c=>
      simp only [Qgc,List.append_assoc,List.singleton_append,Bool.and_assoc,List.length_cons,List.cons_append]
      split
      ·congr 3;omega
      ·rfl
    ·rfl
   ·have hd2:isD b=false:=by simpa using hd
    rw [if_pos hd2,hd2];rfl
abbrev decD (m:Int×Nat×Int):J0×Bool×Int×Int:=(dg m.1.natAbs,neg m.1,(m.2.1:Int),m.2.2)
theorem decD0 (e:Int):decD (0,0,e)=([],false,0,e):=by unfold decD;simp [Qfa]
theorem Qhr {s t:J1} {below:Bool} {i:Nat} (hs:s.length<=4096) (hi:i<=1) (hil:i<=s.length) (ht:s.drop i=t) :
  z118.j3 s (i:Int) below=some (decD (Jc below (cutDot t).1 (cutDot t).2)):=by
 have r:=Qd8 (s:=s) (by omega) (s.length-i) i [] 0 (-1) true (by omega) (by simp) (by omega) (by omega)
 have e:z118.l0b10 s ((i:Int),[],(0:Int),(-1:Int),true)=some (Qdm (s.length:Int) (scan t [] 0 (-1) true)):=by rw [<-ht];exact r.lfp
 have htl:t.length<=4096:=by rw [<-ht,List.length_drop];omega
 unfold z118.j3
 rw [e,Qmu]
 simp only [Zb,List.nil_append,Int.zero_add,Bool.true_and]
 have fin:∀(all:J1) (n ah bh:Int) (z:Bool) (sc:Nat),Qs all->all.length<=4096->(sc:Int)=max bh 0 ->
   z118.j7 (n,all,ah,bh,z) below=some (decD (if 64<bh then (0,0,10) else (if below then -tv 0 all else tv 0 all,sc,0))):=λall n ah bh z sc hd hl hsc=>by
  unfold z118.j7
  simp only
  by_cases h64:64<bh
  ·rw [bif_t h64,if_pos h64,decD0]
  ·obtain ⟨v,hv⟩:∃v:Nat,tv 0 all=(v:Int):=⟨_,(Int.toNat_of_nonneg (Yx hd).1).symm⟩
   rw [Qa h64,if_neg h64,Qfe hd (by omega),hv]
   simp only [Zb,Zi]
   have em:(if (0:Int)>bh then (0:Int) else bh)=(sc:Int):=by split<;>omega
   rw [em]
   cases below with
   |true=>rw [Ys (z:=-(v:Int)) (by omega) (.inl ⟨rfl,by omega⟩)];rfl
   |false=>rw [Ys (z:=(v:Int)) (by omega) (.inr ⟨rfl,by omega⟩)];rfl
 unfold Jc plainB
 cases hda:digs (cutDot t).1 with
 |
  false=>
  simp only [Bool.false_eq_true,if_false,Bool.and_false,Zo,Bool.true_or,if_true]
  rw [decD0];rfl
 |
  true=>
  have hdd:=Y2.1 hda
  simp only [if_true,Bool.and_true,Bool.not_not]
  cases ho:(cutDot t).2 with
  |
   none=>
   have hct:=Qer ho
   rw [hct] at hdd ⊢
   simp only [Qdm,Option.isSome_none,Bool.false_and,Bool.or_false,Option.getD_none,List.append_nil,List.length_nil]
   by_cases h0:t=[]
   ·subst h0
    rw [bif_t (p:=((([]:J1).length:Nat):Int)=0) rfl,Zt (p:=([]:J1)=[]) rfl]
    simp only [Bool.true_or,if_true]
    rw [decD0]
   ·have hpos:=List.length_pos_iff.2 h0
    rw [Qa (by omega),Qa (by omega),Zf h0]
    simp only [Bool.false_or]
    have hfin:=fin t (s.length:Int) (t.length:Int) (-1) (zeros t) 0 hdd htl (by omega)
    rw [if_neg (by decide)] at hfin
    have rest:(bif below then bif zeros t then some ([],false,0,5) else z118.j7 ((s.length:Int),t,(t.length:Int),-1,zeros t) below else z118.j7 ((s.length:Int),t,(t.length:Int),-1,zeros t) below)=some (decD (if (below&&zeros t)=true then (0,0,5) else (if below then -tv 0 t else tv 0 t,0,0))):=by
     rw [hfin]
     cases below<;>cases zeros t<;>first|rfl|(simp only [Zd,Bool.true_and,if_true];rw [decD0])
    by_cases h1:1<t.length
    ·rw [bif_t (by omega),if_pos (by omega),Zt h1]
     by_cases h48:(t.getD 0 0).toNat=48
     ·rw [bif_t (by omega),Zt h48]
      simp only [Bool.true_and,if_true]
      rw [decD0]
     ·rw [Qa (by omega),Zf h48]
      simp only [Bool.and_false,Bool.false_eq_true,if_false]
      exact rest
    ·rw [Qa (by omega),Zf h1]
     simp only [Bool.false_and,Bool.false_eq_true,if_false]
     exact rest
  |
   some b=>
   have hct:=Qef ho
   generalize (cutDot t).1=a at *
   have hlen:t.length=a.length+(b.length+1):=by rw [hct];simp
   simp only [Option.isSome_some,Bool.true_and,Option.getD_some]
   cases hdb:digs b with
   |
    false=>
    simp only [Qdm,Bool.false_eq_true,if_false,Bool.and_false,Zo,Bool.or_true,Bool.true_or,if_true]
    rw [decD0]
   |
    true=>
    have hdd2:=Y2.1 hdb
    simp only [Qdm,if_true,Bool.and_true,Bool.not_not]
    have hdall:Qs (a++b):=λx hx=>(List.mem_append.1 hx).elim (hdd x) (hdd2 x)
    by_cases h0:a=[]
    ·subst h0
     rw [bif_t (p:=((([]:J1).length:Nat):Int)=0) rfl,Zt (p:=([]:J1)=[]) rfl]
     simp only [Bool.true_or,if_true]
     rw [decD0]
    ·have hpos:=List.length_pos_iff.2 h0
     rw [Qa (by omega),Zf h0]
     by_cases hb0:b=[]
     ·subst hb0
      rw [bif_t (p:=((([]:J1).length:Nat):Int)=0) rfl,Zt (p:=([]:J1)=[]) rfl]
      simp only [Bool.true_or,Bool.or_true,if_true]
      rw [decD0]
     ·have hbpos:=List.length_pos_iff.2 hb0
      rw [Qa (by omega),Zf hb0]
      simp only [Bool.false_or]
      have hz:zeros (a++b)=(zeros a&&zeros b):=by simp [zeros]
      have hg:(a++b).getD 0 0=a.getD 0 0:=by
       rw [Yq (by simp;omega),Yq hpos,List.getElem_append_left hpos]
      have hfin:=fin (a++b) (s.length:Int) (a.length:Int) (b.length:Int) (zeros a&&zeros b) b.length hdall (by rw [List.length_append];omega) (by omega)
      have e64:(64<(b.length:Int))=(64<b.length):=by apply propext;omega
      simp only [e64] at hfin
      have rest:(bif below then bif (zeros a&&zeros b) then some ([],false,0,5) else z118.j7 ((s.length:Int),a++b,(a.length:Int),(b.length:Int),(zeros a&&zeros b)) below else z118.j7 ((s.length:Int),a++b,(a.length:Int),(b.length:Int),(zeros a&&zeros b)) below)=some (decD (if (below&&zeros (a++b))=true then (0,0,5) else if 64<b.length then (0,0,10) else (if below then -tv 0 (a++b) else tv 0 (a++b),b.length,0))):=by
       rw [hfin,hz]
       cases below<;>cases (zeros a&&zeros b)<;>first|rfl|(simp only [Zd,Bool.true_and,if_true];rw [decD0])
      rw [hg]
      by_cases h1:1<a.length
      ·rw [bif_t (by omega),if_pos (by rw [List.length_append];omega),Zt h1]
       by_cases h48:(a.getD 0 0).toNat=48
       ·rw [bif_t (by omega),Zt h48]
        simp only [Bool.true_and,if_true]
        rw [decD0]
       ·rw [Qa (by omega),Zf h48]
        simp only [Bool.and_false,Bool.false_eq_true,if_false]
        exact rest
      ·rw [Qa (by omega),Zf h1]
       simp only [Bool.false_and,Bool.false_eq_true,if_false]
       exact rest
theorem Qyd {s:J1} (hs:s.length<=4096):z118.F s=some (decD (mDec s)):=by
 have h4:¬4096<s.length:=by omega
 unfold z118.F mDec
 rw [if_neg h4]
 cases s with
 |
  nil=>
  rw [Qa (by simp)]
  exact Qhr (s:=[]) (t:=[]) (below:=false) (i:=0) (by simp) (by omega) (by simp) rfl
 |
  cons b t=>
  rw [bif_t (by simp),if_pos (by simp)]
  by_cases h:b=45
  ·subst h
   rw [bif_t (by rfl)]
   exact Qhr (s:=45::t) (t:=t) (below:=true) (i:=1) hs (by omega) (by simp) rfl
  ·have hb:¬((((b::t).getD 0 0).toNat:Int)=45):=λhh=>h (UInt8.toNat_inj.1 (by have e:(b::t).getD 0 0=b:=rfl;rw [e] at hh;show b.toNat=45;omega))
   rw [Qa hb]
   have hc:cutNeg (b::t)=(b::t,false):=by unfold cutNeg;simp [h]
   rw [hc]
   exact Qhr (s:=b::t) (t:=b::t) (below:=false) (i:=0) hs (by omega) (by simp) rfl
theorem Qui {c:Int} {s:Nat} (hs:s<=4096) (hc:sz c.natAbs<=100000000):z119.F (dg c.natAbs) (neg c) (s:Int)=some (rf (mkRat c (10^s))):=by
 have hp:0<10^s:=Nat.pow_pos (by decide)
 have l:=Qb7 s
 unfold z119.F
 rw [Qmg (by omega)]
 simp only [Zb]
 rw [Qci hp hc (by omega)]
 rfl
theorem Qrs {n:Int} {d:Nat} (hd:0<d) (k:Int):k*(mkRat n d).den<(mkRat n d).num↔k*d<n:=by
 have hg:0<Nat.gcd d n.natAbs:=Nat.gcd_pos_of_pos_left _ hd
 have e1:(mkRat n d).num*(Nat.gcd d n.natAbs:Nat)=n:=by
  rw [Rat.num_mkRat,if_neg (by omega)]
  exact Int.ediv_mul_cancel (Int.ofNat_dvd_left.2 (Nat.gcd_dvd_right _ _))
 have e2:((mkRat n d).den:Int)*(Nat.gcd d n.natAbs:Nat)=d:=by
  rw [Rat.den_mkRat,if_neg (by omega)]
  exact_mod_cast Nat.div_mul_cancel (Nat.gcd_dvd_left _ _)
 generalize Nat.gcd d n.natAbs=g at *
 have hg':(0:Int)<(g:Int):=by omega
 have e3:k*(d:Int)=k*(mkRat n d).den*g:=by rw [<-e2,Int.mul_assoc]
 constructor
 ·intro h
  have:=Int.mul_lt_mul_of_pos_right h hg'
  rw [e1] at this
  rw [e3];exact this
 ·intro h
  refine Int.lt_of_mul_lt_mul_right ?_ (Int.le_of_lt hg')
  rw [e1,<-e3];exact h
theorem Qie (n:Int):Rat.divInt n 1=(n:Rat):=by
 rw [show (1:Int)=((1:Nat):Int) from rfl,Rat.divInt_ofNat,Rat.mkRat_eq_div]
 have:(n:Rat)/((1:Nat):Rat)=(n:Rat):=by
  rw [Rat.div_def]
  have:(((1:Nat):Rat))⁻¹=1:=by decide +kernel
  rw [this,Rat.mul_one]
 exact this
theorem Qgm (s:J1):z123.F s=some ((rf (mRate s).1).1,(rf (mRate s).1).2.1,(rf (mRate s).1).2.2,(mRate s).2):=by
 have s0:z117.F 0 1=some (rf 0):=by
  rw [Yi (by omega) (by omega) (by omega),Qie];rfl
 have s1000:z117.F 1000 1=some (rf 1000):=by
  rw [Yi (by omega) (by omega) (by omega),Qie];rfl
 have s100:z117.F 100 1=some (rf 100):=by
  rw [Yi (by omega) (by omega) (by omega),Qie];rfl
 obtain ⟨hb1,hb2⟩:=Qg1 s
 unfold z123.F mRate
 rw [s0]
 simp only [Zb]
 by_cases hl:4096<s.length
 ·have hm:mDec s=(0,0,7):=by unfold mDec;rw [if_pos hl]
  rw [bif_t (by omega),hm,if_pos (by decide)]
 ·rw [Qa (by omega),Qyd (by omega)]
  simp only [Zb,decD]
  generalize mDec s=d at *
  obtain ⟨c,sc,e⟩:=d
  simp only at *
  by_cases h:e=0
  ·rw [Zt h,if_neg (by omega)]
   simp only [Zn,Zc]
   have hp0:0<10^sc:=Nat.pow_pos (by decide)
   have n1:=Qy (Qa1 c hp0)
   have n2:=Qy (Qaw c hp0)
   have l:=Qb7 sc
   have k1:sz (Rat.num 1000).natAbs<=4:=sz_le (by decide)
   have k2:sz (Rat.den 1000)<=1:=sz_le (by decide)
   have k3:sz (Rat.num 100).natAbs<=3:=sz_le (by decide)
   have k4:sz (Rat.den 100)<=1:=sz_le (by decide)
   rw [Qui (by omega) (by omega)]
   simp only [Zb]
   rw [s1000]
   simp only [Zb]
   have hcmp:=Qvw (q:=mkRat c (10^sc)) (r:=1000) (by omega) (by omega)
   rw [hcmp]
   simp only [Zb]
   have hgt:=Qrs (n:=c) hp0 1000
   have e1:(mkRat c (10^sc)).num*((Rat.den 1000:Nat):Int)=(mkRat c (10^sc)).num:=by
    show _*((1:Nat):Int)=_
    simp
   have e2:Rat.num 1000=1000:=rfl
   rw [e1,e2]
   by_cases h1:c<0
   ·rw [bif_t h1,if_pos (.inl h1)]
   ·rw [Qa h1]
    by_cases h2:1000*((10^sc:Nat):Int)<c
    ·rw [bif_t (Wv.2 (hgt.2 h2)),if_pos (.inr (.inl h2))]
    ·rw [Qa (λh=>h2 (hgt.1 (Wv.1 h)))]
     by_cases h3:12<sc
     ·rw [bif_t (by omega),if_pos (.inr (.inr h3))]
     ·rw [Qa (by omega),if_neg (by omega)]
      unfold z123.j6
      rw [s100]
      simp only [Zb]
      rw [Qfh (q:=mkRat c (10^sc)) (r:=100) (by decide) (by omega) (by omega)]
      rfl
  ·rw [Zf h,if_pos h];rfl
theorem Qkw (t:Tm) (hp:t.p.length<=1000000):z126.F t.p t.r t.kind t.basis t.mode t.y t.m t.d t.every t.count=some (mCheck t):=by
 unfold z126.F mCheck
 rw [Qm2 _ hp]
 simp only [Zb,wr4]
 by_cases h1:(mMoney t.p).2=0
 ·rw [Zt h1,if_neg (λhh=>hh h1)]
  simp only [Zn,Zc]
  by_cases h2:(mMoney t.p).1=0
  ·rw [bif_t ((dg_len0 _).2 (by omega)),if_pos h2]
  ·rw [Qa (λhh=>h2 (by have:=(dg_len0 _).1 hh;omega)),if_neg h2,Qgm]
   simp only [Zb]
   by_cases h3:(mRate t.r).2=0
   ·rw [Zt h3,if_neg (λhh=>hh h3)]
    simp only [Zn,Zc]
    have fin:∀b:Bool,(b=true↔Qai t.every)->z126.j3 t.kind t.basis t.mode b t.count t.y t.m t.d t.every=some (if ¬kindsOK t then 2 else if t.count<1\/1200<t.count then 6 else if right t.y t.m t.d/\okM t.y t.m (t.every*t.count) then 0 else 11):=λb hb=>by
     unfold z126.j3 z126.j4 z126.j5
     by_cases g1:t.kind<0
     ·rw [bif_t g1,if_pos (λhh=>by have:=hh.1;omega)]
     ·rw [Qa g1]
      by_cases g2:t.kind>2
      ·rw [bif_t g2,if_pos (λhh=>by have:=hh.1;omega)]
      ·rw [Qa g2]
       by_cases g3:t.basis<0
       ·rw [bif_t g3,if_pos (λhh=>by have:=hh.2.1;omega)]
       ·rw [Qa g3]
        by_cases g4:t.basis>2
        ·rw [bif_t g4,if_pos (λhh=>by have:=hh.2.1;omega)]
        ·rw [Qa g4]
         by_cases g5:t.mode<0
         ·rw [bif_t g5,if_pos (λhh=>by have:=hh.2.2.1;omega)]
         ·rw [Qa g5]
          by_cases g6:t.mode>4
          ·rw [bif_t g6,if_pos (λhh=>by have:=hh.2.2.1;omega)]
          ·rw [Qa g6]
           cases b with
           |
            false=>
            simp only [Zo,Zd]
            rw [if_pos (λhh=>by have:=hb.2 hh.2.2.2;simp at this)]
           |
            true=>
            have he:=hb.1 rfl
            simp only [Zn,Zc]
            rw [if_neg (λhh=>hh ⟨by omega,by omega,by omega,he⟩)]
            by_cases g7:t.count<1
            ·rw [bif_t g7,if_pos (.inl g7)]
            ·rw [Qa g7]
             by_cases g8:t.count>1200
             ·rw [bif_t g8,if_pos (.inr g8)]
             ·have hbd:=Qfk (e:=t.every) (c:=t.count) he (by omega)
              rw [Qa g8,if_neg (by omega),Qoa]
              simp only [Zb]
              by_cases g9:right t.y t.m t.d
              ·rw [Zt g9]
               simp only [Zn,Zc]
               rw [Qc (by omega) (by omega),Qmr g9]
               simp only [Zb]
               by_cases g10:okM t.y t.m (t.every*t.count)
               ·rw [if_pos g10,if_pos ⟨g9,g10⟩];rfl
               ·rw [if_neg g10,if_neg (λhh=>g10 hh.2)];rfl
              ·rw [Zf g9,if_neg (λhh=>g9 hh.1)];rfl
    by_cases e1:t.every=1
    ·rw [bif_t e1];exact fin true ⟨λ_=>by omega,λ_=>rfl⟩
    ·rw [Qa e1]
     by_cases e2:t.every=2
     ·rw [bif_t e2];exact fin true ⟨λ_=>by omega,λ_=>rfl⟩
     ·rw [Qa e2]
      by_cases e3:t.every=3
      ·rw [bif_t e3];exact fin true ⟨λ_=>by omega,λ_=>rfl⟩
      ·rw [Qa e3]
       by_cases e4:t.every=4
       ·rw [bif_t e4];exact fin true ⟨λ_=>by omega,λ_=>rfl⟩
       ·rw [Qa e4]
        by_cases e6:t.every=6
        ·rw [bif_t e6];exact fin true ⟨λ_=>by omega,λ_=>rfl⟩
        ·rw [Qa e6];exact fin _ ⟨λhh=>by have:=of_decide_eq_true hh;omega,λhh=>Zt (by omega)⟩
   ·rw [Zf h3,if_pos h3];rfl
 ·rw [Zf h1,if_pos h1];rfl
theorem Qlr {y m d step:Int} {n:Nat} (hr:right y m d) (hs:1<=step/\step<=12) (hn:n<=1200) (ho:okM y m (n*step)):∀(f k:Nat),k+f=n ->
  Runs (λrec x=>z127.l0P step (n:Int) y m d rec some x) (((k+1:Nat):Int),(Wj y m d step k).map dv) (.inl (((n+1:Nat):Int),(Wj y m d step n).map dv))
 |
  0,k,hk=>by
  have:k=n:=by omega
  subst this
  refine .done λrec=>?_
  unfold z127.l0P
  simp only
  rw [Qa (by omega)]
 |
  f+1,k,hk=>by
  have g:=Q3 hr
  have ih:=Qlr hr hs hn ho f (k+1) (by omega)
  have hb:((k+1:Nat):Int)*step<=n*step:=Int.mul_le_mul_of_nonneg_right (by omega) (by omega)
  have hb0:0<=((k+1:Nat):Int)*step:=Int.mul_nonneg (by omega) (by omega)
  have hb1:(n:Int)*step<=1200*12:=Int.mul_le_mul (by omega) (by omega) (by omega) (by omega)
  refine .step (λrec=>?_) ih
  unfold z127.l0P
  simp only
  rw [bif_t (by omega),Qa (by omega),Qc (n:=((k+1:Nat):Int)*step) (by omega) (by omega),Qmr hr,if_pos (Qh3 ho hb0 hb (by omega))]
  simp only [Zb,Zn,Zc]
  rw [if_pos (by rw [List.length_map,Qhk];simp;omega),Qc (by omega) (by omega),Qk4,List.map_append]
  rfl
theorem Qqj {y m d step:Int} {n:Nat} (hr:right y m d) (hs:1<=step/\step<=12) (hn:n<=1200) (ho:okM y m (n*step)):z127.F y m d step (n:Int)=some ((Wj y m d step n).map dv,0):=by
 have e:z127.l0 step (n:Int) y m d ((1:Int),[])=some (.inl (((n+1:Nat):Int),(Wj y m d step n).map dv)):=(Qlr hr hs hn ho n 0 (by omega)).lfp
 unfold z127.F z127.j1
 rw [Qa (by omega),Qa (by omega),Qa (by omega),Qoa]
 simp only [Zb]
 rw [Zt hr,e]
 rfl
theorem Qxf (t:Tm) (hp:t.p.length<=1000000):z128.F t.p t.r t.kind t.basis t.mode t.y t.m t.d t.every t.count=some (if mCheck t=0 then (t.dates.map dv,0) else ([],mCheck t)):=by
 unfold z128.F
 rw [Qkw t hp]
 simp only [Zb]
 by_cases h:mCheck t=0
 ·obtain ⟨hk,hc,hr,ho⟩:=Ya h
  have he:=Qbl hk.2.2.2
  have ec:t.count=(t.count.toNat:Int):=by omega
  rw [Zt h,if_pos h]
  simp only [Zn,Zc]
  have hs:=Qqj (y:=t.y) (m:=t.m) (d:=t.d) (step:=t.every) (n:=t.count.toNat) hr he (by omega) (by rw [<-ec,Int.mul_comm];exact ho)
  rw [<-ec] at hs
  rw [hs];rfl
 ·rw [Zf h,if_neg h];rfl
theorem Qlb {l:List D3} (hl:l.length<=2000):∀(f i:Nat) (s:J2) (a:D3),i+f=l.length->s.length=i ->
  ∃z,Runs (λrec x=>z129.l0P (l.map dv) rec some x) ((i:Int),s,a.1,a.2.1,a.2.2) ((l.length:Int),s++(pairs a (l.drop i)).map pv,z)
 |
  0,i,s,a,hf,hs=>by
  have:i=l.length:=by omega
  refine ⟨(a.1,a.2.1,a.2.2),.done λrec=>?_⟩
  unfold z129.l0P
  simp only
  rw [Qa (by rw [List.length_map];omega),List.drop_eq_nil_of_le (by omega),this];simp [pairs]
 |
  f+1,i,s,a,hf,hs=>by
  have hi:i<l.length:=by omega
  have hi':(0:Int)<=(i:Int)/\(i:Int)<((l.map dv).length:Int):=by rw [List.length_map];omega
  obtain ⟨z,r⟩:=Qlb hl f (i+1) (s++[pv (a,l[i])]) l[i] (by omega) (by simp;omega)
  refine ⟨z,.step (λrec=>?_) (by rw [List.drop_eq_getElem_cons hi];simp only [pairs,List.map_cons];rw [<-List.append_cons] at r;exact r)⟩
  unfold z129.l0P
  simp only
  rw [bif_t hi'.2,if_pos hi',Zi,Qar dv hi]
  rw [asD0,asD1,asD2,if_pos (by simp;omega),if_pos hi',asD0,asD1,asD2,Qc (by omega) (by omega)]
  rfl
theorem Qrx {t:Tm} (hp:t.p.length<=1000000) (h:mCheck t=0):z129.F t.p t.r t.kind t.basis t.mode t.y t.m t.d t.every t.count=some (t.periods.map pv):=by
 obtain ⟨hk,hc,hr,ho⟩:=Ya h
 have hl:=t.dates_len
 obtain ⟨z,r⟩:=Qlb (l:=t.dates) (by omega) t.dates.length 0 [] t.start (by omega) rfl
 have e:z129.l0 (t.dates.map dv) ((0:Int),[],t.y,t.m,t.d)=_:=r.lfp
 unfold z129.F
 rw [Qxf t hp,if_pos h]
 simp only [Zb]
 rw [e]
 rfl
theorem Good.plen {t:Tm} {most:Int} (h:Good t most):t.p.length<=1000000:=by
 obtain ⟨n,e,h1,h2⟩:=h.money
 have:(txt n).length<=31:=Qbw (by omega) (by decide)
 rw [e];omega
set_option maxRecDepth 100000 in
theorem Qs6:∃tab:J1,tab.length=256 /\
  (∀x j,z61.j8 x j=if (0:Int)<=wr .u8 x/\wr .u8 x<(tab.length:Int) then some (wr .i64 (j+wr .i64 ((tab.getD (wr .u8 x).toNat 0).toNat:Int))) else none) /\
  (∀x j,z61.j10 x j=if (0:Int)<=wr .u8 x/\wr .u8 x<(tab.length:Int) then some (wr .i64 (j+wr .i64 ((tab.getD (wr .u8 x).toNat 0).toNat:Int))) else none) /\
  ∀x:Fin 256,0<x.1->1<=(tab.getD x.1 0).toNat/\(tab.getD x.1 0).toNat<=8/\2^((tab.getD x.1 0).toNat-1)<=x.1/\x.1<2^(tab.getD x.1 0).toNat:=
 ⟨_,rfl,λx j=>rfl,λx j=>rfl,by decide⟩
theorem Qft {x:Nat} (h0:0<x) (h:x<256) {j:Nat} (hj:j<=1000):∃n,n<=7/\2^n<=x/\x<2^(n+1)/\z61.j8 x j=some ((j+n+1:Nat):Int)/\z61.j10 x j=some ((j+n+1:Nat):Int):=by
 obtain ⟨tab,hl,h1,h2,ht⟩:=Qs6
 obtain ⟨t1,t2,t3,t4⟩:=ht ⟨x,h⟩ h0
 simp only at t1 t2 t3 t4
 obtain ⟨n,hn⟩:∃n,(tab.getD x 0).toNat=n+1:=⟨_,(Nat.sub_add_cancel t1).symm⟩
 rw [hn] at t2 t3 t4
 have hw:wr .u8 (x:Int)=x:=Qi7 (by omega) (by omega)
 refine ⟨n,by omega,by simpa using t3,t4,?_,?_⟩
 ·rw [h1,hw,if_pos (by omega),Zi,hn,Qc (n:=((n+1:Nat):Int)) (by omega) (by omega),Qc (by omega) (by omega)]
  congr 1
 ·rw [h2,hw,if_pos (by omega),Zi,hn,Qc (n:=((n+1:Nat):Int)) (by omega) (by omega),Qc (by omega) (by omega)]
  congr 1
theorem Jq (n k:Nat):Int.fdiv (n:Int) (2^k)=((n/2^k:Nat):Int):=by
 rw [Int.fdiv_eq_ediv_of_nonneg _ (by exact_mod_cast Nat.zero_le (2^k))]
 push_cast;rfl
theorem Qcy {x n k:Nat} (h1:2^n<=x/2^k) (h2:x/2^k<2^(n+1)):2^(n+k)<=x/\x<2^(n+k+1):=by
 have hp:=Nat.pos_of_ne_zero (show 2^k≠0 by exact Nat.ne_of_gt (Nat.two_pow_pos k))
 have:=(Nat.le_div_iff_mul_le hp).1 h1
 have:=(Nat.div_lt_iff_lt_mul hp).1 h2
 rw [Nat.pow_add,show n+k+1=(n+1)+k by omega,Nat.pow_add]
 omega
set_option maxRecDepth 100000 in
theorem Ql3 {x:Nat} (h0:0<x) (h:x<4294967296) {j:Nat} (hj:j<=100):∃n,n<=31/\2^n<=x/\x<2^(n+1)/\z61.j2 x j=some ((j+n+1:Nat):Int):=by
 unfold z61.j2
 rw [show min 16 64=16 from rfl,show min 8 64=8 from rfl,Jq,Jq,Jq]
 by_cases h1:65536<=x
 ·rw [bif_t (by omega),Qc (n:=(j:Int)+16) (by omega) (by omega),Qc (n:=(j:Int)+16+8) (by omega) (by omega)]
  have b1:0<x/2^16/\x/2^16<65536:=by omega
  by_cases h2:256<=x/2^16
  ·rw [bif_t (by omega)]
   obtain ⟨n,n1,n2,n3,n4,_⟩:=Qft (x:=x/2^16/2^8) (by omega) (by omega) (j:=j+24) (by omega)
   obtain ⟨m2,m3⟩:=Qcy n2 n3
   obtain ⟨m2,m3⟩:=Qcy (n:=n+8) m2 m3
   refine ⟨n+8+16,by omega,m2,m3,?_⟩
   refine (congrArg (z61.j8 _) (show ((j:Int)+16+8)=((j+24:Nat):Int) by omega)).trans (n4.trans ?_)
   congr 2;omega
  ·rw [Qa (by omega)]
   obtain ⟨n,n1,n2,n3,n4,_⟩:=Qft (x:=x/2^16) (by omega) (by omega) (j:=j+16) (by omega)
   obtain ⟨m2,m3⟩:=Qcy n2 n3
   refine ⟨n+16,by omega,m2,m3,?_⟩
   refine (congrArg (z61.j8 _) (show ((j:Int)+16)=((j+16:Nat):Int) by omega)).trans (n4.trans ?_)
   congr 2;omega
 ·rw [Qa (by omega)]
  by_cases h2:256<=x
  ·rw [bif_t (by omega),Qc (n:=(j:Int)+8) (by omega) (by omega)]
   obtain ⟨n,n1,n2,n3,_,n4⟩:=Qft (x:=x/2^8) (by omega) (by omega) (j:=j+8) (by omega)
   obtain ⟨m2,m3⟩:=Qcy n2 n3
   refine ⟨n+8,by omega,m2,m3,?_⟩
   refine (congrArg (z61.j10 _) (show ((j:Int)+8)=((j+8:Nat):Int) by omega)).trans (n4.trans ?_)
   congr 2;omega
  ·rw [Qa (by omega)]
   obtain ⟨n,n1,n2,n3,_,n4⟩:=Qft (x:=x) (by omega) (by omega) (j:=j) (by omega)
   exact ⟨n,by omega,n2,n3,n4⟩
theorem bits_Len64 {x:Nat} (h0:0<x) (h:x<18446744073709551616):∃n,n<=63/\2^n<=x/\x<2^(n+1)/\z61.F x=some ((n+1:Nat):Int):=by
 unfold z61.F
 rw [show min 32 64=32 from rfl,Jq]
 by_cases h1:4294967296<=x
 ·rw [bif_t (by omega)]
  obtain ⟨n,n1,n2,n3,n4⟩:=Ql3 (x:=x/2^32) (by omega) (by omega) (j:=32) (by omega)
  obtain ⟨m2,m3⟩:=Qcy n2 n3
  refine ⟨n+32,by omega,m2,m3,?_⟩
  refine n4.trans ?_
  congr 2;omega
 ·rw [Qa (by omega)]
  obtain ⟨n,n1,n2,n3,n4⟩:=Ql3 (x:=x) (by omega) (by omega) (j:=0) (by omega)
  refine ⟨n,by omega,n2,n3,?_⟩
  refine n4.trans ?_
  congr 2;omega
theorem Qou {x:Nat} (h0:0<x) (h:x<18446744073709551616):∃s,s<=63/\9223372036854775808<=x*2^s/\x*2^s<18446744073709551616/\z62.F x=some ((s:Nat):Int):=by
 obtain ⟨n,n1,n2,n3,n4⟩:=bits_Len64 h0 h
 have e1:2^n*2^(63-n)=9223372036854775808:=by rw [<-Nat.pow_add,show n+(63-n)=63 by omega]
 have e2:2^(n+1)*2^(63-n)=18446744073709551616:=by rw [<-Nat.pow_add,show n+1+(63-n)=64 by omega]
 refine ⟨63-n,by omega,?_,?_,?_⟩
 ·rw [<-e1];exact Nat.mul_le_mul_right _ n2
 ·rw [<-e2];exact Nat.mul_lt_mul_of_pos_right n3 (Nat.two_pow_pos _)
 ·unfold z62.F
  rw [n4]
  simp only [Zb]
  rw [Qc (by omega) (by omega)]
  congr 1;omega
end Go.Proofs.YtgjncgiekniniaaGreatDoor.A
end
section
set_option linter.unusedSectionVars false
namespace Go.Proofs.YtgjncgiekniniaaGreatDoor.A
open Go
structure Qc1 (y1 y0 u u0:Nat) (q r:Nat):Prop where
 eq:q*y1+r=u
 ge:(u*4294967296+u0)/(y1*4294967296+y0)<=q
 le:q<=4294967297
 lt:r<4294967296
theorem Qej (B:Nat) {y1 y0 u q r:Nat} (he:q*y1+r=u):q*(y1*B+y0)+r*B=u*B+q*y0:=by
 rw [<-he,Nat.add_mul,Nat.mul_add,Nat.mul_assoc]
 omega
theorem Qrc {B A A2 u u0 r:Nat} (h:A+r*B=u*B+A2) (hc:r*B+u0<A2):u*B+u0<A:=by omega
section
variable {y1 y0 u u0:Nat} (h1:2147483648<=y1) (h1':y1<4294967296) (h0:y0<4294967296) (hu:u<y1*4294967296+y0) (hu0:u0<4294967296)
include h1 h1' h0 hu hu0
theorem Qwa:Qc1 y1 y0 u u0 (u/y1) (u%y1):=by
 have hy:0<y1:=by omega
 refine ⟨by rw [Nat.mul_comm];exact Nat.div_add_mod u y1,?_,?_,?_⟩
 ·rw [Nat.le_div_iff_mul_le hy]
  have hd:=Nat.div_mul_le_self (u*4294967296+u0) (y1*4294967296+y0)
  generalize (u*4294967296+u0)/(y1*4294967296+y0)=Q at *
  rw [Nat.mul_add,<-Nat.mul_assoc] at hd
  generalize Q*y1=A at *
  generalize Q*y0=B at *
  omega
 ·have:u/y1<4294967298:=by
   rw [Nat.div_lt_iff_lt_mul hy];omega
  omega
 ·have:=Nat.mod_lt u hy;omega
theorem Qty:(u*4294967296+u0)/(y1*4294967296+y0)<4294967296:=by
 rw [Nat.div_lt_iff_lt_mul (by omega)];omega
theorem Qt8 {q r:Nat} (h:Qc1 y1 y0 u u0 q r) (hc:4294967296<=q\/r*4294967296+u0<q*y0):(u*4294967296+u0)/(y1*4294967296+y0)<q:=by
 rcases hc with hc|hc
 ·exact Nat.lt_of_lt_of_le (Qty h1 h1' h0 hu hu0) hc
 ·have:=Qej 4294967296 (y0:=y0) h.eq
  have hlt:u*4294967296+u0<q*(y1*4294967296+y0):=Qrc this hc
  exact (Nat.div_lt_iff_lt_mul (show 0<y1*4294967296+y0 by omega)).2 hlt
theorem Qkf {q r:Nat} (he:q*y1+r=u) (ge:(u*4294967296+u0)/(y1*4294967296+y0)<=q) (hc:q*y0<=r*4294967296+u0):q=(u*4294967296+u0)/(y1*4294967296+y0):=by
 refine Nat.le_antisymm ?_ ge
 rw [Nat.le_div_iff_mul_le (by omega)]
 have:=Qej 4294967296 (y0:=y0) he
 omega
theorem Qmk {q r:Nat} (h:Qc1 y1 y0 u u0 q r) (hc:(u*4294967296+u0)/(y1*4294967296+y0)<q):(q-1)*y1+(r+y1)=u/\(u*4294967296+u0)/(y1*4294967296+y0)<=q-1:=by
 generalize (u*4294967296+u0)/(y1*4294967296+y0)=Q at hc ⊢
 obtain ⟨k,rfl⟩:∃k,q=k+1:=⟨q-1,by omega⟩
 have:=h.eq
 rw [Nat.add_mul] at this
 simp only [Nat.add_sub_cancel]
 omega
theorem Qp3 {q r:Nat} (h:Qc1 y1 y0 u u0 q r) (hc:(u*4294967296+u0)/(y1*4294967296+y0)<q) (hr:4294967296<=r+y1):q-1=(u*4294967296+u0)/(y1*4294967296+y0):=by
 obtain ⟨n1,n2⟩:=Qmk h1 h1' h0 hu hu0 h hc
 refine Qkf h1 h1' h0 hu hu0 n1 n2 ?_
 have hq:=h.le
 have:(q-1)*y0<=4294967296*4294967295:=Nat.mul_le_mul (by omega) (by omega)
 omega
theorem Qkm {F:(Int×Int->Option (Int×Int))->Int×Int->Option (Int×Int)} (mk:Int->Int->Int×Int)
  (hF:∀(q r:Nat),q<=4294967297->r<4294967296->∀rec,F rec (mk q r) =
   if 4294967296<=q\/r*4294967296+u0<q*y0 then (if 4294967296<=r+y1 then some (mk ((q-1:Nat):Int) ((r+y1:Nat):Int)) else rec (mk ((q-1:Nat):Int) ((r+y1:Nat):Int))) else some (mk q r)) :
  ∃r:Nat,lfp F (mk ((u/y1:Nat):Int) ((u%y1:Nat):Int))=some (mk (((u*4294967296+u0)/(y1*4294967296+y0):Nat):Int) r):=by
 have key:∀(f q r:Nat),q<f->Qc1 y1 y0 u u0 q r->∃r':Nat,Runs F (mk q r) (mk (((u*4294967296+u0)/(y1*4294967296+y0):Nat):Int) r'):=by
  intro f
  induction f with
  |zero=>intro q r h;omega
  |
   succ f ih=>
   intro q r hq h
   by_cases hc:4294967296<=q\/r*4294967296+u0<q*y0
   ·have hlt:=Qt8 h1 h1' h0 hu hu0 h hc
    by_cases hr:4294967296<=r+y1
    ·refine ⟨r+y1,.done λrec=>?_⟩
     rw [hF q r h.le h.lt,if_pos hc,if_pos hr,Qp3 h1 h1' h0 hu hu0 h hlt hr]
    ·obtain ⟨n1,n2⟩:=Qmk h1 h1' h0 hu hu0 h hlt
     have hle:=h.le
     have hq1:0<q:=Nat.lt_of_le_of_lt (Nat.zero_le _) hlt
     obtain ⟨r',hr'⟩:=ih (q-1) (r+y1) (by omega) ⟨n1,n2,by omega,by omega⟩
     exact ⟨r',.step (λrec=>by rw [hF q r h.le h.lt,if_pos hc,if_neg hr]) hr'⟩
   ·refine ⟨r,.done λrec=>?_⟩
    rw [hF q r h.le h.lt,if_neg hc,<-Qkf h1 h1' h0 hu hu0 h.eq h.ge (by omega)]
 obtain ⟨r',hr'⟩:=key (u/y1+1) _ _ (by omega) (Qwa h1 h1' h0 hu hu0)
 exact ⟨r',hr'.lfp⟩
theorem Qnl {q r:Nat} (hq:q<=4294967297) (hr:r<4294967296) (h:¬4294967296<=q):(wr .u64 ((q:Int)*y0)>wr .u64 (wr .u64 ((4294967296:Int)*r)+u0))↔r*4294967296+u0<q*y0:=by
 have hm:q*y0<=4294967295*4294967295:=Nat.mul_le_mul (by omega) (by omega)
 rw [<-Int.natCast_mul q y0,Qm (n:=((q*y0:Nat):Int)) (by omega) (by omega),Qm (n:=(4294967296:Int)*r) (by omega) (by omega),Qm (by omega) (by omega)]
 omega
theorem Qtd:∃r:Nat,z63.l0b8 y1 y0 u0 (((u/y1:Nat):Int),((u%y1:Nat):Int))=some ((((u*4294967296+u0)/(y1*4294967296+y0):Nat):Int),(r:Int)):=by
 refine Qkm h1 h1' h0 hu hu0 (λq r=>(q,r)) (F:=λrec x=>z63.l0b8P y1 y0 u0 rec some x) λq r hq hr rec=>?_
 simp only [z63.l0b8P]
 rw [Qm (n:=(r:Int)+y1) (by omega) (by omega)]
 by_cases hq2:4294967296<=q
 ·rw [bif_t (by omega),if_pos (.inl hq2),Qm (n:=(q:Int)-1) (by omega) (by omega)]
  by_cases hr2:4294967296<=r+y1
  ·rw [bif_t (by omega),if_pos hr2];congr 2<;>omega
  ·rw [Qa (by omega),if_neg hr2];congr 2<;>omega
 ·rw [Qa (by omega)]
  have ht:=Qnl h1 h1' h0 hu hu0 hq hr hq2
  by_cases hc:r*4294967296+u0<q*y0
  ·have hq0:0<q:=Nat.pos_of_ne_zero λh=>by subst h;omega
   rw [bif_t (ht.2 hc),if_pos (.inr hc),Qm (n:=(q:Int)-1) (by omega) (by omega)]
   by_cases hr2:4294967296<=r+y1
   ·rw [bif_t (by omega),if_pos hr2];congr 2<;>omega
   ·rw [Qa (by omega),if_neg hr2];congr 2<;>omega
  ·rw [Qa (λh=>hc (ht.1 h)),if_neg (by omega)]
theorem Qtl:∃r:Nat,z63.l2b8 y1 y0 u0 (((u%y1:Nat):Int),((u/y1:Nat):Int))=some ((r:Int),(((u*4294967296+u0)/(y1*4294967296+y0):Nat):Int)):=by
 refine Qkm h1 h1' h0 hu hu0 (λq r=>(r,q)) (F:=λrec x=>z63.l2b8P y1 y0 u0 rec some x) λq r hq hr rec=>?_
 simp only [z63.l2b8P]
 rw [Qm (n:=(r:Int)+y1) (by omega) (by omega)]
 by_cases hq2:4294967296<=q
 ·rw [bif_t (by omega),if_pos (.inl hq2),Qm (n:=(q:Int)-1) (by omega) (by omega)]
  by_cases hr2:4294967296<=r+y1
  ·rw [bif_t (by omega),if_pos hr2];congr 2<;>omega
  ·rw [Qa (by omega),if_neg hr2];congr 2<;>omega
 ·rw [Qa (by omega)]
  have ht:=Qnl h1 h1' h0 hu hu0 hq hr hq2
  by_cases hc:r*4294967296+u0<q*y0
  ·have hq0:0<q:=Nat.pos_of_ne_zero λh=>by subst h;omega
   rw [bif_t (ht.2 hc),if_pos (.inr hc),Qm (n:=(q:Int)-1) (by omega) (by omega)]
   by_cases hr2:4294967296<=r+y1
   ·rw [bif_t (by omega),if_pos hr2];congr 2<;>omega
   ·rw [Qa (by omega),if_neg hr2];congr 2<;>omega
  ·rw [Qa (λh=>hc (ht.1 h)),if_neg (by omega)]
end
end Go.Proofs.YtgjncgiekniniaaGreatDoor.A
end
section
namespace Go.Proofs.YtgjncgiekniniaaGreatDoor.A
open Go
theorem Qbr {n:Nat} (h:n<18446744073709551616):(BitVec.ofInt (IntKind.bits .u64) (n:Int)).toNat=n:=by
 show (BitVec.ofInt 64 (n:Int)).toNat=n
 rw [BitVec.toNat_ofInt]
 omega
theorem Qnb {n:Nat} (h:n<18446744073709551616):wr .u64 ((BitVec.ofInt (IntKind.bits .u64) (n:Int) &&& BitVec.ofInt (IntKind.bits .u64) (4294967295:Int)).toNat:Int)=((n%4294967296:Nat):Int):=by
 rw [BitVec.toNat_and,Qbr h,show (4294967295:Int)=((4294967295:Nat):Int) from rfl,Qbr (by omega),show 4294967295=2^32-1 from rfl,Nat.and_two_pow_sub_one_eq_mod,Qm (by omega) (by omega)]
theorem Qop {a b s:Nat} (hb:b<2^s) (h:a*2^s+b<18446744073709551616):wr .u64 ((BitVec.ofInt (IntKind.bits .u64) ((a*2^s:Nat):Int) ||| BitVec.ofInt (IntKind.bits .u64) (b:Int)).toNat:Int)=((a*2^s+b:Nat):Int):=by
 rw [BitVec.toNat_or,Qbr (by omega),Qbr (by omega),Nat.mul_comm,<-Nat.two_pow_add_eq_or_of_lt hb,Qm (by omega) (by rw [Nat.mul_comm] at h;omega)]
theorem Qqa {B V Y U u1 u0:Nat} (hV:V=(U*B+u1)*B+u0) (hY:0<Y) (h0:u0<B) :
  V/Y=(U*B+u1)/Y*B+((U*B+u1)%Y*B+u0)/Y/\V%Y=((U*B+u1)%Y*B+u0)%Y:=by
 have h1:=Nat.div_add_mod (U*B+u1) Y
 generalize hA:U*B+u1=A at *
 generalize A/Y=q at *
 generalize A%Y=r at *
 have e:V=(r*B+u0)+Y*(q*B):=by
  rw [hV,<-h1,Nat.add_mul,Nat.mul_assoc];omega
 rw [e,Nat.add_mul_div_left _ _ hY,Nat.add_mul_mod_self_left]
 exact ⟨by omega,rfl⟩
theorem Qsl {B V Y U u1 u0:Nat} (hV:V=(U*B+u1)*B+u0) (hY:0<Y) (h0:u0<B) (hU:U<Y) (h1:u1<B) :
  ∃q1 U2 q0 U3,(U*B+u1)/Y=q1/\(U2*B+u0)/Y=q0/\Y*q1+U2=U*B+u1/\U2<Y/\Y*q0+U3=U2*B+u0/\U3<Y/\q1<B/\q0<B/\V/Y=q1*B+q0/\V%Y=U3:=by
 obtain ⟨a,b⟩:=Qqa hV hY h0
 have l:∀{u v:Nat},u<Y->v<B->(u*B+v)/Y<B:=λ{u v} hu hv=>by
  rw [Nat.div_lt_iff_lt_mul hY]
  have:=Nat.mul_le_mul_right B (show u+1<=Y from hu)
  rw [Nat.add_mul,Nat.one_mul] at this
  rw [Nat.mul_comm B Y];omega
 have hr:=Nat.mod_lt (U*B+u1) hY
 exact ⟨_,_,_,_,rfl,rfl,Nat.div_add_mod _ _,hr,Nat.div_add_mod _ _,Nat.mod_lt _ hY,l hU h1,l hr h0,a,b⟩
theorem Qkd {hi lo s:Nat} (hs:s<=64):(hi*18446744073709551616+lo)*2^s=(hi*2^s+lo/2^(64-s))*18446744073709551616+lo*2^s%18446744073709551616:=by
 have e:18446744073709551616=2^(64-s)*2^s:=by rw [<-Nat.pow_add,show 64-s+s=64 by omega]
 have h:lo/2^(64-s)=lo*2^s/18446744073709551616:=by
  rw [e,Nat.mul_div_mul_right _ _ (Nat.two_pow_pos s)]
 rw [h,Nat.add_mul,Nat.add_mul,Nat.mul_right_comm,Nat.add_assoc]
 have:=Nat.div_add_mod (lo*2^s) 18446744073709551616
 omega
theorem bits_Div64 {hi lo y:Nat} (h:hi<y) (hlo:lo<18446744073709551616) (hy:y<18446744073709551616) :
  z63.F hi lo y=some ((((hi*18446744073709551616+lo)/y:Nat):Int),(((hi*18446744073709551616+lo)%y:Nat):Int)):=by
 rcases Nat.eq_zero_or_pos hi with h0|h0
 ·subst h0
  have:=Qk0 (a:=(lo:Int)) (b:=(y:Int)) (by omega) (by omega)
  rw [show ((0:Nat):Int)=0 from rfl,this,Nat.zero_mul,Nat.zero_add]
  rfl
 obtain ⟨s,hs,s1,s2,hlead⟩:=Qou (x:=y) (by omega) hy
 unfold z63.F
 rw [Qa (by omega),Qa (by omega),Qa (by omega),hlead]
 simp only [Zb]
 have hp:=Nat.two_pow_pos s
 have hV:=Qkd (hi:=hi) (lo:=lo) (s:=s) (by omega)
 have hlt:(hi*18446744073709551616+lo)*2^s<y*2^s*18446744073709551616:=by
  rw [Nat.mul_right_comm];exact Nat.mul_lt_mul_of_pos_right (by omega) hp
 have hb:lo/2^(64-s)<2^s:=by
  rw [Nat.div_lt_iff_lt_mul (Nat.two_pow_pos _),<-Nat.pow_add,show s+(64-s)=64 by omega];exact hlo
 have hqy:=Nat.mul_div_mul_right (hi*18446744073709551616+lo) y hp
 have hmy:=Nat.mul_mod_mul_right (2^s) (hi*18446744073709551616+lo) y
 have e1:wr .u64 (s:Int)=s:=Qm (by omega) (by omega)
 have e4:wr .u64 ((64:Int)-s)=((64-s:Nat):Int):=by rw [Qm (by omega) (by omega)];omega
 have e5:min (64-s) 64=64-s:=by omega
 have e3:min s 64=s:=by omega
 have eY:wr .u64 ((y:Int)*2^s)=((y*2^s:Nat):Int):=by
  rw [show (y:Int)*2^s=((y*2^s:Nat):Int) by push_cast;rfl,Qm (by omega) (by omega)]
 have eL:wr .u64 ((lo:Int)*2^s)=((lo*2^s%18446744073709551616:Nat):Int):=by
  rw [show (lo:Int)*2^s=((lo*2^s:Nat):Int) by push_cast;rfl,Wo];rfl
 have hUY:hi*2^s+lo/2^(64-s)<y*2^s:=by
  have:(hi*2^s+lo/2^(64-s))*18446744073709551616<y*2^s*18446744073709551616:=by omega
  exact Nat.lt_of_mul_lt_mul_right this
 have hHi:=Nat.lt_of_le_of_lt (Nat.le_add_right (hi*2^s) (lo/2^(64-s))) (Nat.lt_trans hUY s2)
 have eH:wr .u64 ((hi:Int)*2^s)=((hi*2^s:Nat):Int):=by
  rw [show (hi:Int)*2^s=((hi*2^s:Nat):Int) by push_cast;rfl,Qm (by omega) (by omega)]
 have eO:=Qop (a:=hi) (s:=s) hb (by omega)
 simp only [e1,e4,Zi,e3,e5,eY,eL,eH,Jq,eO,show min 32 64=32 from rfl]
 generalize hU:hi*2^s+lo/2^(64-s)=U at *
 generalize hYe:y*2^s=Y at *
 generalize hLe:lo*2^s%18446744073709551616=L at *
 have hL:L<18446744073709551616:=by rw [<-hLe];exact Nat.mod_lt _ (by omega)
 have aY:=Qnb s2;have aL:=Qnb hL
 simp only [aY,aL,show (2:Nat)^32=4294967296 from rfl]
 rw [if_pos (by omega),if_pos (by omega),if_pos (by omega),if_pos (by omega)]
 generalize hy1:Y/4294967296=y1 at *
 generalize hy0:Y%4294967296=y0 at *
 generalize hu1:L/4294967296=u1 at *
 generalize hu0:L%4294967296=u0 at *
 have hYd:Y=y1*4294967296+y0:=by omega
 have hLd:L=u1*4294967296+u0:=by omega
 have b1:2147483648<=y1/\y1<4294967296:=by omega
 have b0:y0<4294967296:=by omega
 have b2:u1<4294967296:=by omega
 have b3:u0<4294967296:=by omega
 rw [if_neg (by omega)]
 have hYp:0<Y:=by omega
 obtain ⟨q1,U2,q0,U3,dq1,dq0,m1,m2,m3,m4,hq1,hq0,V1,V2⟩:=Qsl (B:=4294967296) (V:=U*18446744073709551616+L) (Y:=Y) (U:=U) (u1:=u1) (u0:=u0) (by omega) hYp b3 hUY b2
 have first:∀{u:Nat},u<18446744073709551616->wr .u64 (Int.tdiv (u:Int) (y1:Int))=((u/y1:Nat):Int)/\wr .u64 ((u:Int)-wr .u64 (wr .u64 (Int.tdiv (u:Int) (y1:Int))*(y1:Int)))=((u%y1:Nat):Int):=λ{u} hu=>by
  have h1:=Nat.div_le_self u y1
  have h2:=Nat.div_add_mod u y1
  have h3:Int.tdiv (u:Int) (y1:Int)=((u/y1:Nat):Int):=by rw [W1 (by omega)];rfl
  rw [h3]
  generalize u/y1=q at *
  generalize u%y1=r at *
  rw [Qm (n:=(q:Int)) (by omega) (by omega)]
  refine ⟨rfl,?_⟩
  rw [Nat.mul_comm] at h2
  rw [show (q:Int)*(y1:Int)=((q*y1:Nat):Int) from rfl]
  generalize q*y1=P at *
  rw [Qm (n:=(P:Int)) (by omega) (by omega),Qm (by omega) (by omega)]
  omega
 obtain ⟨f1,f2⟩:=first (u:=U) (by omega)
 simp only [f2]
 rw [f1]
 obtain ⟨r1,d1⟩:=Qtd (y1:=y1) (y0:=y0) (u:=U) (u0:=u1) b1.1 b1.2 b0 (by omega) b2
 rw [d1,<-hYd,dq1]
 simp only [Zb]
 rw [if_neg (by omega)]
 have eU2:wr .u64 (wr .u64 (wr .u64 ((U:Int)*4294967296)+(u1:Int))-wr .u64 ((q1:Int)*(Y:Int)))=(U2:Int):=by
  rw [show (q1:Int)*(Y:Int)=((Y*q1:Nat):Int) by push_cast;exact Int.mul_comm _ _,Wo,Wo,Wo,Wo]
  generalize Y*q1=P at m1 ⊢
  clear d1 V1 V2 m3 m4 dq1 dq0 hV hlt hqy hmy
  omega
 simp only [eU2]
 obtain ⟨g1,g2⟩:=first (u:=U2) (by omega)
 simp only [g2]
 rw [g1]
 obtain ⟨r2,d2⟩:=Qtl (y1:=y1) (y0:=y0) (u:=U2) (u0:=u0) b1.1 b1.2 b0 (by omega) b3
 rw [d2,<-hYd,dq0]
 simp only [Zb]
 rw [if_pos (by omega)]
 have eU3:wr .u64 (wr .u64 (wr .u64 ((U2:Int)*4294967296)+(u0:Int))-wr .u64 ((q0:Int)*(Y:Int)))=(U3:Int):=by
  rw [show (q0:Int)*(Y:Int)=((Y*q0:Nat):Int) by push_cast;exact Int.mul_comm _ _,Wo,Wo,Wo,Wo]
  generalize Y*q0=P at m3 ⊢
  clear d1 d2 V1 V2 m1 dq1 dq0 hV hlt hqy hmy
  omega
 rw [eU3,Jq,Qm (n:=(q1:Int)*4294967296) (by omega) (by omega),Qm (by omega) (by omega)]
 rw [hV,V1] at hqy
 rw [hV,V2] at hmy
 rw [<-hqy,hmy,Nat.mul_div_cancel _ hp]
 rfl
theorem Qox {a:J0} {b N:Nat} (ha:inB LB a) (hb:0<b) (hb':b<18446744073709551616) (hl:a.length<=800000000) (hN:(N:Int)=valB LB a) :
  ∀
   (k:Nat),k<=a.length->∀(m:Nat) (q:J0),(m:Int)=valB LB (a.drop k)->q.length=a.length->inB LB q->valB LB (q.drop k)=((m/b:Nat):Int) ->
   ∃q',Runs (λrec x=>z64.l0P a b rec some x) (((m%b:Nat):Int),(k:Int)-1,q) (((N%b:Nat):Int),(-1:Int),q')/\q'.length=a.length/\inB LB q'/\valB LB q'=((N/b:Nat):Int)
 |
  0,hk,m,q,hm,hq,hi,hv=>by
  have:m=N:=by rw [List.drop_zero] at hm;omega
  subst this
  refine ⟨q,.done λrec=>?_,hq,hi,by rwa [List.drop_zero] at hv⟩
  unfold z64.l0P
  simp only
  rw [Qa (by omega)];rfl
 |
  k+1,hk,m,q,hm,hq,hi,hv=>by
  have hka:k<a.length:=by omega
  have hkq:k<q.length:=by omega
  have hd:=Qw (B:=LB) (by decide) ha k
  obtain ⟨d,hd'⟩:∃d:Nat,a.getD k 0=(d:Int):=⟨(a.getD k 0).toNat,by omega⟩
  have hd2:d<18446744073709551616:=by rw [hd'] at hd;exact_mod_cast hd.2
  obtain ⟨r,hr⟩:∃r,m%b=r:=⟨_,rfl⟩
  have hrb:r<b:=hr▸Nat.mod_lt m hb
  obtain ⟨x,hx⟩:∃x,r*18446744073709551616+d=x:=⟨_,rfl⟩
  have hxb:x<b*18446744073709551616:=by omega
  obtain ⟨z,hz⟩:∃z,x/b=z:=⟨_,rfl⟩
  obtain ⟨w,hw⟩:∃w,x%b=w:=⟨_,rfl⟩
  obtain ⟨y,hy⟩:∃y,m/b=y:=⟨_,rfl⟩
  have hq1:z<18446744073709551616:=hz▸Nat.div_lt_of_lt_mul hxb
  have hmm:b*y+r=m:=by rw [<-hy,<-hr];exact Nat.div_add_mod m b
  have hm':((d+LB*m:Nat):Int)=valB LB (a.drop k):=by rw [Q4,hd',<-hm,Int.natCast_add,Int.natCast_mul]
  have e:d+LB*m=x+b*(LB*y):=by
   have h4:b*(LB*y)=LB*(b*y):=by rw [<-Nat.mul_assoc,Nat.mul_comm b LB,Nat.mul_assoc]
   have h5:LB*m=LB*(b*y)+LB*r:=by rw [<-hmm,Nat.mul_add]
   rw [h4,h5,<-hx,Nat.mul_comm r];show _=18446744073709551616*r+d+LB*(b*y)
   have:LB*r=18446744073709551616*r:=rfl
   omega
  have hdiv:(d+LB*m)/b=z+LB*y:=by rw [e,Nat.add_mul_div_left _ _ hb,hz]
  have hmod:(d+LB*m)%b=w:=by rw [e,Nat.add_mul_mod_self_left,hw]
  have hvq:valB LB ((q.set k (z:Int)).drop k)=(((d+LB*m)/b:Nat):Int):=by
   rw [Q4,Qff,hv,hdiv,hy]
   have:(q.set k (z:Int)).getD k 0=(z:Int):=by simp [List.getD,hkq]
   rw [this,Int.natCast_add,Int.natCast_mul]
  obtain ⟨q',r1,r2,r3,r4⟩:=Qox ha hb hb' hl hN k (by omega) (d+LB*m) (q.set k (z:Int)) hm' (by simp [hq]) (Ww hi (by show (0:Int)<=(z:Int)/\(z:Int)<((18446744073709551616:Nat):Int);omega)) hvq
  rw [hmod] at r1
  refine ⟨q',.step (λrec=>?_) r1,r2,r3,r4⟩
  have ek:((k+1:Nat):Int)-1=(k:Int):=by omega
  unfold z64.l0P
  simp only
  rw [ek,bif_t (by omega),if_pos (by omega),Zi,hd',hr,bits_Div64 hrb hd2 hb',hx,hz,hw]
  simp only [Zb]
  rw [if_pos (by omega),if_pos hkq,Qc (by omega) (by omega)]
theorem quot_by {a b:Nat} (hb:0<b) (hb':b<18446744073709551616) (ha:(lb a).length<=800000000):∃q,z64.F (lb a) (b:Int)=some (q,((a%b:Nat):Int))/\q.length=(lb a).length/\inB LB q/\valB LB q=((a/b:Nat):Int):=by
 obtain ⟨q',r1,r2,r3,r4⟩:=Qox (a:=lb a) (b:=b) (N:=a) (Qu bL a) hb hb' ha (by rw [Q0 bL]) (lb a).length (Nat.le_refl _) 0 (List.replicate (lb a).length 0) (by rw [List.drop_length];rfl) (by simp) (Jx (by decide) _) (by rw [List.drop_eq_nil_of_le (by simp)];simp [valB])
 rw [Nat.zero_mod] at r1
 have e:z64.l0 (lb a) (b:Int) ((0:Int),((lb a).length:Int)-1,List.replicate (lb a).length 0)=some (((a%b:Nat):Int),(-1:Int),q'):=r1.lfp
 refine ⟨q',?_,r2,r3,r4⟩
 unfold z64.F
 rw [if_pos (by omega),Zi,Qc (by omega) (by omega),e]
 rfl
theorem Qnj {a b:Nat} (hb:0<b) (hb':b<18446744073709551616) (ha:(lb a).length<=800000000):Yp a b:=by
 rcases Nat.lt_or_ge a b with h|h
 ·exact Qgu h (by omega)
 ·have hl:(lb b).length<=1:=W3 bL (by simpa using hb')
  obtain ⟨q,q1,q2,q3,q4⟩:=quot_by hb hb' ha
  unfold Yp z68.F
  rw [Wl]
  simp only [Zb]
  rw [Qa (by omega),Qcb (by omega)]
  simp only [Zb]
  have:¬cmpI (a:Int) b<0:=by unfold cmpI;rw [if_neg (by omega)];split<;>omega
  rw [Qa this,Jp (by show List.length _<=_;omega),Jp (by show List.length _<=_;omega)]
  simp only [Zb]
  rw [Qe8 hb hb',List.length_singleton,bif_t (by omega),if_pos (by omega),show [(b:Int)].getD 0 0=b from rfl,q1]
  simp only [Zb]
  rw [Qcf q3 (by show List.length _<=_;omega),q4]
  simp only [Zb]
  have hm:=Nat.mod_lt a hb
  rw [W4 (by omega)]
  rfl
inductive Rem (len:Nat):Nat->Nat->List Int->Prop
 |stop (j:Nat) (h:len<=j):Rem len 0 j []
 |step (n j:Nat) (ds:List Int) (h:0<n\/j<len) (hr:Rem len (n/10) (j+1) ds):Rem len n j (((n%10:Nat):Int)::ds)
def asc (d:Int):Int:=48+d
theorem Qp8 {s:J0} {i:Nat} {x:Int} (h:i<s.length):(s.set i x).drop i=x::s.drop (i+1):=by
 rw [List.drop_eq_getElem_cons (by simpa using h),Qff]
 simp
theorem Qv1 {len:Nat} (hlen:len<=20) {n j:Nat} {ds:J0} (h:Rem len n j ds):n<18446744073709551616->j+ds.length<=20->∀s:J0,s.length=20 ->
  ∃s',Runs (λrec x=>z130.l0b4P (len:Int) rec some x) ((n:Int),((20-j:Nat):Int),s) ((0:Int),((20-j-ds.length:Nat):Int),s')/\s'.length=20/\s'.drop (20-j-ds.length)=ds.reverse.map asc++s.drop (20-j):=by
 induction h with
 |
  stop j h=>
  intro _ hj s hs
  simp only [List.length_nil,Nat.add_zero] at hj
  refine ⟨s,.done λrec=>?_,hs,by simp⟩
  unfold z130.l0b4P
  simp only [List.length_nil,Nat.sub_zero]
  rw [Qa (by omega),Qc (by omega) (by omega),Qa (by omega)]
  rfl
 |
  step n j ds h hr ih=>
  intro hn hj s hs
  simp only [List.length_cons] at hj
  have hi:20-(j+1)<s.length:=by omega
  obtain ⟨s',r1,r2,r3⟩:=ih (by omega) (by omega) (s.set (20-(j+1)) (asc ((n%10:Nat):Int))) (by simpa using hs)
  refine ⟨s',?_,r2,?_⟩
  ·rw [List.length_cons,show 20-j-(ds.length+1)=20-(j+1)-ds.length by omega]
   refine .step (λrec=>?_) r1
   have e1:wr .i64 (((20-j:Nat):Int)-1)=((20-(j+1):Nat):Int):=by rw [Qc (by omega) (by omega)];omega
   have e2:wr .u64 (Int.tdiv (n:Int) 10)=((n/10:Nat):Int):=by rw [W1 (by omega),Qm (by omega) (by omega)];rfl
   have e3:wr .u8 (wr .u64 (48+Int.tmod (n:Int) 10))=asc ((n%10:Nat):Int):=by
    rw [Yv (by omega),Qm (by omega) (by omega),Qi7 (by omega) (by omega)];rfl
   unfold z130.l0b4P
   simp only [e1,e2,e3]
   rcases Nat.eq_zero_or_pos n with h0|h0
   ·have hjl:j<len:=h.resolve_left (by omega)
    rw [Qa (by omega),Qc (by omega) (by omega),bif_t (by omega),if_pos (by omega),Zi,if_pos hi]
   ·rw [bif_t (by omega),if_pos (by omega),Zi,if_pos hi]
  ·rw [List.length_cons,show 20-j-(ds.length+1)=20-(j+1)-ds.length by omega,r3,Qp8 hi,show 20-(j+1)+1=20-j by omega]
   simp
theorem Qpx {ds:J0} (h:inB 10 ds):(ds.map asc).map (λn=>UInt8.ofNat n.toNat)=ds.map ch:=by
 rw [List.map_map]
 refine List.map_congr_left λd hd=>?_
 have:=h d hd
 show UInt8.ofNat (48+d).toNat=UInt8.ofNat (48+d.toNat)
 rw [show (48+d).toNat=48+d.toNat by omega]
theorem Rem.inB {len n j:Nat} {ds:J0} (h:Rem len n j ds):inB 10 ds:=by
 induction h with
 |stop=>exact inB_nil _
 |step n j ds h hr ih=>exact We.2 ⟨by omega,ih⟩
theorem Qrg {B:Nat} {l:J0} (h:inB B l):inB B l.reverse:=λx hx=>h x (by simpa using hx)
theorem Qw3 {len n:Nat} {ds:J0} (hlen:len<=20) (hn:n<18446744073709551616) (h:Rem len n 0 ds) (hd:ds.length<=20):z130.F (n:Int) (len:Int)=some (ds.reverse.map ch):=by
 obtain ⟨s',r1,r2,r3⟩:=Qv1 hlen h hn (by omega) (List.replicate 20 0) (by simp)
 have e:z130.l0b4 (len:Int) ((n:Int),(20:Int),List.replicate 20 (0:Int))=some ((0:Int),((20-0-ds.length:Nat):Int),s'):=r1.lfp
 unfold z130.F
 rw [e]
 simp only [Zb]
 have hl:(s'.drop (20-0-ds.length)).length=ds.length:=by rw [List.length_drop];omega
 rw [if_pos r2,if_pos (by omega),Zi,List.take_of_length_le (by rw [hl];omega),r3]
 simp only [Nat.sub_zero,List.drop_replicate,Nat.sub_self,List.replicate_zero,List.append_nil]
 rw [Qpx (Qrg h.inB)]
def lsd:Nat->Nat->J0
 |0,_=>[]
 |k+1,n=>((n%10:Nat):Int)::lsd k (n/10)
theorem Qeb:∀(k n:Nat),(lsd k n).length=k
 |0,_=>rfl
 |k+1,n=>by simp [lsd,Qeb k]
theorem Qjn {len:Nat}:∀(k n j:Nat),j+k=len->n<10^k->Rem len n j (lsd k n)
 |
  0,n,j,hj,hn=>by
  have:n=0:=by simpa using hn
  subst this;exact .stop j (by omega)
 |k+1,n,j,hj,hn=>.step n j _ (.inr (by omega)) (Qjn k (n/10) (j+1) (by omega) (by rw [Nat.pow_succ] at hn;omega))
theorem Quw {len:Nat} (n:Nat):∀j,(len<=j\/0<n/\len<=j+1)->Rem len n j (toB 10 n):=by
 induction n using Nat.strongRecOn with
 |
  _ n ih=>
  intro j hj
  rcases Nat.eq_zero_or_pos n with h0|h0
  ·subst h0;rw [toB_zero];exact .stop j (by omega)
  ·rw [Wp b10 h0]
   exact .step n j _ (.inl h0) (ih _ (Nat.div_lt_self h0 (by decide)) (j+1) (.inl (by omega)))
theorem Qi8:∀(k low q:Nat),0<q->low<10^k->toB 10 (low+10^k*q)=lsd k low++toB 10 q
 |
  0,low,q,hq,hl=>by
  have:low=0:=by simpa using hl
  subst this;simp [lsd]
 |
  k+1,low,q,hq,hl=>by
  have hp:0<10^k:=Nat.pow_pos (by decide)
  have hpq:0<10^k*q:=Nat.mul_pos hp hq
  have e:low+10^(k+1)*q=low+10*(10^k*q):=by rw [Nat.pow_succ,Nat.mul_comm (10^k),Nat.mul_assoc]
  rw [e,Wp b10 (by omega),lsd]
  rw [Nat.add_mul_mod_self_left,Nat.add_mul_div_left _ _ (by decide),Qi8 k (low/10) q hq (by rw [Nat.pow_succ] at hl;omega)]
  rfl
inductive Groups:Nat->List (List UInt8)->Prop
 |zero:Groups 0 []
 |last (n:Nat) (h0:0<n) (h:n<10^18):Groups n [(toB 10 n).reverse.map ch]
 |more (low q:Nat) (gs:List (List UInt8)) (hl:low<10^18) (h0:0<q) (hg:Groups q gs):Groups (low+10^18*q) (((lsd 18 low).reverse.map ch)::gs)
theorem Groups.text {n:Nat} {gs:List J1} (h:Groups n gs):gs.reverse.flatten=(toB 10 n).reverse.map ch:=by
 induction h with
 |zero=>rw [toB_zero];rfl
 |last n h0 h=>simp
 |
  more low q gs hl h0 hg ih=>
  rw [List.reverse_cons,List.flatten_append,ih,Qi8 18 low q h0 hl,List.reverse_append,List.map_append]
  simp
theorem Groups.pos {n:Nat} {gs:List J1} (h:Groups n gs):∀g∈gs,1<=g.length:=by
 induction h with
 |zero=>intro g hg;simp at hg
 |
  last n h0 h=>
  intro g hg
  simp only [List.mem_singleton] at hg;subst hg
  rw [Wp b10 h0];simp
 |
  more low q gs hl h0 hg ih=>
  intro g hg
  rcases List.mem_cons.1 hg with rfl|hg
  ·simp [Qeb]
  ·exact ih g hg
theorem Qka:∀{gs:List J1},(∀g∈gs,1<=g.length)->gs.length<=gs.flatten.length
 |[],_=>by simp
 |
  g::gs,h=>by
  have:=h g (by simp)
  have:=Qka λg' h'=>h g' (List.mem_cons_of_mem _ h')
  simp only [List.length_cons,List.flatten_cons,List.length_append];omega
theorem Groups.len {n:Nat} {gs:List J1} (h:Groups n gs):gs.length<=sz n/\gs.flatten.length=sz n:=by
 have ht:=congrArg List.length h.text
 have e:gs.reverse.flatten.length=gs.flatten.length:=by
  simp only [List.length_flatten,List.map_reverse,List.sum_reverse]
 rw [e] at ht
 have ht:gs.flatten.length=sz n:=by rw [ht];unfold sz;simp
 exact ⟨by rw [<-ht];exact Qka h.pos,ht⟩
theorem Qvq (l:J0) (hl:l.length<=1):z131.l2 l (((l.length:Nat):Int)) ((0:Int),(0:Int))=some (l.getD 0 0,(l.length:Int)):=by
 match l,hl with
 |
  [],_=>
  refine (Runs.done λrec=>?_:Runs (λrec x=>z131.l2P [] _ rec some x) _ _).lfp
  unfold z131.l2P
  simp only [List.length_nil]
  rw [Qa (by omega)];rfl
 |
  [x],_=>
  refine (Runs.step (y:=(x,(1:Int))) (λrec=>?_) (Runs.done λrec=>?_):Runs (λrec x'=>z131.l2P [x] _ rec some x') _ _).lfp
  ·unfold z131.l2P
   simp only [List.length_singleton]
   rw [bif_t (by omega),if_pos (by omega),Qc (by omega) (by omega)];rfl
  ·unfold z131.l2P
   simp only [List.length_singleton]
   rw [Qa (by omega)];rfl
theorem Qri {n:Nat} (h:n<18446744073709551616):(lb n).getD 0 0=(n:Int)/\(lb n).length<=1:=by
 rcases Nat.eq_zero_or_pos n with rfl|h0
 ·rw [lb_zero];simp
 ·rw [Qe8 h0 h];simp
theorem Qjq {low:Nat} {len:Nat} {ds:J0} (hlen:len<=20) (hl:low<18446744073709551616) (hr:Rem len low 0 ds) (hd:ds.length<=20) {gs:List J1} (hg:gs.length<=800000000) {rec done:(J0×List J1)->Option (J0×List J1)} {y:Int} {r:J0×J0×Int} :
  z131.j1010a rec done ((low:Int),y) (len:Int) gs r=rec (r.1,gs++[ds.reverse.map ch]):=by
 unfold z131.j1010a
 rw [Qw3 hlen hl hr hd]
 simp only [Zb,List.length_singleton]
 rw [if_pos (by omega)]
theorem Qt3:∀(n:Nat),sz n<=100000000->∀gs:List J1,gs.length+sz n<=700000000->∃l,Groups n l/\Runs (λrec x=>z131.l0P rec some x) (lb n,gs) ([],gs++l):=by
 intro n
 induction n using Nat.strongRecOn with
 |
  _ n ih=>
  intro hs gs hg
  obtain ⟨U,hU⟩:∃U,U=1000000000000000000:=⟨_,rfl⟩
  have hU10:10^18=U:=by rw [hU]
  rcases Nat.eq_zero_or_pos n with h0|h0
  ·subst h0
   refine ⟨[],.zero,.done λrec=>?_⟩
   unfold z131.l0P
   simp only [Wl,Zb]
   rw [lb_zero,List.append_nil];rfl
  ·have hUp:0<U:=by omega
   have hdm:=Nat.div_add_mod n U
   have hml:=Nat.mod_lt n hUp
   have hdl:n/U<=n:=Nat.div_le_self _ _
   have hD:Yp n U:=Qnj hUp (by omega) (by have:=Qh n;omega)
   have hqlt:n/U<n:=Nat.div_lt_self h0 (by omega)
   obtain ⟨q,hq⟩:∃q,n/U=q:=⟨_,rfl⟩
   obtain ⟨low,hlow⟩:∃low,n%U=low:=⟨_,rfl⟩
   unfold Yp at hD
   rw [hq] at hdm hdl hD hqlt;rw [hlow] at hdm hml hD
   have hsq:sz q<=sz n:=Qy hdl
   obtain ⟨g1,g2⟩:=Qri (n:=low) (by omega)
   have hof:z38.F [(1000000000000000000:Int)]=some (lb U):=by rw [W4 (by omega),hU];rfl
   have hl2:=Qvq (lb low) g2
   rw [g1] at hl2
   have body:∀{rec done:(J0×List J1)->Option (J0×List J1)},z131.l0P rec done (lb n,gs) =
     (bif decide (q=0) then z131.j1010a rec done ((low:Int),((lb low).length:Int)) 1 gs (lb q,lb low,0) else z131.j1010a rec done ((low:Int),((lb low).length:Int)) 18 gs (lb q,lb low,0)):=λ{rec done}=>by
    unfold z131.l0P
    simp only [Wl,Zb]
    rw [Zf (by omega),Zo,Zd,hof]
    simp only [Zb]
    rw [hD]
    simp only [Zb]
    rw [Jp (by show List.length _<=_;omega)]
    simp only [Zb]
    rw [hl2]
    simp only [Zb,Wl]
   rcases Nat.eq_zero_or_pos q with hq0|hq0
   ·subst hq0
    have hn:n=low:=by omega
    subst hn
    have hsz:sz n<=18:=sz_le (by rw [hU10];exact hml)
    refine ⟨[(toB 10 n).reverse.map ch],.last n h0 (by rw [hU10];exact hml),.step (y:=([],gs++[(toB 10 n).reverse.map ch])) (λrec=>?_) (.done λrec=>?_)⟩
    ·rw [body,bif_t rfl]
     refine (Qjq (len:=1) (by omega) (by omega) (Quw n 0 (.inr ⟨h0,by omega⟩)) (by show sz n<=20;omega) (by omega)).trans ?_
     rw [lb_zero]
    ·unfold z131.l0P
     rw [<-lb_zero]
     simp only [Wl,Zb]
     rw [lb_zero];rfl
   ·obtain ⟨l,l1,l2⟩:=ih q hqlt (by omega) (gs++[(lsd 18 low).reverse.map ch]) (by
     have h1:sz q<sz n:=by
      have:=congrArg List.length (Qi8 18 low q hq0 (by rw [hU10];exact hml))
      rw [List.length_append,Qeb,hU10,show low+U*q=n by omega] at this
      unfold sz;omega
     simp only [List.length_append,List.length_singleton];omega)
    have hgn:Groups n (((lsd 18 low).reverse.map ch)::l):=by
     have:=Groups.more low q l (by rw [hU10];exact hml) hq0 l1
     rwa [hU10,show low+U*q=n by omega] at this
    refine ⟨_,hgn,.step (y:=(lb q,gs++[(lsd 18 low).reverse.map ch])) (λrec=>?_) (by rw [show gs++((lsd 18 low).reverse.map ch)::l=(gs++[(lsd 18 low).reverse.map ch])++l by simp];exact l2)⟩
    rw [body,Qa (by omega)]
    exact Qjq (len:=18) (by omega) (by omega) (Qjn 18 low 0 (by omega) (by rw [hU10];exact hml)) (by rw [Qeb];omega) (by omega)
def byts (s:J1):J0:=s.map λc=>(c.toNat:Int)
theorem Qua (a b:J1):byts (a++b)=byts a++byts b:=by simp [byts]
theorem Qvz (s:J1):(byts s).all Qb2=true:=by
 rw [List.all_eq_true]
 intro x hx
 obtain ⟨c,_,rfl⟩:=List.mem_map.1 hx
 have:=c.toNat_lt
 simp [Qb2];omega
theorem Qut (s:J1):(byts s).map (λn=>UInt8.ofNat n.toNat)=s:=by
 unfold byts
 rw [List.map_map]
 conv=>rhs;rw [<-List.map_id s]
 exact List.map_congr_left λc _=>by simp
theorem Qeo (s:J1):(byts s).length=s.length:=by simp [byts]
theorem Qnr {gs:List J1} (hg:gs.length<=800000000) (hs:gs.flatten.length<=100000000):∀(k:Nat),k<=gs.length->∀acc:J1,acc.length+(gs.take k).flatten.length<=100000000 ->
  ∃i,Runs (λrec x=>z131.l4P gs rec some x) ((k:Int)-1,byts acc) (i,byts (acc++(gs.take k).reverse.flatten))
 |
  0,hk,acc,ha=>⟨-1,by
  refine .done λrec=>?_
  unfold z131.l4P
  simp only
  rw [Qa (by omega)];simp⟩
 |
  k+1,hk,acc,ha=>by
  have hk':k<gs.length:=by omega
  have hget:gs.getD k []=gs[k]:=by simp [List.getD,hk']
  have htk:gs.take (k+1)=gs.take k++[gs[k]]:=by rw [List.take_add_one,List.getElem?_eq_getElem hk'];rfl
  have hfl:(gs.take (k+1)).flatten.length=(gs.take k).flatten.length+gs[k].length:=by rw [htk,List.flatten_append,List.length_append,List.flatten_singleton]
  obtain ⟨i,hi⟩:=Qnr hg hs k (by omega) (acc++gs[k]) (by rw [List.length_append];omega)
  refine ⟨i,.step (λrec=>?_) (by rw [htk,List.reverse_append,List.reverse_singleton,List.flatten_append,List.flatten_singleton,<-List.append_assoc];exact hi)⟩
  unfold z131.l4P
  simp only
  rw [show ((k+1:Nat):Int)-1=(k:Int) by omega,bif_t (by omega),if_pos (by omega),Zi,if_pos hk',hget]
  change (if ((byts acc).length+(byts gs[k]).length)*1<=140737488355328 then _ else none)=_
  rw [Qeo,Qeo,if_pos (by omega),Qc (by omega) (by omega),Qua]
  rfl
theorem digits_Print {n:Nat} (hs:sz n<=100000000):z131.F (lb n)=some (txt n):=by
 unfold z131.F
 rw [Wl]
 simp only [Zb]
 rcases Nat.eq_zero_or_pos n with h0|h0
 ·subst h0;rfl
 rw [Qa (by omega)]
 obtain ⟨gs,g1,g2⟩:=Qt3 n hs [] (by simp only [List.length_nil];omega)
 have e0:z131.l0 (lb n,[])=some ([],gs):=g2.lfp
 obtain ⟨l1,l2⟩:=g1.len
 have ht:=g1.text
 have hn:0<gs.length:=by
  cases gs with
  |nil=>exfalso;cases g1;omega
  |cons=>simp
 rw [e0]
 simp only [Zb]
 obtain ⟨k,hk⟩:∃k,gs.length=k+1:=⟨gs.length-1,by omega⟩
 have hk':k<gs.length:=by omega
 have hget:gs.getD k []=gs[k]:=by simp [List.getD,hk']
 have htk:gs=gs.take k++[gs[k]]:=by
  have:=List.take_add_one (l:=gs) (i:=k)
  rw [List.getElem?_eq_getElem hk',List.take_of_length_le (by omega)] at this;exact this
 have hfl:gs.flatten.length=(gs.take k).flatten.length+gs[k].length:=by
  conv=>lhs;rw [htk]
  rw [List.flatten_append,List.length_append,List.flatten_singleton]
 rw [hk,Qc (n:=((k+1:Nat):Int)-1) (by omega) (by omega),show ((k+1:Nat):Int)-1=(k:Int) by omega,bif_t (by omega),if_pos (by omega),Zi,if_pos (by omega),hget]
 change (if (0+(byts gs[k]).length)*1<=140737488355328 then ((z131.l4 gs (wr .i64 ((k:Int)-1),[]++byts gs[k])).bind _) else none)=_
 rw [Qeo,if_pos (by omega),Qc (by omega) (by omega),List.nil_append]
 obtain ⟨i,hi⟩:=Qnr (gs:=gs) (by omega) (by omega) k (by omega) gs[k] (by omega)
 have e4:z131.l4 gs ((k:Int)-1,byts gs[k])=some (i,byts (gs[k]++(gs.take k).reverse.flatten)):=hi.lfp
 have hall:gs[k]++(gs.take k).reverse.flatten=gs.reverse.flatten:=by
  conv=>rhs;rw [htk]
  rw [List.reverse_append,List.reverse_singleton,List.flatten_append,List.flatten_singleton]
 rw [e4,hall]
 simp only [Zb]
 have hlen:gs.reverse.flatten.length=sz n:=by rw [ht];unfold sz;simp
 have hszp:0<sz n:=by omega
 rw [Qeo,if_pos (by omega),if_pos ⟨trivial,by omega,Qvz _⟩,Qut,ht]
 unfold txt
 rw [if_neg (by omega)]
def itxt (z:Int):J1:=if z<0 then 45::txt z.natAbs else txt z.natAbs
theorem Qmp (n:Nat):(txt n).length<=sz n+1:=by
 unfold txt;split
 ·simp
 ·unfold sz;simp
theorem Qbh {z:Int} (hs:sz z.natAbs<=100000000):z132.F (lb z.natAbs) (neg z)=some (itxt z):=by
 have:=Qmp z.natAbs
 unfold z132.F itxt
 by_cases h:z<0
 ·rw [bif_t h,digits_Print hs,if_pos h]
  simp only [Zb]
  rw [if_pos (by simp only [List.length_singleton];omega)];rfl
 ·rw [Qa h,digits_Print hs,if_neg h];rfl
theorem Qc7 {z:Int} (hs:sz z.natAbs<=100000000):z6.F (dg z.natAbs) (neg z)=some (itxt z):=by
 have h1:=Qmp z.natAbs
 have h2:=Qo z.natAbs
 exact Qiu (by omega) (by omega)
theorem Qcr (s:J1):sz (mMoney s).1.natAbs<=31:=by
 unfold mMoney
 have hm:∀e:Int,sz (Int.natAbs ((0:Int),e).1)<=31:=λe=>by show sz 0<=31;rw [Jl];omega
 split
 ·exact hm _
 ·split
  ·exact hm _
  ·rename_i h;exact sz_le (by
    have:(10:Int)^30=1000000000000000000000000000000:=by decide
    rw [this] at h
    simp only;omega)
theorem Qhy (s:J1):sz (mRate s).1.num.natAbs<=100/\sz (mRate s).1.den<=100:=by
 obtain ⟨hb1,hb2⟩:=Qg1 s
 have h0:sz (Rat.num 0).natAbs<=100/\sz (Rat.den 0)<=100:=by
  show sz 0<=100/\sz 1<=100
  exact ⟨by rw [Jl];omega,Nat.le_trans (sz_le (k:=1) (by decide)) (by omega)⟩
 unfold mRate
 generalize mDec s=d at *
 obtain ⟨c,sc,e⟩:=d
 simp only at *
 by_cases h:e≠0
 ·rw [if_pos h];exact h0
 rw [if_neg h]
 by_cases h2:c<0\/1000*((10^sc:Nat):Int)<c\/12<sc
 ·rw [if_pos h2];exact h0
 rw [if_neg h2]
 have hp12:10^sc<=10^12:=Nat.pow_le_pow_right (by decide) (by omega)
 have hp0:0<10^sc:=Nat.pow_pos (by decide)
 have n1:=Qa1 c hp0
 have n2:=Qaw c hp0
 have hd0:=(mkRat c (10^sc)).den_pos
 generalize mkRat c (10^sc)=q at *
 have e1:q/100=mkRat q.num (q.den*100):=by
  rw [Qiz,show (100:Rat).den=1 from rfl,show (100:Rat).num=100 from rfl,<-Rat.divInt_ofNat]
  simp
 have m1:=Qa1 q.num (show 0<q.den*100 by omega)
 have m2:=Qaw q.num (show 0<q.den*100 by omega)
 rw [e1]
 show sz (mkRat q.num (q.den*100)).num.natAbs<=100/\sz (mkRat q.num (q.den*100)).den<=100
 exact ⟨Nat.le_trans (sz_le (k:=20) (by omega)) (by omega),Nat.le_trans (sz_le (k:=20) (by omega)) (by omega)⟩
end Go.Proofs.YtgjncgiekniniaaGreatDoor.A
end
section
set_option linter.unusedSectionVars false
namespace Go.Proofs.YtgjncgiekniniaaGreatDoor.A
open Go
section
variable {U3 D2 P ul dl:Nat} (hul:ul<P) (hdl:dl<P) (h0:0<D2)
include hul hdl h0
theorem Qk7:(U3*P+ul)/(D2*P+dl)<=U3/D2:=by
 rw [Nat.le_div_iff_mul_le h0]
 have hQ:=Nat.div_mul_le_self (U3*P+ul) (D2*P+dl)
 generalize (U3*P+ul)/(D2*P+dl)=Q at *
 have h1:Q*D2*P<=Q*(D2*P+dl):=by rw [Nat.mul_assoc];exact Nat.mul_le_mul_left _ (Nat.le_add_right _ _)
 have h2:Q*D2*P<(U3+1)*P:=by rw [Nat.add_mul,Nat.one_mul];omega
 have:=Nat.lt_of_mul_lt_mul_right h2
 omega
theorem Qqm {B:Nat} (hD:B<=D2) (hq:U3/D2<B):U3/D2<=(U3*P+ul)/(D2*P+dl)+1:=by
 have hDp:0<D2*P+dl:=by
  have:=Nat.mul_pos h0 (show 0<P by omega);omega
 have hQ:=Nat.lt_mul_div_succ (U3*P+ul) hDp
 have hq3:=Nat.div_mul_le_self U3 D2
 generalize (U3*P+ul)/(D2*P+dl)=Q at *
 generalize U3/D2=q at *
 rcases Nat.lt_or_ge (Q+1) q with h|h
 ·exfalso
  have e1:(Q+2)*(D2*P+dl)<=q*(D2*P+dl):=Nat.mul_le_mul_right _ (by omega)
  have e2:q*(D2*P+dl)=q*D2*P+q*dl:=by rw [Nat.mul_add,Nat.mul_assoc]
  have e3:q*D2*P<=U3*P:=Nat.mul_le_mul_right _ hq3
  have e4:q*dl<=B*P:=Nat.mul_le_mul (by omega) (by omega)
  have e5:(Q+2)*(D2*P+dl)=(D2*P+dl)*(Q+1)+(D2*P+dl):=by
   rw [show Q+2=(Q+1)+1 by omega,Nat.add_mul,Nat.one_mul,Nat.mul_comm]
  have e6:B*P<=D2*P:=Nat.mul_le_mul_right _ hD
  generalize (D2*P+dl)*(Q+1)=X at *
  generalize (Q+2)*(D2*P+dl)=Y at *
  generalize q*(D2*P+dl)=Z at *
  generalize q*D2*P=W at *
  generalize q*dl=V at *
  generalize B*P=T at *
  generalize D2*P=S at *
  generalize U3*P=R at *
  have hlt:q*dl<1->True:=λ_=>trivial
  omega
 ·exact h
end
theorem Qqk {B d1 d2 top next third P ul dl:Nat} (h1:B<=2*d1) (hd2:d2<B) (hul:ul<P) (hdl:dl<P) (ht:d1<=top)
  (hU:((top*B+next)*B+third)*P+ul<((d1*B+d2)*P+dl)*B) :
  (((top*B+next)*B+third)*P+ul)/((d1*B+d2)*P+dl)<=B-1/\B-1<=(((top*B+next)*B+third)*P+ul)/((d1*B+d2)*P+dl)+1:=by
 have hP:0<P:=by omega
 have hB:0<B:=by omega
 have hD0:d1*B*P<=(d1*B+d2)*P+dl:=Nat.le_trans (Nat.mul_le_mul_right _ (Nat.le_add_right _ _)) (Nat.le_add_right _ _)
 have hDp:0<(d1*B+d2)*P+dl:=by
  have:=Nat.mul_pos (Nat.mul_pos (show 0<d1 by omega) hB) hP;omega
 have hD1:(d1*B+d2)*P+dl<(d1*B+B)*P:=by
  have:(d1*B+d2+1)*P<=(d1*B+B)*P:=Nat.mul_le_mul_right _ (by omega)
  rw [Nat.add_mul _ 1,Nat.one_mul] at this;omega
 have hU0:d1*B*B*P<=((top*B+next)*B+third)*P+ul:=by
  refine Nat.le_trans (Nat.mul_le_mul_right _ ?_) (Nat.le_add_right _ _)
  refine Nat.le_trans (Nat.mul_le_mul_right _ ?_) (Nat.le_add_right _ _)
  exact Nat.le_trans (Nat.mul_le_mul_right _ ht) (Nat.le_add_right _ _)
 generalize ((top*B+next)*B+third)*P+ul=U at *
 generalize (d1*B+d2)*P+dl=D at *
 have hQ:=Nat.lt_mul_div_succ U hDp
 have hQB:U/D<B:=Nat.div_lt_of_lt_mul hU
 refine ⟨by omega,?_⟩
 generalize U/D=Q at *
 rcases Nat.lt_or_ge (Q+1) (B-1) with h|h
 ·exfalso
  have e1:D*(Q+3)<=D*B:=Nat.mul_le_mul_left _ (by omega)
  have e2:D*(Q+3)=D*(Q+1)+2*D:=by rw [show Q+3=(Q+1)+2 by omega,Nat.mul_add,Nat.mul_comm D 2]
  have e3:D*B<=(d1*B+B)*P*B:=Nat.mul_le_mul_right _ (Nat.le_of_lt hD1)
  have e4:(d1*B+B)*P*B=d1*B*B*P+B*B*P:=by
   rw [Nat.add_mul,Nat.add_mul,Nat.mul_right_comm _ P B,Nat.mul_right_comm B P B]
  have e5:B*B*P<=2*(d1*B*P):=by
   rw [<-Nat.mul_assoc,<-Nat.mul_assoc]
   exact Nat.mul_le_mul_right _ (Nat.mul_le_mul_right _ h1)
  generalize D*(Q+1)=X at *
  generalize D*(Q+3)=Y at *
  generalize (d1*B+B)*P*B=Z at *
  generalize d1*B*B*P=W at *
  generalize B*B*P=V at *
  generalize d1*B*P=T at *
  omega
 ·exact h
theorem Qvu {B d1 d2 top next third:Nat} (h1:B<=2*d1) (hd2:d2<B) (ht:top<d1) (hn:next<B) :
  (top*B+next)/d1<=((top*B+next)*B+third)/(d1*B+d2)+2/\(top*B+next)/d1<B:=by
 have hB:0<B:=by omega
 have hd:0<d1:=by omega
 have hq:(top*B+next)/d1<B:=by
  refine Nat.div_lt_of_lt_mul ?_
  have:(top+1)*B<=d1*B:=Nat.mul_le_mul_right _ ht
  rw [Nat.add_mul,Nat.one_mul] at this;omega
 refine ⟨?_,hq⟩
 have hm:=Nat.div_mul_le_self (top*B+next) d1
 generalize (top*B+next)/d1=q at *
 generalize top*B+next=U2 at *
 rcases Nat.lt_or_ge q 2 with h|h
 ·exact Nat.le_trans (Nat.le_of_lt h) (Nat.le_add_left 2 _)
 obtain ⟨k,rfl⟩:∃k,q=k+2:=⟨q-2,by omega⟩
 have:k<=(U2*B+third)/(d1*B+d2):=by
  rw [Nat.le_div_iff_mul_le (by have:=Nat.mul_pos hd hB;omega)]
  have e1:k*(d1*B+d2)=k*d1*B+k*d2:=by rw [Nat.mul_add,Nat.mul_assoc]
  have e2:k*d2<=B*B:=Nat.mul_le_mul (by omega) (by omega)
  have e3:B*B<=2*d1*B:=Nat.mul_le_mul_right _ h1
  have e4:(k+2)*d1*B<=U2*B:=Nat.mul_le_mul_right _ hm
  have e5:(k+2)*d1*B=k*d1*B+2*d1*B:=by rw [Nat.add_mul,Nat.add_mul]
  omega
 omega
theorem Qsn {B d1 d2 U2 third q r:Nat} (he:q*d1+r=U2) (hd2:0<d1*B+d2) (hc:r*B+third<q*d2):(U2*B+third)/(d1*B+d2)<q:=by
 rw [Nat.div_lt_iff_lt_mul hd2]
 have:=Qej B (y0:=d2) he
 omega
theorem Qwz {B d1 d2 U2 third q r:Nat} (he:q*d1+r=U2) (hd2:0<d1*B+d2) (hg:(U2*B+third)/(d1*B+d2)<=q) (hc:q*d2<=r*B+third):q=(U2*B+third)/(d1*B+d2):=by
 refine Nat.le_antisymm ?_ hg
 rw [Nat.le_div_iff_mul_le hd2]
 have:=Qej B (y0:=d2) he
 omega
end Go.Proofs.YtgjncgiekniniaaGreatDoor.A
end
section
namespace Go.Proofs.YtgjncgiekniniaaGreatDoor.A
open Go
theorem Qcm (B:Nat) {l:J0} {i k:Nat} (h:i+k<=l.length):valB B (l.drop i)=valB B ((l.drop i).take k)+(B^k:Nat)*valB B (l.drop (i+k)):=by
 have h1:=Qdr B ((l.drop i).take k) ((l.drop i).drop k)
 rw [List.take_append_drop,List.drop_drop,List.length_take,List.length_drop,Nat.min_eq_left (by omega)] at h1
 exact h1
theorem Qan (B:Nat) {l:J0} {k:Nat} (h:k<=l.length):valB B l=valB B (l.take k)+(B^k:Nat)*valB B (l.drop k):=by
 have:=Qcm B (l:=l) (i:=0) (k:=k) (by omega)
 rwa [List.drop_zero,Nat.zero_add] at this
theorem high {l:J0} {i n:Nat} (hn:2<=n) (hl:i+n<l.length) (hz:valB LB (l.drop (i+n+1))=0) :
  valB LB (l.drop i)=((l.getD (i+n) 0*18446744073709551616+l.getD (i+n-1) 0)*18446744073709551616+l.getD (i+n-2) 0)*(LB^(n-2):Nat)+valB LB ((l.drop i).take (n-2)):=by
 rw [Qcm LB (l:=l) (i:=i) (k:=n-2) (by omega)]
 have e1:=Q4 (B:=LB) l (i+n-2)
 have e2:=Q4 (B:=LB) l (i+n-1)
 have e3:=Q4 (B:=LB) l (i+n)
 rw [show i+n-2+1=i+n-1 by omega] at e1
 rw [show i+n-1+1=i+n by omega] at e2
 rw [hz] at e3
 rw [show i+(n-2)=i+n-2 by omega,e1,e2,e3]
 have e:((LB:Nat):Int)=18446744073709551616:=rfl
 rw [e]
 generalize ((LB^(n-2):Nat):Int)=p
 generalize l.getD (i+n) 0=x
 generalize l.getD (i+n-1) 0=y
 generalize l.getD (i+n-2) 0=z
 generalize valB LB ((l.drop i).take (n-2))=w
 grind
theorem Qkx {l:J0} {n:Nat} (hn:2<=n) (hl:l.length=n) :
  valB LB l=(l.getD (n-1) 0*18446744073709551616+l.getD (n-2) 0)*(LB^(n-2):Nat)+valB LB (l.take (n-2)):=by
 rw [Qan LB (l:=l) (k:=n-2) (by omega)]
 have e1:=Q4 (B:=LB) l (n-2)
 have e2:=Q4 (B:=LB) l (n-1)
 rw [show n-2+1=n-1 by omega] at e1
 rw [show n-1+1=n by omega,show List.drop n l=[] from List.drop_eq_nil_of_le (by omega)] at e2
 rw [e1,e2]
 have e:((LB:Nat):Int)=18446744073709551616:=rfl
 rw [e]
 show _=_
 have e0:valB LB []=0:=rfl
 rw [e0]
 generalize ((LB^(n-2):Nat):Int)=p
 generalize l.getD (n-1) 0=x
 generalize l.getD (n-2) 0=y
 generalize valB LB (l.take (n-2))=w
 grind
theorem Wx {x:Int} (h:0<=x):∃n:Nat,x=(n:Int):=⟨x.toNat,by omega⟩
theorem limb {l:J0} (h:inB LB l) (k:Nat):∃n:Nat,l.getD k 0=(n:Int)/\n<18446744073709551616:=by
 have hd:=Qw (B:=LB) (by decide) h k
 obtain ⟨n,hn⟩:=Wx hd.1
 refine ⟨n,hn,?_⟩
 rw [hn] at hd
 exact_mod_cast hd.2
theorem Qiv {l:J0} (h:inB LB l) {i n:Nat} (hl:i+n<=l.length) (hv:valB LB (l.drop i)<(LB^n:Nat)):valB LB (l.drop (i+n))=0:=by
 rw [Qcm LB hl] at hv
 have h1:=Q7 (Wb (Yo h i) n)
 have h2:=Q7 (Yo h (i+n))
 rcases Int.lt_or_eq_of_le h2 with h3|h3
 ·exfalso
  have hp:(0:Int)<(LB^n:Nat):=by exact_mod_cast Nat.pow_pos (by decide)
  have:=Int.mul_le_mul_of_nonneg_left (show (1:Int)<=valB LB (l.drop (i+n)) by omega) (Int.le_of_lt hp)
  rw [Int.mul_one] at this
  omega
 ·exact h3.symm
theorem Qql {l:J0} (h:inB LB l) {k:Nat} (hv:valB LB (l.drop k)=0):l.getD k 0=0:=by
 rw [Q4] at hv
 have h1:=Qw (B:=LB) (by decide) h k
 have h2:=Q7 (Yo h (k+1))
 have h3:=Int.mul_nonneg (Int.natCast_nonneg LB) h2
 omega
noncomputable def Qb8 {R:Type} (n:Nat) (d:J0) (rec:(Int×J0×J0)->Option R) (i:Int) (u q:J0) (k:Int):Option R:=
 ((z67.l0b3 (i).toNat (((wr .i64 ((wr .i64 (i+((n:Nat):Int)))+(1:Int)))).toNat-(i).toNat) k 0 n ((n:Nat):Int) d ((0:Int),(0:Int),(0:Int),u)).bind λo10=>(if (0:Int)<=((n:Nat):Int)/\((n:Nat):Int)<(((((wr .i64 ((wr .i64 (i+((n:Nat):Int)))+(1:Int)))).toNat-(i).toNat):Nat):Int) then (if ((i).toNat+(((n:Nat):Int)).toNat)<o10.2.2.2.length then ((z1.F (o10.2.2.2.getD ((i).toNat+(((n:Nat):Int)).toNat) 0) o10.1 o10.2.1).bind λr11=>(if (0:Int)<=((n:Nat):Int)/\((n:Nat):Int)<(((((wr .i64 ((wr .i64 (i+((n:Nat):Int)))+(1:Int)))).toNat-(i).toNat):Nat):Int) then (if ((i).toNat+(((n:Nat):Int)).toNat)<o10.2.2.2.length then ((z67.l2 0 n (i).toNat (((wr .i64 ((wr .i64 (i+((n:Nat):Int)))+(1:Int)))).toNat-(i).toNat) d (k,r11.2,(o10.2.2.2.set ((i).toNat+(((n:Nat):Int)).toNat) r11.1))).bind λo12=>(if (0:Int)<=i/\i<(q.length:Int) then (if (i).toNat<q.length then (rec ((wr .i64 (i-(1:Int))),o12.2.2,(q.set (i).toNat o12.1))) else none) else none)) else none) else none)) else none) else none))
noncomputable def Qfn {R:Type} (n:Nat) (d:J0) (K:Int->Option R) (L:Int->Int->Option R) (k r:Int):Option R:=
 (if (0:Int)<=(wr .i64 (((n:Nat):Int)-(1:Int)))/\(wr .i64 (((n:Nat):Int)-(1:Int)))<((n:Nat):Int) then (if (0+((wr .i64 (((n:Nat):Int)-(1:Int)))).toNat)<d.length then ((z0.F r (d.getD (0+((wr .i64 (((n:Nat):Int)-(1:Int)))).toNat) 0) (0:Int)).bind λa=>(bif (decide (a.2=(0:Int))) then L (wr .u64 (k-(1:Int))) a.1 else K (wr .u64 (k-(1:Int))))) else none) else none)
noncomputable def Yr {R:Type} (n:Nat) (d:J0) (third:Int) (K:Int->Option R) (L:Int->Int->Option R) (k r:Int):Option R:=
 (if (0:Int)<=(wr .i64 (((n:Nat):Int)-(2:Int)))/\(wr .i64 (((n:Nat):Int)-(2:Int)))<((n:Nat):Int) then (if (0+((wr .i64 (((n:Nat):Int)-(2:Int)))).toNat)<d.length then ((z39.F k (d.getD (0+((wr .i64 (((n:Nat):Int)-(2:Int)))).toNat) 0)).bind λa=>(bif (decide (a.1<r)) then K k else (bif (decide (a.1=r)) then (bif (decide (a.2<=third)) then K k else Qfn n d K L k r) else Qfn n d K L k r))) else none) else none)
theorem Qmw {R:Type} (n:Nat) (d:J0) (rec done:(Int×J0×J0)->Option R) (i:Int) (u q:J0):z67.l0aaP 0 n d rec done (i,u,q) =
 (bif (decide (i>=(0:Int))) then (if (0:Int)<=i/\i<=(wr .i64 ((wr .i64 (i+((n:Nat):Int)))+(1:Int)))/\(wr .i64 ((wr .i64 (i+((n:Nat):Int)))+(1:Int)))<=((u).length:Int) then (if (0:Int)<=((n:Nat):Int)/\((n:Nat):Int)<(((((wr .i64 ((wr .i64 (i+((n:Nat):Int)))+(1:Int)))).toNat-(i).toNat):Nat):Int) then (if ((i).toNat+(((n:Nat):Int)).toNat)<u.length then (if (0:Int)<=(wr .i64 (((n:Nat):Int)-(1:Int)))/\(wr .i64 (((n:Nat):Int)-(1:Int)))<(((((wr .i64 ((wr .i64 (i+((n:Nat):Int)))+(1:Int)))).toNat-(i).toNat):Nat):Int) then (if ((i).toNat+((wr .i64 (((n:Nat):Int)-(1:Int)))).toNat)<u.length then (if (0:Int)<=(wr .i64 (((n:Nat):Int)-(2:Int)))/\(wr .i64 (((n:Nat):Int)-(2:Int)))<(((((wr .i64 ((wr .i64 (i+((n:Nat):Int)))+(1:Int)))).toNat-(i).toNat):Nat):Int) then (if ((i).toNat+((wr .i64 (((n:Nat):Int)-(2:Int)))).toNat)<u.length then (if (0:Int)<=(wr .i64 (((n:Nat):Int)-(1:Int)))/\(wr .i64 (((n:Nat):Int)-(1:Int)))<((n:Nat):Int) then (if (0+((wr .i64 (((n:Nat):Int)-(1:Int)))).toNat)<d.length then (bif (decide ((u.getD ((i).toNat+(((n:Nat):Int)).toNat) 0)>=(d.getD (0+((wr .i64 (((n:Nat):Int)-(1:Int)))).toNat) 0))) then (Qb8 n d rec i u q (18446744073709551615:Int)) else (if (0:Int)<=(wr .i64 (((n:Nat):Int)-(1:Int)))/\(wr .i64 (((n:Nat):Int)-(1:Int)))<((n:Nat):Int) then (if (0+((wr .i64 (((n:Nat):Int)-(1:Int)))).toNat)<d.length then ((z63.F (u.getD ((i).toNat+(((n:Nat):Int)).toNat) 0) (u.getD ((i).toNat+((wr .i64 (((n:Nat):Int)-(1:Int)))).toNat) 0) (d.getD (0+((wr .i64 (((n:Nat):Int)-(1:Int)))).toNat) 0)).bind λa=>Yr n d (u.getD ((i).toNat+((wr .i64 (((n:Nat):Int)-(2:Int)))).toNat) 0) (Qb8 n d rec i u q) (Yr n d (u.getD ((i).toNat+((wr .i64 (((n:Nat):Int)-(2:Int)))).toNat) 0) (Qb8 n d rec i u q) (Yr n d (u.getD ((i).toNat+((wr .i64 (((n:Nat):Int)-(2:Int)))).toNat) 0) (Qb8 n d rec i u q) (λ_ _=>none))) a.1 a.2) else none) else none)) else none) else none) else none) else none) else none) else none) else none) else none) else none) else (done (i,u,q))):=rfl
theorem Qfr {s:J0} {i j:Nat} {x:Int} (h:j<=i):(s.set i x).take j=s.take j:=by
 apply List.ext_getElem?
 intro k
 by_cases hk:k<j
 ·rw [List.getElem?_take_of_lt hk,List.getElem?_take_of_lt hk,List.getElem?_set_ne (by omega)]
 ·rw [List.getElem?_eq_none (by rw [List.length_take];omega),List.getElem?_eq_none (by rw [List.length_take];omega)]
theorem Qet {s:J0} {i j:Nat} {x:Int} (h:i<j):(s.set i x).drop j=s.drop j:=by
 apply List.ext_getElem?
 intro k
 rw [List.getElem?_drop,List.getElem?_drop,List.getElem?_set_ne (by omega)]
theorem J4 {s:J0} {n j:Nat} (h:j<n):(s.take n).getD j 0=s.getD j 0:=by
 simp [List.getD,List.getElem?_take_of_lt h]
theorem Qlw {d:J0} {off m n:Nat} {k:Int} (hk:0<=k/\k<18446744073709551616) (hd:inB LB d) (hn:n<=d.length) (hm:n<=m) (hN:n<=900000000) :
  ∀
   (f j:Nat) (c b:Int) (s:J0),j+f=n->inB LB s->off+n<=s.length->0<=c/\c<18446744073709551616->0<=b/\b<=1 ->
   ∃
    c' b' s',Runs (λrec x=>z67.l0b3P off m k 0 n (n:Int) d rec some x) (c,b,(j:Int),s) (c',b',(n:Int),s')/\inB LB s'/\s'.length=s.length/\(0<=c'/\c'<18446744073709551616)/\(0<=b'/\b'<=1) /\
    s'.take off=s.take off/\s'.drop (off+n)=s.drop (off+n) /\
    valB LB s'=valB LB s-(k*valB LB ((d.take n).drop j)+c+b)*(LB^(off+j):Nat)+(c'+b')*(LB^(off+n):Nat)
 |
  0,j,c,b,s,hf,hs,hl,hc,hb=>by
  have:j=n:=by omega
  subst this
  refine ⟨c,b,s,.done λrec=>?_,hs,rfl,hc,hb,rfl,rfl,?_⟩
  ·unfold z67.l0b3P
   simp only
   rw [Qa (by omega)]
  ·rw [List.drop_eq_nil_of_le (by rw [List.length_take];omega),show valB LB []=0 from rfl]
   generalize ((LB^(off+j):Nat):Int)=p
   grind
 |
  f+1,j,c,b,s,hf,hs,hl,hc,hb=>by
  have hj:j<d.length:=by omega
  have hjs:off+j<s.length:=by omega
  have h1:0<=d.getD j 0/\d.getD j 0<18446744073709551616:=Qw (B:=LB) (by decide) hd j
  have h2:0<=s.getD (off+j) 0/\s.getD (off+j) 0<18446744073709551616:=Qw (B:=LB) (by decide) hs (off+j)
  have hp:0<=d.getD j 0*k/\d.getD j 0*k<=18446744073709551615*18446744073709551615:=⟨Int.mul_nonneg h1.1 hk.1,Int.mul_le_mul (by omega) (by omega) hk.1 (by decide)⟩
  have hg:(d.take n).getD j 0=d.getD j 0:=J4 (by omega)
  obtain ⟨x,hx⟩:∃x,d.getD j 0*k+c=x:=⟨_,rfl⟩
  obtain ⟨low,hlow⟩:∃y,x%18446744073709551616=y:=⟨_,rfl⟩
  obtain ⟨hi,hhi⟩:∃y,x/18446744073709551616=y:=⟨_,rfl⟩
  have hxx:x=18446744073709551616*hi+low:=by rw [<-hlow,<-hhi];exact (Int.mul_ediv_add_emod x _).symm
  have hb1:0<=low/\low<18446744073709551616/\0<=hi/\hi<18446744073709551616:=by omega
  obtain ⟨b1,hb1'⟩:∃y:Int,(if s.getD (off+j) 0<low+b then (1:Int) else 0)=y:=⟨_,rfl⟩
  obtain ⟨z,hz⟩:∃y:Int,(s.getD (off+j) 0-low-b)%18446744073709551616=y:=⟨_,rfl⟩
  have hzz:z=s.getD (off+j) 0-low-b+b1*18446744073709551616:=by
   rw [<-hz,<-hb1'];split<;>omega
  have hbb:0<=b1/\b1<=1:=by rw [<-hb1'];split<;>omega
  have hzb:0<=z/\z<18446744073709551616:=by omega
  have hsub:z1.F (s.getD (off+j) 0) low b=some (z,b1):=by
   unfold z1.F;rw [if_pos (by omega),hz,hb1']
  obtain ⟨c',b',s',r1,r2,r3,r4,r5,r6,r7,r8⟩:=Qlw (off:=off) hk hd hn hm hN f (j+1) hi b1 (s.set (off+j) z) (by omega) (Ww hs hzb) (by rw [List.length_set];exact hl) ⟨hb1.2.2.1,hb1.2.2.2⟩ hbb
  refine ⟨c',b',s',.step (λrec=>?_) r1,r2,by rw [r3,List.length_set],r4,r5,by rw [r6,Qfr (by omega)],by rw [r7,Qet (by omega)],?_⟩
  ·unfold z67.l0b3P
   simp only
   rw [bif_t (by omega),if_pos (by omega),Zi,Nat.zero_add,if_pos hj,Qje h1 hk]
   simp only [Zb]
   rw [Qbe (by omega) hc.1 (by omega),Int.add_zero]
   simp only [Zb]
   have e1:(d.getD j 0*k%18446744073709551616+c)%18446744073709551616=low:=by rw [<-hlow,<-hx,Int.emod_add_emod]
   have e2:d.getD j 0*k/18446744073709551616+(d.getD j 0*k%18446744073709551616+c)/18446744073709551616=hi:=by
    rw [<-hhi,<-hx]
    generalize d.getD j 0*k=y
    omega
   rw [e1,if_pos (by omega),if_pos hjs,hsub]
   simp only [Zb]
   rw [if_pos (by omega),if_pos hjs,e2,Qm (n:=hi) (by omega) (by omega),Qc (by omega) (by omega)]
   rfl
  ·rw [r8,Yc hjs,Q4 (d.take n) j,hg,hzz]
   have e1:((LB^(off+(j+1)):Nat):Int)=18446744073709551616*(LB^(off+j):Nat):=by
    rw [<-Nat.add_assoc,Nat.pow_succ,Nat.mul_comm,Int.natCast_mul];rfl
   have e3:((LB:Nat):Int)=18446744073709551616:=rfl
   rw [e1,e3]
   have hx':d.getD j 0*k=18446744073709551616*hi+low-c:=by omega
   generalize ((LB^(off+j):Nat):Int)=p at *
   generalize ((LB^(off+n):Nat):Int)=p' at *
   generalize valB LB ((d.take n).drop (j+1))=w at *
   generalize valB LB s=V at *
   generalize s.getD (off+j) 0=y at *
   generalize d.getD j 0=e at *
   clear r1 r2 r3 r4 r5 r6 r7 r8
   grind
theorem Qke {d:J0} {off m n:Nat} (hd:inB LB d) (hn:n<=d.length) (hm:n<=m) (hN:n<=900000000) :
  ∀
   (f j:Nat) (c:Int) (s:J0),j+f=n->inB LB s->off+n<=s.length->0<=c/\c<=1 ->
   ∃
    c' s',Runs (λrec x=>z67.l0b4P off m 0 n (n:Int) d rec some x) (c,(j:Int),s) (c',(n:Int),s')/\inB LB s'/\s'.length=s.length/\(0<=c'/\c'<=1) /\
    s'.take off=s.take off/\s'.drop (off+n)=s.drop (off+n) /\
    valB LB s'=valB LB s+(valB LB ((d.take n).drop j)+c)*(LB^(off+j):Nat)-c'*(LB^(off+n):Nat)
 |
  0,j,c,s,hf,hs,hl,hc=>by
  have:j=n:=by omega
  subst this
  refine ⟨c,s,.done λrec=>?_,hs,rfl,hc,rfl,rfl,?_⟩
  ·unfold z67.l0b4P
   simp only
   rw [Qa (by omega)]
  ·rw [List.drop_eq_nil_of_le (by rw [List.length_take];omega),show valB LB []=0 from rfl]
   generalize ((LB^(off+j):Nat):Int)=p
   grind
 |
  f+1,j,c,s,hf,hs,hl,hc=>by
  have hj:j<d.length:=by omega
  have hjs:off+j<s.length:=by omega
  have h1:0<=d.getD j 0/\d.getD j 0<18446744073709551616:=Qw (B:=LB) (by decide) hd j
  have h2:0<=s.getD (off+j) 0/\s.getD (off+j) 0<18446744073709551616:=Qw (B:=LB) (by decide) hs (off+j)
  have hg:(d.take n).getD j 0=d.getD j 0:=J4 (by omega)
  obtain ⟨x,hx⟩:∃x,s.getD (off+j) 0+d.getD j 0+c=x:=⟨_,rfl⟩
  obtain ⟨low,hlow⟩:∃y,x%18446744073709551616=y:=⟨_,rfl⟩
  obtain ⟨hi,hhi⟩:∃y,x/18446744073709551616=y:=⟨_,rfl⟩
  have hxx:x=18446744073709551616*hi+low:=by rw [<-hlow,<-hhi];exact (Int.mul_ediv_add_emod x _).symm
  have hb1:0<=low/\low<18446744073709551616/\0<=hi/\hi<=1:=by omega
  obtain ⟨c',s',r1,r2,r3,r4,r6,r7,r8⟩:=Qke (off:=off) hd hn hm hN f (j+1) hi (s.set (off+j) low) (by omega) (Ww hs ⟨hb1.1,hb1.2.1⟩) (by rw [List.length_set];exact hl) ⟨hb1.2.2.1,hb1.2.2.2⟩
  refine ⟨c',s',.step (λrec=>?_) r1,r2,by rw [r3,List.length_set],r4,by rw [r6,Qfr (by omega)],by rw [r7,Qet (by omega)],?_⟩
  ·unfold z67.l0b4P
   simp only
   rw [bif_t (by omega),if_pos (by omega),Zi,Nat.zero_add,if_pos hj,if_pos (by omega),if_pos hjs,Qbe h2.1 h1.1 hc,hx,hlow,hhi]
   simp only [Zb]
   rw [if_pos (by omega),if_pos hjs,Qc (by omega) (by omega)]
   rfl
  ·rw [r8,Yc hjs,Q4 (d.take n) j,hg]
   have e1:((LB^(off+(j+1)):Nat):Int)=18446744073709551616*(LB^(off+j):Nat):=by
    rw [<-Nat.add_assoc,Nat.pow_succ,Nat.mul_comm,Int.natCast_mul];rfl
   have e3:((LB:Nat):Int)=18446744073709551616:=rfl
   rw [e1,e3]
   have hx':low=s.getD (off+j) 0+d.getD j 0+c-18446744073709551616*hi:=by omega
   generalize ((LB^(off+j):Nat):Int)=p at *
   generalize ((LB^(off+n):Nat):Int)=p' at *
   generalize valB LB ((d.take n).drop (j+1))=w at *
   generalize valB LB s=V at *
   generalize s.getD (off+j) 0=y at *
   generalize d.getD j 0=e at *
   clear r1 r2 r3 r4 r6 r7 r8
   subst hx'
   grind
theorem Qc8 (a b:Nat):((LB^(a+b):Nat):Int)=(LB^a:Nat)*(LB^b:Nat):=by
 rw [Nat.pow_add,Int.natCast_mul]
theorem Qf2 (a:Nat):(0:Int)<(LB^a:Nat):=by exact_mod_cast Nat.pow_pos (by decide)
theorem Qns {s s':J0} {i:Nat} (hi:i<=s.length) (hi':i<=s'.length) (ht:s'.take i=s.take i) {v:Int} (hv:valB LB s'=valB LB s+v*(LB^i:Nat)):valB LB (s'.drop i)=valB LB (s.drop i)+v:=by
 rw [Qan LB hi,Qan LB hi',ht] at hv
 have hp:=Qf2 i
 generalize ((LB^i:Nat):Int)=p at *
 generalize valB LB (s.take i)=w at *
 have:p*valB LB (s'.drop i)=p*(valB LB (s.drop i)+v):=by rw [Int.mul_add,Int.mul_comm p v];omega
 exact Int.eq_of_mul_eq_mul_left (Int.ne_of_gt hp) this
section
variable {n i:Nat} {d:J0} {U D:Nat} (hn:2<=n) (hdl:n<=d.length) (hd:inB LB d) (hN:n<=800000000) (hD:(D:Int)=valB LB (d.take n)) (hD0:0<D)
include hn hdl hd hN hD hD0
omit hn hN hD0 in
theorem D_lt:(D:Int)<(LB^n:Nat):=by
 rw [hD]
 have:=Wt bL (Wb hd n)
 rwa [List.length_take,Nat.min_eq_left hdl] at this
theorem Qu4 {u:J0} (hu:inB LB u) (hiu:i+n<u.length) (hz:valB LB (u.drop (i+n+1))=0) (hlen:u.length<=900000000)
  (hU:(U:Int)=valB LB (u.drop i)) {k:Nat} (hk1:U/D<=k) (hk2:k<=U/D+1) (hkB:k<18446744073709551616) :
  ∃u',(∀{R:Type} (q:J0) (rec:(Int×J0×J0)->Option R),i<q.length->Qb8 n d rec i u q k=rec ((i:Int)-1,u',q.set i ((U/D:Nat):Int)))/\inB LB u'/\u'.length=u.length/\u'.take i=u.take i/\valB LB (u'.drop i)=((U%D:Nat):Int):=by
 have e1:wr .i64 (wr .i64 ((i:Int)+(n:Int))+1)=((i+n+1:Nat):Int):=by
  rw [Qc (n:=(i:Int)+n) (by omega) (by omega),Qc (by omega) (by omega)];omega
 have e2:i+n+1-i=n+1:=by omega
 have hin:i+n<u.length:=hiu
 have hDlt:=D_lt hdl hd hD
 have hdm:=Nat.div_add_mod U D
 have hml:=Nat.mod_lt U hD0
 obtain ⟨Q,hQ⟩:∃Q,U/D=Q:=⟨_,rfl⟩
 obtain ⟨r,hr⟩:∃r,U%D=r:=⟨_,rfl⟩
 rw [hQ] at hk1 hk2 hdm ⊢
 rw [hr] at hdm hml ⊢
 have hUD:(U:Int)=D*Q+r:=by exact_mod_cast hdm.symm
 obtain ⟨c1,b1,s1,r1,r2,r3,r4,r5,r6,r7,r8⟩:=Qlw (off:=i) (m:=n+1) (k:=(k:Int)) ⟨by omega,by omega⟩ hd hdl (by omega) (by omega) n 0 0 0 u (by omega) hu (by omega) (by omega) (by omega)
 have hl1:i+n<s1.length:=by omega
 have er1:z67.l0b3 i (n+1) (k:Int) 0 n (n:Int) d ((0:Int),(0:Int),(0:Int),u)=some (c1,b1,(n:Int),s1):=r1.lfp
 have hx1:0<=s1.getD (i+n) 0/\s1.getD (i+n) 0<18446744073709551616:=Qw (B:=LB) (by decide) r2 (i+n)
 obtain ⟨b2,hb2⟩:∃y:Int,(if s1.getD (i+n) 0<c1+b1 then (1:Int) else 0)=y:=⟨_,rfl⟩
 obtain ⟨z,hz2⟩:∃y:Int,(s1.getD (i+n) 0-c1-b1)%18446744073709551616=y:=⟨_,rfl⟩
 have hzz:z=s1.getD (i+n) 0-c1-b1+b2*18446744073709551616:=by
  rw [<-hz2,<-hb2];split<;>omega
 have hbb:b2=0\/b2=1:=by rw [<-hb2];split<;>omega
 have hzb:0<=z/\z<18446744073709551616:=by omega
 have hsub:z1.F (s1.getD (i+n) 0) c1 b1=some (z,b2):=by
  unfold z1.F;rw [if_pos (by omega),hz2,hb2]
 obtain ⟨s2,hs2⟩:∃s2,s1.set (i+n) z=s2:=⟨_,rfl⟩
 have g2:inB LB s2:=hs2▸Ww r2 hzb
 have gl2:s2.length=u.length:=by rw [<-hs2,List.length_set,r3]
 have gt2:s2.take i=u.take i:=by rw [<-hs2,Qfr (by omega),r6]
 have gd2:valB LB (s2.drop (i+n+1))=0:=by
  rw [<-hs2,Qet (by omega),<-List.drop_drop,r7,List.drop_drop];exact hz
 have P1:((LB^(i+n+1):Nat):Int)=(LB^(i+n):Nat)*18446744073709551616:=Qc8 (i+n) 1
 have gv2:valB LB s2=valB LB u+(-(k:Int)*D+b2*(LB^(n+1):Nat))*(LB^i:Nat):=by
  rw [<-hs2,Yc hl1,r8,hzz,List.drop_zero,<-hD]
  have e3:=Qc8 i n
  have e4:=Qc8 n 1
  have e5:((LB^1:Nat):Int)=18446744073709551616:=rfl
  rw [e5] at e4
  rw [Nat.add_zero,e3,e4]
  generalize ((LB^i:Nat):Int)=p
  generalize ((LB^n:Nat):Int)=p'
  grind
 have hv2:valB LB (s2.drop i)=(U:Int)-k*D+b2*(LB^(n+1):Nat):=by
  rw [Qns (by omega) (by omega) gt2 gv2,<-hU]
  generalize b2*((LB^(n+1):Nat):Int)=y
  rw [Int.neg_mul];omega
 have hlt2:valB LB (s2.drop i)<(LB^(n+1):Nat):=by
  rw [Qcm LB (l:=s2) (i:=i) (k:=n+1) (by omega),show i+(n+1)=i+n+1 by omega,gd2,Int.mul_zero,Int.add_zero]
  have:=Wt bL (Wb (Yo g2 i) (n+1))
  rwa [List.length_take,List.length_drop,Nat.min_eq_left (by omega)] at this
 have hge2:=Q7 (Yo g2 i)
 have key:∃u',z67.l2 0 n i (n+1) d ((k:Int),b2,s2)=some ((Q:Int),(0:Int),u')/\inB LB u'/\u'.length=u.length/\u'.take i=u.take i/\valB LB (u'.drop i)=(r:Int):=by
  have stop:∀(k':Int) (s:J0),z67.l2 0 n i (n+1) d (k',(0:Int),s)=some (k',(0:Int),s):=λk' s=>
   (Runs.done (F:=λrec x=>z67.l2P 0 n i (n+1) d rec some x) λrec=>by unfold z67.l2P;simp only [decide_true,Zn,Zc]).lfp
  rcases hbb with hb0|hb0
  ·
   subst hb0
   rw [Int.zero_mul,Int.add_zero] at hv2
   have hkQ:k=Q:=by
    have h1:k*D<=U:=by
     have:(k:Int)*D<=U:=by omega
     exact_mod_cast this
    have h2:=(Nat.le_div_iff_mul_le hD0).2 h1
    rw [hQ] at h2;omega
   subst hkQ
   exact ⟨s2,stop _ _,g2,gl2,gt2,by rw [hv2,hUD,Int.mul_comm];omega⟩
  ·subst hb0
   rw [Int.one_mul] at hv2
   have hkQ:k=Q+1:=by
    have h1:¬k*D<=U:=by
     intro h
     have:((k*D:Nat):Int)<=U:=Int.ofNat_le.2 h
     rw [Int.natCast_mul] at this
     omega
    have h2:¬k<=Q:=λh=>h1 (by rw [<-hQ] at h;exact (Nat.le_div_iff_mul_le hD0).1 h)
    omega
   obtain ⟨c3,s3,q1,q2,q3,q4,q5,q6,q7⟩:=Qke (off:=i) (m:=n+1) hd hdl (by omega) (by omega) n 0 0 s2 (by omega) g2 (by omega) (by omega)
   have er3:z67.l0b4 i (n+1) 0 n (n:Int) d ((0:Int),(0:Int),s2)=some (c3,(n:Int),s3):=q1.lfp
   have hl3:i+n<s3.length:=by omega
   have hx3:0<=s3.getD (i+n) 0/\s3.getD (i+n) 0<18446744073709551616:=Qw (B:=LB) (by decide) q2 (i+n)
   obtain ⟨e,he⟩:∃y:Int,(s3.getD (i+n) 0+c3)/18446744073709551616=y:=⟨_,rfl⟩
   obtain ⟨y,hy⟩:∃y:Int,wr .u64 (s3.getD (i+n) 0+c3)=y:=⟨_,rfl⟩
   have hyy:y=s3.getD (i+n) 0+c3-18446744073709551616*e:=by
    rw [<-hy,Wo,<-he]
    have:=Int.mul_ediv_add_emod (s3.getD (i+n) 0+c3) 18446744073709551616
    omega
   have hyb:0<=y/\y<18446744073709551616:=by
    rw [<-hy,Wo];omega
   obtain ⟨s4,hs4⟩:∃s4,s3.set (i+n) y=s4:=⟨_,rfl⟩
   have g4:inB LB s4:=hs4▸Ww q2 hyb
   have gl4:s4.length=u.length:=by rw [<-hs4,List.length_set,q3,gl2]
   have gt4:s4.take i=s2.take i:=by rw [<-hs4,Qfr (by omega),q5]
   have gd4:valB LB (s4.drop (i+n+1))=0:=by
    rw [<-hs4,Qet (by omega),<-List.drop_drop,q6,List.drop_drop];exact gd2
   have gv4:valB LB s4=valB LB s2+((D:Int)-e*(LB^(n+1):Nat))*(LB^i:Nat):=by
    rw [<-hs4,Yc hl3,q7,hyy,List.drop_zero,<-hD]
    have e3:=Qc8 i n
    have e4:=Qc8 n 1
    have e5:((LB^1:Nat):Int)=18446744073709551616:=rfl
    rw [e5] at e4
    rw [Nat.add_zero,e3,e4]
    generalize ((LB^i:Nat):Int)=p
    generalize ((LB^n:Nat):Int)=p'
    grind
   have hv4:=Qns (by omega) (by omega) gt4 gv4
   rw [hv2] at hv4
   have hlt4:valB LB (s4.drop i)<(LB^(n+1):Nat):=by
    rw [Qcm LB (l:=s4) (i:=i) (k:=n+1) (by omega),show i+(n+1)=i+n+1 by omega,gd4,Int.mul_zero,Int.add_zero]
    have:=Wt bL (Wb (Yo g4 i) (n+1))
    rwa [List.length_take,List.length_drop,Nat.min_eq_left (by omega)] at this
   have hge4:=Q7 (Yo g4 i)
   have hkD:(k:Int)*D=D*Q+D:=by rw [hkQ,Int.natCast_add,Int.add_mul,Int.mul_comm];simp
   have hPn:=Qf2 (n+1)
   have hval:valB LB (s4.drop i)=(r:Int)+((LB^(n+1):Nat):Int)-e*(LB^(n+1):Nat):=by
    generalize e*((LB^(n+1):Nat):Int)=w at *
    omega
   have heb:e=0\/e=1:=by omega
   have he1:e=1:=by
    rcases heb with h|h
    ·subst h;rw [Int.zero_mul] at hval;omega
    ·exact h
   subst he1
   rw [Int.one_mul] at hval
   have hval':valB LB (s4.drop i)=(r:Int):=by omega
   have htop:s4.getD (i+n) 0=0:=Qql g4 (Qiv g4 (by omega) (by rw [hval'];omega))
   refine ⟨s4,?_,g4,gl4,by rw [gt4,gt2],hval'⟩
   refine (Runs.step (F:=λrec x=>z67.l2P 0 n i (n+1) d rec some x) (y:=((Q:Int),(0:Int),s4)) (λrec=>?_) (.done λrec=>?_)).lfp
   ·unfold z67.l2P
    simp only
    rw [show (!decide ((1:Int)=0))=true from rfl,er3]
    simp only [Zb,Zd,Zi]
    have hcond:(s3.set (i+n) (wr .u64 (s3.getD (i+n) 0+c3))).getD (i+n) 0=0:=by rw [hy,hs4];exact htop
    rw [if_pos (by omega),if_pos hl3,if_pos (by omega),if_pos hl3,if_pos (by omega),if_pos (by rw [List.length_set];exact hl3),bif_t hcond,hy,hs4,Qm (n:=(k:Int)-1) (by omega) (by omega)]
    congr 2;omega
   ·unfold z67.l2P
    simp only [decide_true,Zn,Zc]
 obtain ⟨u',k1,k2,k3,k4,k5⟩:=key
 refine ⟨u',λ{R} q rec hiq=>?_,k2,k3,k4,k5⟩
 unfold Qb8
 rw [e1]
 simp only [Zi]
 rw [e2,er1]
 simp only [Zb]
 rw [if_pos (by omega),if_pos hl1,hsub]
 simp only [Zb]
 rw [if_pos (by omega),if_pos hl1,hs2,k1]
 simp only [Zb]
 rw [if_pos (by omega),if_pos hiq,Qc (by omega) (by omega)]
end
theorem Qfy {R:Type} {n:Nat} {d:J0} (hn:2<=n) (hdl:n<=d.length) (hN:n<=800000000) {d1 d2 third k r:Nat} (e1:d.getD (n-1) 0=(d1:Int)) (e2:d.getD (n-2) 0=(d2:Int)) (h1:d1<18446744073709551616) (h2:d2<18446744073709551616) (ht:third<18446744073709551616)
  (hk:k<18446744073709551616) (hr:r<18446744073709551616) (K:Int->Option R) (L:Int->Int->Option R) :
  Yr n d third K L k r=if k*d2<=r*18446744073709551616+third then K k else if r+d1<18446744073709551616 then L ((k-1:Nat):Int) ((r+d1:Nat):Int) else K ((k-1:Nat):Int):=by
 have w1:wr .i64 ((n:Int)-1)=((n-1:Nat):Int):=by rw [Qc (by omega) (by omega)];omega
 have w2:wr .i64 ((n:Int)-2)=((n-2:Nat):Int):=by rw [Qc (by omega) (by omega)];omega
 have hmul:=Qje (a:=(k:Int)) (b:=(d2:Int)) ⟨by omega,by omega⟩ ⟨by omega,by omega⟩
 have hnext:∀(k r:Nat),0<k->k<18446744073709551616->r<18446744073709551616->Qfn n d K L k r=if r+d1<18446744073709551616 then L ((k-1:Nat):Int) ((r+d1:Nat):Int) else K ((k-1:Nat):Int):=λk r h0 hk hr=>by
  unfold Qfn
  rw [w1,if_pos (by omega),Zi,Nat.zero_add,if_pos (by omega),e1,Qbe (by omega) (by omega) (by omega),Int.add_zero]
  simp only [Zb]
  have ew:wr .u64 ((k:Int)-1)=((k-1:Nat):Int):=by rw [Qm (by omega) (by omega)];omega
  rw [ew]
  by_cases h:r+d1<18446744073709551616
  ·rw [if_pos h,bif_t (by omega)]
   congr 1;omega
  ·rw [if_neg h,Qa (by omega)]
 unfold Yr
 rw [w2,if_pos (by omega),Zi,Nat.zero_add,if_pos (by omega),e2,hmul]
 simp only [Zb]
 have hp:(k:Int)*d2=((k*d2:Nat):Int):=(Int.natCast_mul _ _).symm
 rw [hp]
 obtain ⟨p,hpp⟩:∃p,k*d2=p:=⟨_,rfl⟩
 rw [hpp]
 by_cases hc:p<=r*18446744073709551616+third
 ·rw [if_pos hc]
  by_cases ha:(p:Int)/18446744073709551616<r
  ·rw [bif_t ha]
  ·rw [Qa ha,bif_t (by omega),bif_t (by omega)]
 ·rw [if_neg hc]
  have h0:0<k:=by
   rcases Nat.eq_zero_or_pos k with h|h
   ·subst h;rw [Nat.zero_mul] at hpp;omega
   ·exact h
  rw [Qa (by omega),hnext k r h0 hk hr]
  by_cases ha:(p:Int)/18446744073709551616=r
  ·rw [bif_t ha,Qa (by omega)]
  ·rw [Qa ha]
theorem Qqg {R:Type} {n:Nat} {d:J0} (hn:2<=n) (hdl:n<=d.length) (hN:n<=800000000) {d1 d2 third U2 q0 r0 Q:Nat} (e1:d.getD (n-1) 0=(d1:Int)) (e2:d.getD (n-2) 0=(d2:Int)) (h1:d1<18446744073709551616) (h2:d2<18446744073709551616)
  (ht:third<18446744073709551616) (hDp:0<d1*18446744073709551616+d2) (hdm:q0*d1+r0=U2) (hml:r0<d1) (g1:q0<=Q+2) (g2:q0<18446744073709551616) (hge:Q<=q0) (hQ:(U2*18446744073709551616+third)/(d1*18446744073709551616+d2)=Q) (K:Int->Option R) (L:Int->Int->Option R) :
  Yr n d third K (Yr n d third K (Yr n d third K L)) (q0:Int) (r0:Int)=K (Q:Int):=by
 have fin:∀{q r:Nat},q*d1+r=U2->Q<=q->q*d2<=r*18446744073709551616+third->q=Q:=λ{q r} a b c=>by
  rw [<-hQ];exact Qwz a hDp (by rw [hQ];exact b) c
 have more:∀{q r:Nat},q*d1+r=U2->¬q*d2<=r*18446744073709551616+third->Q<q:=λ{q r} a c=>by
  rw [<-hQ];exact Qsn a hDp (by omega)
 have next1:∀{q r:Nat},q*d1+r=U2->Q<q->(q-1)*d1+(r+d1)=U2:=λ{q r} a c=>by
  obtain ⟨k,rfl⟩:∃k,q=k+1:=⟨q-1,by omega⟩
  rw [Nat.add_mul,Nat.one_mul] at a
  simp only [Nat.add_sub_cancel]
  omega
 have over:∀{q r:Nat},q*d1+r=U2->Q<=q->q<18446744073709551616->18446744073709551616<=r->q=Q:=λ{q r} a b c e=>by
  refine fin a b ?_
  have m1:q*d2<=18446744073709551615*18446744073709551615:=Nat.mul_le_mul (by omega) (by omega)
  have m2:18446744073709551616*18446744073709551616<=r*18446744073709551616:=Nat.mul_le_mul_right _ e
  omega
 rw [Qfy hn hdl hN e1 e2 h1 h2 ht g2 (by omega)]
 by_cases c1:q0*d2<=r0*18446744073709551616+third
 ·rw [if_pos c1,fin hdm hge c1]
 rw [if_neg c1]
 have m1:=more hdm c1
 have n1:=next1 hdm m1
 rcases Nat.lt_or_ge (r0+d1) 18446744073709551616 with o1|o1
 ·rw [if_pos o1,Qfy hn hdl hN e1 e2 h1 h2 ht (by omega) o1]
  by_cases c2:(q0-1)*d2<=(r0+d1)*18446744073709551616+third
  ·rw [if_pos c2,fin n1 (by omega) c2]
  ·rw [if_neg c2]
   have m2:=more n1 c2
   have n2:=next1 n1 m2
   rcases Nat.lt_or_ge (r0+d1+d1) 18446744073709551616 with o2|o2
   ·rw [if_pos o2,Qfy hn hdl hN e1 e2 h1 h2 ht (by omega) o2]
    by_cases c3:(q0-1-1)*d2<=(r0+d1+d1)*18446744073709551616+third
    ·rw [if_pos c3,fin n2 (by omega) c3]
    ·have m3:=more n2 c3
     omega
   ·rw [if_neg (by omega),over n2 (by omega) (by omega) o2]
 ·rw [if_neg (by omega),over n1 (by omega) (by omega) o1]
theorem Qxe {R:Type} {n:Nat} {d:J0} (hn:2<=n) (hdl:n<=d.length) (hN:n<=800000000) {d1 d2 top next third:Nat} (e1:d.getD (n-1) 0=(d1:Int)) (e2:d.getD (n-2) 0=(d2:Int)) (h1:d1<18446744073709551616) (hd1:18446744073709551616<=2*d1) (h2:d2<18446744073709551616)
  (hnx:next<18446744073709551616) (ht:third<18446744073709551616) (htop:top<d1) (K:Int->Option R) (L:Int->Int->Option R) :
  Yr n d third K (Yr n d third K (Yr n d third K L)) (((top*18446744073709551616+next)/d1:Nat):Int) (((top*18446744073709551616+next)%d1:Nat):Int) =
   K (((((top*18446744073709551616+next)*18446744073709551616+third)/(d1*18446744073709551616+d2):Nat)):Int):=by
 obtain ⟨g1,g2⟩:=Qvu (B:=18446744073709551616) (third:=third) hd1 h2 htop hnx
 exact Qqg hn hdl hN e1 e2 h1 h2 ht (by omega) (by rw [Nat.mul_comm];exact Nat.div_add_mod _ _) (Nat.mod_lt _ (by omega)) g1 g2 (Qk7 (U3:=top*18446744073709551616+next) (D2:=d1) (P:=18446744073709551616) ht h2 (by omega)) rfl K L
section
variable {n:Nat} {d:J0} {D:Nat} (hn:2<=n) (hdl:n<=d.length) (hd:inB LB d) (hN:n<=800000000) (hD:(D:Int)=valB LB (d.take n)) (hD1:18446744073709551616<=2*d.getD (n-1) 0)
include hn hdl hd hN hD hD1
set_option maxRecDepth 100000 in
theorem Qqu {i U:Nat} {u:J0} (hu:inB LB u) (hiu:i+n<u.length) (hz:valB LB (u.drop (i+n+1))=0) (hlen:u.length<=900000000)
  (hU:(U:Int)=valB LB (u.drop i)) (hUD:U<D*18446744073709551616) :
  ∃u',(∀{R:Type} (q:J0) (rec done:(Int×J0×J0)->Option R),i<q.length->z67.l0aaP 0 n d rec done ((i:Int),u,q)=rec ((i:Int)-1,u',q.set i ((U/D:Nat):Int)))/\inB LB u'/\u'.length=u.length/\u'.take i=u.take i/\valB LB (u'.drop i)=((U%D:Nat):Int)/\U/D<18446744073709551616:=by
 have e1:wr .i64 (wr .i64 ((i:Int)+(n:Int))+1)=((i+n+1:Nat):Int):=by
  rw [Qc (n:=(i:Int)+n) (by omega) (by omega),Qc (by omega) (by omega)];omega
 have e2:i+n+1-i=n+1:=by omega
 have w1:wr .i64 ((n:Int)-1)=((n-1:Nat):Int):=by rw [Qc (by omega) (by omega)];omega
 have w2:wr .i64 ((n:Int)-2)=((n-2:Nat):Int):=by rw [Qc (by omega) (by omega)];omega
 obtain ⟨d1,hd1,b1⟩:=limb hd (n-1)
 obtain ⟨d2,hd2,b2⟩:=limb hd (n-2)
 obtain ⟨top,ht,bt⟩:=limb hu (i+n)
 obtain ⟨next,hnx,bn⟩:=limb hu (i+n-1)
 obtain ⟨third,h3,b3⟩:=limb hu (i+n-2)
 rw [hd1] at hD1
 obtain ⟨dl,hdl'⟩:=Wx (Q7 (Wb hd (n-2)))
 obtain ⟨ul,hul'⟩:=Wx (Q7 (Wb (Yo hu i) (n-2)))
 have hdlt:dl<LB^(n-2):=by
  have:=Wt bL (Wb hd (n-2))
  rw [hdl',List.length_take,Nat.min_eq_left (by omega)] at this
  exact_mod_cast this
 have hult:ul<LB^(n-2):=by
  have:=Wt bL (Wb (Yo hu i) (n-2))
  rw [hul',List.length_take,List.length_drop,Nat.min_eq_left (by omega)] at this
  exact_mod_cast this
 have hDe:D=(d1*18446744073709551616+d2)*LB^(n-2)+dl:=by
  have h:=Qkx (l:=d.take n) hn (by rw [List.length_take];omega)
  rw [<-hD,J4 (by omega),J4 (by omega),hd1,hd2,List.take_take,Nat.min_eq_left (by omega),hdl'] at h
  refine Int.natCast_inj.1 ?_
  rw [h,Int.natCast_add,Int.natCast_mul,Int.natCast_add,Int.natCast_mul];rfl
 have hUe:U=((top*18446744073709551616+next)*18446744073709551616+third)*LB^(n-2)+ul:=by
  have h:=high hn hiu hz
  rw [<-hU,ht,hnx,h3,hul'] at h
  refine Int.natCast_inj.1 ?_
  rw [h,Int.natCast_add,Int.natCast_mul,Int.natCast_add,Int.natCast_mul,Int.natCast_add,Int.natCast_mul];rfl
 have hP:0<LB^(n-2):=Nat.pow_pos (by decide)
 have hD0:0<D:=by
  have:0<(d1*18446744073709551616+d2)*LB^(n-2):=Nat.mul_pos (by omega) hP
  omega
 have hQB:U/D<18446744073709551616:=Nat.div_lt_of_lt_mul hUD
 have tail:∀{k:Nat},U/D<=k->k<=U/D+1->k<18446744073709551616->_:=λ{k} a b c=>Qu4 hn hdl hd hN hD hD0 hu hiu hz hlen hU a b c
 by_cases hc:d1<=top
 ·have g:=Qqk (B:=18446744073709551616) (d1:=d1) (d2:=d2) (top:=top) (next:=next) (third:=third) (P:=LB^(n-2)) (ul:=ul) (dl:=dl) (by omega) b2 hult hdlt hc (by rw [<-hUe,<-hDe];exact hUD)
  rw [<-hUe,<-hDe] at g
  obtain ⟨u',t1,t2,t3,t4,t5⟩:=tail (k:=18446744073709551615) g.1 g.2 (by decide)
  refine ⟨u',λ{R} q rec done hiq=>?_,t2,t3,t4,t5,hQB⟩
  rw [Qmw,bif_t (by omega),e1,if_pos (by omega),Zi i,Zi (i+n+1),Zi n,e2,if_pos (by omega),if_pos hiu,w1,if_pos (by omega),Zi (n-1),if_pos (by omega),w2,if_pos (by omega),Zi (n-2),Nat.zero_add,if_pos (by omega),if_pos (by omega),if_pos (by omega),ht,hd1,bif_t (by omega)]
  exact t1 q rec hiq
 ·have q3:((top*18446744073709551616+next)*18446744073709551616+third)/(d1*18446744073709551616+d2)<18446744073709551616:=by
   refine Nat.div_lt_of_lt_mul ?_
   have h1:(top+1)*18446744073709551616<=d1*18446744073709551616:=Nat.mul_le_mul_right _ (by omega)
   have h2:(top*18446744073709551616+next+1)*18446744073709551616<=(d1*18446744073709551616)*18446744073709551616:=Nat.mul_le_mul_right _ (by omega)
   rw [Nat.mul_comm]
   omega
  have ge:=Qk7 (U3:=(top*18446744073709551616+next)*18446744073709551616+third) (D2:=d1*18446744073709551616+d2) hult hdlt (by omega)
  have le:=Qqm (U3:=(top*18446744073709551616+next)*18446744073709551616+third) (D2:=d1*18446744073709551616+d2) hult hdlt (by omega) (B:=18446744073709551616) (by omega) q3
  rw [<-hUe,<-hDe] at ge le
  obtain ⟨u',t1,t2,t3,t4,t5⟩:=tail ge le q3
  refine ⟨u',λ{R} q rec done hiq=>?_,t2,t3,t4,t5,hQB⟩
  rw [Qmw,bif_t (by omega),e1,if_pos (by omega),Zi i,Zi (i+n+1),Zi n,e2,if_pos (by omega),if_pos hiu,w1,if_pos (by omega),Zi (n-1),if_pos (by omega),w2,if_pos (by omega),Zi (n-2),Nat.zero_add,if_pos (by omega),if_pos (by omega),if_pos (by omega),ht,hd1,Qa (by omega),if_pos (by omega),if_pos (by omega),show i+(n-1)=i+n-1 by omega,hnx,bits_Div64 (by omega) bn b1]
  simp only [Zb]
  rw [show i+(n-2)=i+n-2 by omega,h3,Qxe hn hdl hN hd1 hd2 b1 (by omega) b2 bn b3 (by omega)]
  exact t1 q rec hiq
theorem Qpc {a:J0} {N:Nat} (ha:inB LB a) (hal:a.length<=900000000) (hNa:(N:Int)=valB LB a) :
  ∀
   (k:Nat),k+n<=a.length->∀(m:Nat) (u q:J0),(m:Int)=valB LB (a.drop k)->inB LB u->u.length=a.length->u.take k=a.take k->valB LB (u.drop k)=((m%D:Nat):Int) ->
   q.length=a.length-n->inB LB q->valB LB (q.drop k)=((m/D:Nat):Int) ->
   ∃u' q',Runs (λrec x=>z67.l0aaP 0 n d rec some x) ((k:Int)-1,u,q) ((-1:Int),u',q')/\q'.length=a.length-n/\inB LB q'/\valB LB q'=((N/D:Nat):Int)/\inB LB u'/\u'.length=a.length/\valB LB u'=((N%D:Nat):Int)
 |
  0,hk,m,u,q,hm,hu,hul,hut,huv,hq,hqi,hqv=>by
  have:m=N:=by rw [List.drop_zero] at hm;omega
  subst this
  rw [List.drop_zero] at huv hqv
  refine ⟨u,q,.done λrec=>?_,hq,hqi,hqv,hu,hul,huv⟩
  unfold z67.l0aaP
  simp only
  rw [Qa (by omega)];rfl
 |
  k+1,hk,m,u,q,hm,hu,hul,hut,huv,hq,hqi,hqv=>by
  have hD0:0<D:=by
   rcases Nat.eq_zero_or_pos D with h|h
   ·exfalso
    subst h
    have h2:=Qkx (l:=d.take n) hn (by rw [List.length_take];omega)
    rw [<-hD,J4 (by omega),J4 (by omega)] at h2
    have h3:=Q7 (Wb (Wb hd n) (n-2))
    have h4:=Qw (B:=LB) (by decide) hd (n-2)
    have h5:=Qf2 (n-2)
    have h6:=Int.mul_pos (show 0<d.getD (n-1) 0*18446744073709551616+d.getD (n-2) 0 by omega) h5
    omega
   ·exact h
  have hkq:k<q.length:=by omega
  obtain ⟨x,hx,hxb⟩:=limb ha k
  have hux:u.getD k 0=(x:Int):=by
   have h1:(u.take (k+1)).getD k 0=u.getD k 0:=J4 (by omega)
   have h2:(a.take (k+1)).getD k 0=a.getD k 0:=J4 (by omega)
   rw [<-h1,hut,h2,hx]
  obtain ⟨r,hr⟩:∃r,m%D=r:=⟨_,rfl⟩
  have hrD:r<D:=hr▸Nat.mod_lt m hD0
  obtain ⟨y,hy⟩:∃y,m/D=y:=⟨_,rfl⟩
  rw [hr] at huv;rw [hy] at hqv
  have hDlt:=D_lt hdl hd hD
  have hUv:((x+18446744073709551616*r:Nat):Int)=valB LB (u.drop k):=by
   rw [Q4,hux,huv,Int.natCast_add,Int.natCast_mul]
  have hz:valB LB (u.drop (k+n+1))=0:=by
   rw [show k+n+1=k+1+n by omega]
   exact Qiv hu (by omega) (by rw [huv];omega)
  have hUD:x+18446744073709551616*r<D*18446744073709551616:=by
   have:(r+1)*18446744073709551616<=D*18446744073709551616:=Nat.mul_le_mul_right _ hrD
   omega
  have hmm:D*y+r=m:=by rw [<-hy,<-hr];exact Nat.div_add_mod m D
  have hm':((x+LB*m:Nat):Int)=valB LB (a.drop k):=by rw [Q4,hx,<-hm,Int.natCast_add,Int.natCast_mul]
  have e:x+LB*m=x+18446744073709551616*r+D*(LB*y):=by
   have h4:D*(LB*y)=LB*(D*y):=by rw [<-Nat.mul_assoc,Nat.mul_comm D LB,Nat.mul_assoc]
   have h5:LB*m=LB*(D*y)+LB*r:=by rw [<-hmm,Nat.mul_add]
   rw [h4,h5]
   have:LB*r=18446744073709551616*r:=rfl
   omega
  have hdiv:(x+LB*m)/D=(x+18446744073709551616*r)/D+LB*y:=by rw [e,Nat.add_mul_div_left _ _ hD0]
  have hmod:(x+LB*m)%D=(x+18446744073709551616*r)%D:=by rw [e,Nat.add_mul_mod_self_left]
  have hQB:(x+18446744073709551616*r)/D<18446744073709551616:=Nat.div_lt_of_lt_mul hUD
  obtain ⟨u0,t1,t2,t3,t4,t5,_⟩:=Qqu hn hdl hd hN hD hD1 hu (show k+n<u.length by omega) hz (by omega) hUv hUD
  have hvq:valB LB ((q.set k (((x+18446744073709551616*r)/D:Nat):Int)).drop k)=(((x+LB*m)/D:Nat):Int):=by
   rw [Q4,Qff,hqv,hdiv]
   have:(q.set k (((x+18446744073709551616*r)/D:Nat):Int)).getD k 0=(((x+18446744073709551616*r)/D:Nat):Int):=by simp [List.getD,hkq]
   rw [this,Int.natCast_add,Int.natCast_mul]
  obtain ⟨u',q',r1,r2,r3,r4,r5,r6,r7⟩:=Qpc ha hal hNa k (by omega) (x+LB*m) u0 (q.set k (((x+18446744073709551616*r)/D:Nat):Int)) hm' t2 (by omega) (by
   rw [t4]
   have h1:=congrArg (List.take k) hut
   rw [List.take_take,List.take_take,Nat.min_eq_left (by omega)] at h1
   exact h1) (by rw [t5,hmod]) (by rw [List.length_set];exact hq) (Ww hqi ⟨Int.natCast_nonneg _,Int.ofNat_lt.2 hQB⟩) hvq
  refine ⟨u',q',.step (λrec=>?_) r1,r2,r3,r4,r5,r6,r7⟩
  have ek:((k+1:Nat):Int)-1=(k:Int):=by omega
  rw [ek]
  exact t1 q rec some hkq
end
theorem Qaf {k:Nat} (hk:k<=64):2^(64-k)*2^k=18446744073709551616:=by rw [<-Nat.pow_add,show 64-k+k=64 by omega]
theorem Qf6 {c w k:Nat} (hk:k<=64) (hc:c<2^k) (hw:w<2^(64-k)):wr .u64 ((BitVec.ofInt (IntKind.bits .u64) (c:Int) ||| BitVec.ofInt (IntKind.bits .u64) ((w*2^k:Nat):Int)).toNat:Int)=((w*2^k+c:Nat):Int)/\w*2^k+c<18446744073709551616:=by
 have h:w*2^k+c<18446744073709551616:=by
  have h1:(w+1)*2^k<=2^(64-k)*2^k:=Nat.mul_le_mul_right _ hw
  rw [Qaf hk,Nat.add_mul,Nat.one_mul] at h1
  omega
 rw [BitVec.or_comm]
 exact ⟨Qop hc h,h⟩
theorem Qjc {x k:Nat} (hk:k<=64):x*2^k%18446744073709551616=x%2^(64-k)*2^k:=by
 rw [<-Qaf hk,Nat.mul_mod_mul_right]
theorem Qk5 {a:J0} {k:Nat} (hk:k<=63) (ha:inB LB a) (hal:a.length<=900000000):∀(f i:Nat) (s:J0),i+f=a.length->inB LB s->s.length=a.length+1->(∀j,i<j->s.getD j 0=0)->s.getD i 0<(2^k:Nat)->valB LB s=(2^k:Nat)*valB LB (a.take i) ->
  ∃s',Runs (λrec x=>z67.l0P (k:Int) a (a.length:Int) rec some x) ((i:Int),s) ((a.length:Int),s')/\inB LB s'/\s'.length=a.length+1/\valB LB s'=(2^k:Nat)*valB LB a
 |
  0,i,s,hf,hs,hl,hz,hc,hv=>by
  have:i=a.length:=by omega
  subst this
  refine ⟨s,.done λrec=>?_,hs,hl,by rwa [List.take_length] at hv⟩
  unfold z67.l0P
  simp only
  rw [Qa (by omega)]
 |
  f+1,i,s,hf,hs,hl,hz,hc,hv=>by
  have hi:i<a.length:=by omega
  obtain ⟨x,hx,hxb⟩:=limb ha i
  obtain ⟨c,hcs,hcb⟩:=limb hs i
  rw [hcs] at hc
  have hc':c<2^k:=by exact_mod_cast hc
  have hp:=Nat.two_pow_pos k
  have hp':=Nat.two_pow_pos (64-k)
  have hw:=Nat.mod_lt x hp'
  obtain ⟨o1,o2⟩:=Qf6 (by omega) hc' hw
  have hmod:=Qjc (x:=x) (show k<=64 by omega)
  have hparts:=Qkd (hi:=0) (lo:=x) (s:=k) (by omega)
  rw [Nat.zero_mul,Nat.zero_mul,Nat.zero_add,Nat.zero_add,hmod] at hparts
  have hxd:x/2^(64-k)<2^k:=by
   refine Nat.div_lt_of_lt_mul ?_
   rw [Qaf (by omega)];exact hxb
  have hkB:2^k<=9223372036854775808:=Nat.pow_le_pow_right (n:=2) (by decide) hk
  generalize x%2^(64-k)=w at *
  obtain ⟨h,hh⟩:∃h,x/2^(64-k)=h:=⟨_,rfl⟩
  rw [hh] at hxd hparts
  obtain ⟨nw,hnw⟩:∃nw,w*2^k+c=nw:=⟨_,rfl⟩
  rw [hnw] at o1 o2
  have e1:wr .u64 ((x:Int)*2^k)=((w*2^k:Nat):Int):=by
   rw [show (x:Int)*2^k=((x*2^k:Nat):Int) by push_cast;rfl,Wo,<-hmod];rfl
  have e2:wr .u64 ((64:Int)-k)=((64-k:Nat):Int):=by rw [Qm (by omega) (by omega)];omega
  have e3:min k 64=k:=by omega
  have e4:min (64-k) 64=64-k:=by omega
  have his:i<s.length:=by omega
  have his':i+1<(s.set i (nw:Int)).length:=by rw [List.length_set];omega
  obtain ⟨s',r1,r2,r3,r4⟩:=Qk5 hk ha hal f (i+1) ((s.set i (nw:Int)).set (i+1) (h:Int)) (by omega) (Ww (Ww hs ⟨Int.natCast_nonneg _,Int.ofNat_lt.2 (show nw<18446744073709551616 from o2)⟩) ⟨Int.natCast_nonneg _,Int.ofNat_lt.2 (show h<18446744073709551616 by omega)⟩) (by rw [List.length_set,List.length_set];exact hl)
   (λj hj=>by rw [Qap (by omega),Qap (by omega)];exact hz j (by omega))
   (by
    have:((s.set i (nw:Int)).set (i+1) (h:Int)).getD (i+1) 0=(h:Int):=by
     rw [List.length_set] at his'
     simp [List.getD,his']
    rw [this];exact_mod_cast hxd)
   (by
    rw [Yc his',Yc his,Qap (by omega),hz (i+1) (by omega),hcs,hv,Yd hi,<-Q5 hi,hx]
    have e5:((LB^(i+1):Nat):Int)=18446744073709551616*(LB^i:Nat):=by
     rw [Nat.pow_succ,Nat.mul_comm,Int.natCast_mul];rfl
    have e6:(nw:Int)=w*(2^k:Nat)+c:=by rw [<-hnw,Int.natCast_add,Int.natCast_mul]
    have e7:(x:Int)*(2^k:Nat)=h*18446744073709551616+w*(2^k:Nat):=by
     have:=congrArg (λn:Nat=>(n:Int)) hparts
     simp only [Int.natCast_add,Int.natCast_mul] at this
     exact this
    rw [e5,e6]
    generalize ((LB^i:Nat):Int)=p
    generalize ((2^k:Nat):Int)=t at *
    generalize valB LB (a.take i)=v
    grind)
  refine ⟨s',.step (λrec=>?_) r1,r2,r3,r4⟩
  have ek:wr .i64 ((i:Int)+1)=((i+1:Nat):Int):=by rw [Qc (by omega) (by omega)];rfl
  unfold z67.l0P
  simp only [ek,e2]
  rw [bif_t (by omega),if_pos (by omega),if_pos (by omega),Zi i,if_pos his,if_pos (by omega),if_pos (by omega),if_pos his,if_pos (by omega),Zi k,e3,hx,hcs,e1,o1,if_pos (by rw [List.length_set];omega),Zi (i+1),if_pos his',Zi (64-k),e4,Jq,hh]
theorem Qkg {a:J0} {k:Nat} (hk:k<=63) (ha:inB LB a) (hal:a.length<=900000000):∃s,z67.l0 (k:Int) a (a.length:Int) ((0:Int),List.replicate (a.length+1) (0:Int))=some ((a.length:Int),s)/\z67.l0a (k:Int) a (a.length:Int) ((0:Int),List.replicate (a.length+1) (0:Int))=some ((a.length:Int),s)/\inB LB s/\s.length=a.length+1/\valB LB s=(2^k:Nat)*valB LB a:=by
 have hp:=Nat.two_pow_pos k
 obtain ⟨s,r1,r2,r3,r4⟩:=Qk5 hk ha hal a.length 0 (List.replicate (a.length+1) 0) (by omega) (Jx (by decide) _) (by simp) (λj _=>Qdk _ j) (by rw [Qdk];omega) (by rw [Qb1];simp [valB])
 exact ⟨s,r1.lfp,r1.lfp,r2,r3,r4⟩
def shrL (k:Nat):J0->J0
 |[]=>[]
 |[x]=>[x/(2^k:Nat)]
 |x::y::l=>(y*(2^(64-k):Nat)%18446744073709551616+x/(2^k:Nat))::shrL k (y::l)
theorem Qkq (k:Nat):∀l:J0,(shrL k l).length=l.length
 |[]=>rfl
 |[x]=>rfl
 |x::y::l=>by simp [shrL,Qkq k (y::l)]
theorem Qk9 {k:Nat} (hk:k<=63):∀{l:J0},inB LB l->valB LB (shrL k l)=valB LB l/(2^k:Nat)
 |[],_=>by simp [shrL,valB]
 |[x],h=>by simp [shrL,valB]
 |
  x::y::l,h=>by
  rw [We] at h
  have ih:=Qk9 hk h.2
  have hp:(0:Int)<(2^k:Nat):=by exact_mod_cast Nat.two_pow_pos k
  have hp':(0:Int)<(2^(64-k):Nat):=by exact_mod_cast Nat.two_pow_pos (64-k)
  have hB:((2^(64-k):Nat):Int)*(2^k:Nat)=18446744073709551616:=by
   rw [<-Int.natCast_mul,Qaf (by omega)];rfl
  show y*(2^(64-k):Nat)%18446744073709551616+x/(2^k:Nat)+(LB:Nat)*valB LB (shrL k (y::l))=(x+(LB:Nat)*valB LB (y::l))/(2^k:Nat)
  rw [ih]
  have hW:valB LB (y::l)=y+(LB:Nat)*valB LB l:=rfl
  have e:((LB:Nat):Int)=18446744073709551616:=rfl
  rw [e] at hW ⊢
  generalize valB LB (y::l)=W at *
  generalize valB LB l=W' at *
  generalize ((2^k:Nat):Int)=p at *
  generalize ((2^(64-k):Nat):Int)=p' at *
  have e1:(x+18446744073709551616*W)/p=x/p+p'*W:=by
   rw [<-hB,Int.mul_right_comm,Int.mul_comm (p'*W) p,Int.add_mul_ediv_left _ _ (Int.ne_of_gt hp)]
  have e2:p'*W/18446744073709551616=W/p:=by
   rw [<-hB,Int.mul_ediv_mul_of_pos _ _ hp']
  have e3:p'*W%18446744073709551616=y*p'%18446744073709551616:=by
   rw [hW,Int.mul_add,Int.mul_left_comm p',Int.add_mul_emod_self_left,Int.mul_comm]
  have e4:=Int.mul_ediv_add_emod (p'*W) 18446744073709551616
  rw [e2,e3] at e4
  rw [e1]
  omega
theorem Qli {k:Nat} (hk:k<=63):∀(l P:J0),inB LB l->P.length+l.length<=900000000 ->
  Runs (λrec x=>z66.l0P 0 (P.length+l.length) (k:Int) ((P.length+l.length:Nat):Int) rec some x) ((P.length:Int),P++l) (((P.length+l.length:Nat):Int),P++shrL k l)
 |
  [],P,_,_=>by
  refine .done λrec=>?_
  unfold z66.l0P
  simp only [List.length_nil,Nat.add_zero]
  rw [Qa (by omega)];rfl
 |
  x::l,P,h,hl=>by
  rw [We] at h
  simp only [List.length_cons] at hl ⊢
  obtain ⟨n,hn⟩:=Wx h.1.1
  have hnb:n<18446744073709551616:=by have:=h.1.2;rw [hn] at this;exact_mod_cast this
  have g1:(P++x::l).getD P.length 0=(n:Int):=by rw [<-hn];simp [List.getD]
  have e0:min k 64=k:=by omega
  have e2:wr .u64 ((64:Int)-k)=((64-k:Nat):Int):=by rw [Qm (by omega) (by omega)];omega
  have e4:min (64-k) 64=64-k:=by omega
  have ek:wr .i64 ((P.length:Int)+1)=((P.length+1:Nat):Int):=by rw [Qc (by omega) (by omega)];rfl
  have hset:∀v:Int,(P++x::l).set P.length v=P++v::l:=λv=>by simp
  have hlen:∀v:Int,(P++v::l).length=P.length+(l.length+1):=λv=>by simp
  have hp:=Nat.two_pow_pos k
  have hnk:n/2^k<2^(64-k):=by
   refine Nat.div_lt_of_lt_mul ?_
   rw [Nat.mul_comm,Qaf (by omega)];exact hnb
  cases l with
  |
   nil=>
   simp only [List.length_nil,Nat.zero_add] at hl hlen ⊢
   refine .step (y:=(((P.length+1:Nat):Int),P++[x/(2^k:Nat)])) (λrec=>?_) (.done λrec=>?_)
   ·unfold z66.l0P
    simp only [Nat.zero_add,ek]
    rw [bif_t (by omega),if_pos (by omega),Zi P.length,if_pos (by rw [hlen];omega),if_pos (by omega),if_pos (by omega),if_pos (by rw [hlen];omega),Qa (by omega),g1,Zi k,e0,Jq,hset,hn]
    rfl
   ·unfold z66.l0P
    simp only [Nat.zero_add]
    rw [Qa (by omega)];rfl
  |
   cons y l=>
   have hy:=h.2
   rw [We] at hy
   obtain ⟨m,hm⟩:=Wx hy.1.1
   have hmb:m<18446744073709551616:=by have:=hy.1.2;rw [hm] at this;exact_mod_cast this
   have ih:=Qli hk (y::l) (P++[y*(2^(64-k):Nat)%18446744073709551616+x/(2^k:Nat)]) h.2 (by simp only [List.length_append,List.length_cons,List.length_nil] at hl ⊢;omega)
   simp only [List.length_append,List.length_cons,List.length_nil,List.append_assoc,List.singleton_append] at ih
   rw [show P.length+(0+1)+(l.length+1)=P.length+(l.length+1+1) by omega,show P.length+(0+1)=P.length+1 by omega] at ih
   refine .step (λrec=>?_) ih
   have g2:∀v:Int,(P++v::y::l).getD (P.length+1) 0=(m:Int):=λv=>by rw [<-hm];simp [List.getD]
   have g3:∀v:Int,(P++v::y::l).getD P.length 0=v:=λv=>by simp [List.getD]
   have hset2:∀v w:Int,(P++v::y::l).set P.length w=P++w::y::l:=λv w=>by simp
   have hmm:=Qjc (x:=m) (k:=64-k) (by omega)
   rw [show 64-(64-k)=k by omega] at hmm
   have hmk:=Nat.mod_lt m hp
   obtain ⟨o1,_⟩:=Qf6 (c:=n/2^k) (w:=m%2^k) (k:=64-k) (by omega) hnk (by rw [show 64-(64-k)=k by omega];exact hmk)
   have e5:wr .u64 ((m:Int)*2^(64-k))=((m%2^k*2^(64-k):Nat):Int):=by
    rw [show (m:Int)*2^(64-k)=((m*2^(64-k):Nat):Int) by push_cast;rfl,Wo,<-hmm];rfl
   have e6:y*(2^(64-k):Nat)%18446744073709551616+x/(2^k:Nat)=((m%2^k*2^(64-k)+n/2^k:Nat):Int):=by
    rw [hm,hn,Int.natCast_add,<-hmm];rfl
   simp only [List.length_cons] at hlen
   unfold z66.l0P
   simp only [Nat.zero_add,ek,e2,List.length_cons]
   rw [bif_t (by omega),if_pos (by omega),Zi P.length,if_pos (by rw [hlen];omega),if_pos (by omega),if_pos (by omega),if_pos (by rw [hlen];omega),bif_t (by omega),g1,Zi k,e0,Jq,hset,if_pos (by omega),if_pos (by rw [hlen];omega),if_pos (by omega),Zi (P.length+1),if_pos (by rw [hlen];omega),if_pos (by omega),if_pos (by omega),if_pos (by rw [hlen];omega),g2,g3,hset2,Zi (64-k),e4,e5,o1,e6]
end Go.Proofs.YtgjncgiekniniaaGreatDoor.A
end
