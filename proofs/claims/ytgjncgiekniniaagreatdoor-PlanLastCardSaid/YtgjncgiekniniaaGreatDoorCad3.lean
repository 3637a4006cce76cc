/- Part 3 of the proof of TermsChecks.card, TermsBounds.card, AccrueDays.card, AccrueSums.card, AccrueTells.card, AccrueLegs.card, AccrueTwice.card, PlanInterest.card, PlanSums.card, PlanLast.card, PlanBuilds.card. -/
import Derived.Test.YtgjncgiekniniaaGreatDoorCad2
set_option linter.unusedVariables false
set_option linter.unusedSimpArgs false
section
namespace Go.Proofs.YtgjncgiekniniaaGreatDoor.A
open Go
theorem Qdl {l:List Int} (hl:inB LB l) (hs:Qaw l):z38.F l=some (lb (valB LB l).toNat):=by
 have hs':l.length<=1000000000:=hs
 unfold z38.F
 rw [if_pos (by omega),Qf3 hl hs];rfl
theorem Yh {x:Int} (h:0<=x/\x<18446744073709551616):z38.F [x]=some (lb x.toNat):=by
 rw [Qdl (Wt.2 ⟨h,inB_nil _⟩) (by show [x].length<=_;simp)]
 simp [valB]
theorem Quk {n:Nat} (hs:Qaw (lb n)):z38.F (lb n)=some (lb n):=by
 rw [Qdl (Qx bL n) hs,Q8 bL];rfl
theorem J1 {l:List Int} (hs:Qaw l):z60.F l=some l:=by
 have hs':l.length<=1000000000:=hs
 unfold z60.F
 rw [if_pos (by omega)]
theorem Qp3 {x:Int} {a:List Int} {off tot:Nat} (hx:0<=x/\x<18446744073709551616) (ha:inB LB a) (ht:tot<=1800000000) (hot:off+a.length<tot) :
  ∀
   (f i:Nat) (c:Int) (s:List Int),i+f=a.length->s.length=tot->inB LB s->0<=c/\c<18446744073709551616 ->
   ∃
    c' s',Runs (λrec y=>z40.l0aP x off (tot-off) a (a.length:Int) rec some y) (c,(i:Int),s) (c',(a.length:Int),s')/\inB LB s'/\s'.length=tot/\(0<=c'/\c'<18446744073709551616) /\
    (∀j,off+a.length<=j->s'.getD j 0=s.getD j 0)/\valB LB s'+c'*(LB^(off+a.length):Nat)=valB LB s+(c+x*valB LB (a.drop i))*(LB^(off+i):Nat)
 |
  0,i,c,s,hf,hl,hs,hc=>by
  have:i=a.length:=by omega
  subst this
  refine ⟨c,s,.done λrec=>?_,hs,hl,hc,λj _=>rfl,?_⟩
  ·unfold z40.l0aP
   simp only
   rw [Qa (by omega)]
  ·rw [List.drop_eq_nil_of_le (Nat.le_refl _)];simp [valB]
 |
  f+1,i,c,s,hf,hl,hs,hc=>by
  have hi:i<a.length:=by omega
  have his:off+i<s.length:=by omega
  have h1:=Q2 (B:=LB) (by decide) ha i
  have h2:=Q2 (B:=LB) (by decide) hs (off+i)
  have h1':0<=a.getD i 0/\a.getD i 0<18446744073709551616:=h1
  have h2':0<=s.getD (off+i) 0/\s.getD (off+i) 0<18446744073709551616:=h2
  have hp:0<=x*a.getD i 0/\x*a.getD i 0<=18446744073709551615*18446744073709551615:=⟨Int.mul_nonneg hx.1 h1'.1,Int.mul_le_mul (by omega) (by omega) h1'.1 (by decide)⟩
  obtain ⟨c',s',r1,r2,r3,r4,r5,r6⟩:=Qp3 hx ha ht hot f (i+1) ((x*a.getD i 0+c+s.getD (off+i) 0)/18446744073709551616) (s.set (off+i) ((x*a.getD i 0+c+s.getD (off+i) 0)%18446744073709551616))
   (by omega) (by simp [hl]) (Yc hs (by show 0<=_/\_<(18446744073709551616:Int);omega)) (by omega)
  refine ⟨c',s',.step (λrec=>?_) r1,r2,r3,r4,λj hj=>?_,?_⟩
  ·unfold z40.l0aP
   simp only
   rw [bif_t (by omega),if_pos (by omega),Zi,Qkw hx h1']
   simp only [Zb]
   rw [Qcq (by omega) hc.1 (by omega)]
   simp only [Zb]
   rw [if_pos (by omega),if_pos his,Qcq h2'.1 (by omega) (by omega)]
   simp only [Zb]
   rw [if_pos (by omega),if_pos his]
   generalize x*a.getD i 0=p at hp ⊢
   generalize s.getD (off+i) 0=u at h2' ⊢
   rw [Qq (n:=p/18446744073709551616+_) (by omega) (by omega),Qq (by omega) (by omega),Qc (by omega) (by omega)]
   congr 2
   ·omega
   ·congr 2;omega
  ·rw [r5 j hj,Qbc (by omega)]
  ·rw [r6,Yl his,Wb a i]
   have e1:((LB^(off+(i+1)):Nat):Int)=18446744073709551616*(LB^(off+i):Nat):=by
    rw [<-Nat.add_assoc,Nat.pow_succ,Nat.mul_comm,Int.natCast_mul];rfl
   rw [e1]
   have e3:((LB:Nat):Int)=18446744073709551616:=rfl
   rw [e3]
   generalize hy:x*a.getD i 0+c+s.getD (off+i) 0=y
   have e2:y=18446744073709551616*(y/18446744073709551616)+y%18446744073709551616:=(Int.mul_ediv_add_emod y _).symm
   generalize y/18446744073709551616=q at *
   generalize y%18446744073709551616=m at *
   generalize ((LB^(off+i):Nat):Int)=p
   generalize valB LB (a.drop (i+1))=w
   generalize valB LB s=z
   generalize s.getD (off+i) 0=u at *
   generalize a.getD i 0=v at *
   have hc':c=18446744073709551616*q+m-u-x*v:=by omega
   subst hc'
   grind
theorem Qrw {a b:List Int} {tot:Nat} (ha:inB LB a) (hb:inB LB b) (ht:tot<=1800000000) (hab:tot=a.length+b.length+1) :
  ∀
   (f i:Nat) (s:List Int),i+f=b.length->s.length=tot->inB LB s->(∀j,i+a.length<=j->s.getD j 0=0)->valB LB s=valB LB a*valB LB (b.take i) ->
   ∃s',Runs (λrec y=>z40.l0P b (b.length:Int) a rec some y) ((i:Int),s) ((b.length:Int),s')/\inB LB s'/\s'.length=tot/\valB LB s'=valB LB a*valB LB b
 |
  0,i,s,hf,hl,hs,hz,hv=>by
  have:i=b.length:=by omega
  subst this
  refine ⟨s,.done λrec=>?_,hs,hl,by rwa [List.take_length] at hv⟩
  unfold z40.l0P
  simp only
  rw [Qa (by omega)]
 |
  f+1,i,s,hf,hl,hs,hz,hv=>by
  have hi:i<b.length:=by omega
  have hx:=Q2 (B:=LB) (by decide) hb i
  have hx':0<=b.getD i 0/\b.getD i 0<18446744073709551616:=hx
  obtain ⟨c,s1,r1,r2,r3,r4,r5,r6⟩:=Qp3 (x:=b.getD i 0) (a:=a) (off:=i) (tot:=tot) hx' ha ht (by omega) a.length 0 0 s (by omega) hl hs (by omega)
  have e0:z40.l0a (b.getD i 0) i (tot-i) a (a.length:Int) ((0:Int),(0:Int),s)=some (c,(a.length:Int),s1):=r1.lfp
  have hz1:s1.getD (i+a.length) 0=0:=by rw [r5 _ (Nat.le_refl _)];exact hz _ (Nat.le_refl _)
  have hi1:i+a.length<s1.length:=by omega
  obtain ⟨s',q1,q2,q3,q4⟩:=Qrw ha hb ht hab f (i+1) (s1.set (i+a.length) c) (by omega) (by simp [r3]) (Yc r2 r4)
   (λj hj=>by rw [Qbc (by omega),r5 j (by omega)];exact hz j (by omega)) (by
    rw [Yl hi1,hz1,Yp hi,Int.mul_add,<-hv,<-Wa hi]
    simp only [List.drop_zero,Nat.add_zero,Int.zero_add] at r6
    generalize ((LB^(i+a.length):Nat):Int)=p at *
    generalize ((LB^i:Nat):Int)=p2 at *
    grind)
  refine ⟨s',.step (λrec=>?_) q1,q2,q3,q4⟩
  unfold z40.l0P
  simp only
  rw [bif_t (by omega),if_pos (by omega),if_pos (by omega),Zi,hl,e0]
  simp only [Zb,Zi]
  rw [if_pos (by omega),if_pos hi1,if_pos (by omega),if_pos hi1,hz1,Qc (by omega) (by omega),Qq (by omega) (by omega),Int.zero_add]
  rfl
theorem Q2z {a b:List Int} (ha:inB LB a) (hb:inB LB b) (hl:a.length+b.length<=800000000):z40.F a b=some (lb (valB LB a*valB LB b).toNat):=by
 obtain ⟨s',r1,r2,r3,r4⟩:=Qrw (tot:=a.length+b.length+1) ha hb (by omega) rfl b.length 0 (List.replicate (a.length+b.length+1) 0) (by omega) (by simp) (Qa4 (by decide) _)
  (λj _=>Qdx _ j) (by rw [Qca];simp [valB])
 have e0:z40.l0 b (b.length:Int) a ((0:Int),List.replicate (a.length+b.length+1) 0)=some ((b.length:Int),s'):=r1.lfp
 have e1:wr .i64 (wr .i64 ((a.length:Int)+(b.length:Int))+1)=((a.length+b.length+1:Nat):Int):=by
  rw [Qc (n:=(a.length:Int)+(b.length:Int)) (by omega) (by omega),Qc (by omega) (by omega)];omega
 unfold z40.F
 rw [e1,if_pos (by omega),Zi,e0]
 simp only [Zb]
 rw [Qf3 r2 (by show List.length _<=_;omega),r4]
 rfl
theorem Yv {m n:Nat} (hl:(lb m).length+(lb n).length<=800000000):z40.F (lb m) (lb n)=some (lb (m*n)):=by
 rw [Q2z (Qx bL m) (Qx bL n) hl,Q8 bL,Q8 bL]
 congr 2
theorem whole_Of (n:Nat) (b:Bool):z21.F (lb n) b=some (lb n,b&&decide (0<n)):=by
 unfold z21.F
 cases b
 ·rfl
 ·rw [Wy]
  simp only [Zd,Bool.true_and,Zb]
  congr 2
  by_cases h:n=0
  ·subst h;rfl
  ·rw [Zf h,Zt (by omega:0<n)];rfl
theorem whole_Of' {z:Int} {b:Bool} (h:(b=true/\z<=0)\/(b=false/\0<=z)):z21.F (lb z.natAbs) b=some (lb z.natAbs,neg z):=by
 rw [whole_Of]
 congr 2
 rcases h with ⟨rfl,h⟩|⟨rfl,h⟩
 ·rw [Bool.true_and];exact decide_eq_decide.2 (by omega)
 ·rw [Bool.false_and];symm;exact Zf (by omega)
theorem Yu {z:Int} {n:Nat} {b:Bool} (hn:n=z.natAbs) (h:(b=true/\z<=0)\/(b=false/\0<=z)):z21.F (lb n) b=some (lb z.natAbs,neg z):=by
 subst hn;exact whole_Of' h
theorem whole_From {z:Int} (h:-9223372036854775808<=z/\z<9223372036854775808):z48.F z=some (lb z.natAbs,neg z):=by
 unfold z48.F
 by_cases hz:z<0
 ·have e:wr .u64 (0-wr .u64 z)=((z.natAbs:Nat):Int):=by rw [W1 z,W1];omega
  rw [bif_t hz,e,Yh (by omega)]
  simp only [Zb,Zi]
  rw [whole_Of' (z:=z) (.inl ⟨rfl,by omega⟩)];rfl
 ·have e:wr .u64 z=((z.natAbs:Nat):Int):=by rw [Qq (by omega) (by omega)];omega
  rw [Qa hz,e,Yh (by omega)]
  simp only [Zb,Zi]
  rw [whole_Of' (z:=z) (.inr ⟨rfl,by omega⟩)];rfl
theorem Qku (z:Int):z32.F (lb z.natAbs) (neg z)=some (lb (-z).natAbs,neg (-z)):=by
 unfold z32.F
 rw [Yu (z:=-z) (by omega) (by by_cases h:z<0;exact .inr ⟨by simp [neg,h],by omega⟩;exact .inl ⟨by simp [neg,h],by omega⟩)]
 rfl
theorem W0 (z:Int):z20.F (lb z.natAbs) (neg z)=some (cmpI z 0):=by
 unfold z20.F cmpI
 rw [Wy]
 simp only [Zb]
 by_cases h0:z=0
 ·subst h0;rfl
 ·rw [Qa (by omega)]
  by_cases h:z<0
  ·rw [bif_t h,if_pos h]
  ·rw [Qa h,if_neg h,if_neg h0]
theorem Qbd {x y:Int} (hl:(lb x.natAbs).length+(lb y.natAbs).length<=800000000):z31.F (lb x.natAbs) (neg x) (lb y.natAbs) (neg y)=some (lb (x+y).natAbs,neg (x+y)):=by
 unfold z31.F
 by_cases hs:neg x=neg y
 ·have hs':(x<0↔y<0):=by simpa [neg] using hs
  rw [bif_t hs,Qbq hl]
  simp only [Zb]
  rw [Yu (z:=x+y) (by omega) (by by_cases hx:x<0;exact .inl ⟨Zt hx,by omega⟩;exact .inr ⟨Zf hx,by omega⟩)]
  rfl
 ·have hs':¬(x<0↔y<0):=by simpa [neg] using hs
  rw [Qa hs,Qds (by omega)]
  simp only [Zb]
  by_cases hc:y.natAbs<=x.natAbs
  ·rw [if_pos hc]
   simp only [Zd]
   rw [Yu (z:=x+y) (by omega) (by by_cases hx:x<0;exact .inl ⟨Zt hx,by omega⟩;exact .inr ⟨Zf hx,by omega⟩)]
   rfl
  ·rw [if_neg hc]
   simp only [Zc]
   rw [Qds (by omega),if_pos (by omega)]
   simp only [Zb]
   rw [Yu (z:=x+y) (by omega) (by by_cases hy:y<0;exact .inl ⟨Zt hy,by omega⟩;exact .inr ⟨Zf hy,by omega⟩)]
   rfl
theorem Qb7 {x y:Int} (hl:(lb x.natAbs).length+(lb y.natAbs).length<=800000000):z33.F (lb x.natAbs) (neg x) (lb y.natAbs) (neg y)=some (lb (x-y).natAbs,neg (x-y)):=by
 unfold z33.F
 rw [Qku]
 simp only [Zb]
 rw [Qbd (by rw [Int.natAbs_neg];exact hl)]
 rfl
theorem Qc5 {x y:Int} (hl:(lb x.natAbs).length+(lb y.natAbs).length<=800000000):z34.F (lb x.natAbs) (neg x) (lb y.natAbs) (neg y)=some (cmpI x y):=by
 unfold z34.F
 rw [Qb7 hl]
 simp only [Zb]
 rw [W0,Qnj]
 rfl
theorem neg_mul (x y:Int):((!decide (neg x=neg y))&&decide (0<x.natAbs*y.natAbs))=neg (x*y):=by
 have h0:0<x.natAbs*y.natAbs↔x≠0/\y≠0:=by
  constructor
  ·intro h;exact ⟨by rintro rfl;simp at h,by rintro rfl;simp at h⟩
  ·rintro ⟨h1,h2⟩;exact Nat.mul_pos (by omega) (by omega)
 rw [Bool.eq_iff_iff]
 simp only [Bool.and_eq_true,Bool.not_eq_true',decide_eq_true_eq,decide_eq_false_iff_not,h0]
 rcases Int.lt_trichotomy x 0 with hx|hx|hx<;>rcases Int.lt_trichotomy y 0 with hy|hy|hy
 ·have:=Int.mul_pos_of_neg_of_neg hx hy;simp [hx,hy];omega
 ·subst hy;simp
 ·have:=Int.mul_neg_of_neg_of_pos hx hy;simp [hx];omega
 ·subst hx;simp
 ·subst hx;simp
 ·subst hx;simp
 ·have:=Int.mul_neg_of_pos_of_neg hx hy;simp [hy];omega
 ·subst hy;simp
 ·have:=Int.mul_pos hx hy;simp;omega
theorem Yi {x y:Int} (hl:(lb x.natAbs).length+(lb y.natAbs).length<=800000000):z54.F (lb x.natAbs) (neg x) (lb y.natAbs) (neg y)=some (lb (x*y).natAbs,neg (x*y)):=by
 unfold z54.F
 rw [Yv hl]
 simp only [Zb]
 rw [whole_Of,neg_mul,Int.natAbs_mul]
 rfl
def sz (n:Nat):Nat:=(toB 10 n).length
theorem J6 (n:Nat):n<10^sz n:=Qbx b10
theorem sz_le {n k:Nat} (h:n<10^k):sz n<=k:=Yj b10 h
theorem Qu {m n:Nat} (h:m<=n):sz m<=sz n:=sz_le (Nat.lt_of_le_of_lt h (J6 n))
theorem Qj (n:Nat):(lb n).length<=sz n:=Yj bL (Nat.lt_of_lt_of_le (J6 n) (Nat.pow_le_pow_left (by decide) _))
theorem Q7 (m n:Nat):sz (m*n)<=sz m+sz n:=sz_le (by rw [Nat.pow_add];exact Nat.mul_lt_mul_of_lt_of_le (J6 m) (Nat.le_of_lt (J6 n)) (Nat.pow_pos (by decide)))
theorem Qai:sz 0=0:=by simp [sz,toB_zero]
theorem lb_zero:lb 0=[]:=toB_zero LB
def isD (b:UInt8):Bool:=decide (48<=b.toNat)&&decide (b.toNat<=57)
def digs (s:List UInt8):Bool:=s.all isD
theorem Je {s:List UInt8}:digs s=true↔Qv s:=by simp [digs,Qv,digit,isD]
theorem Qml (b c:UInt8):(b == c)=decide (b.toNat=c.toNat):=by
 rw [Bool.eq_iff_iff];simp [UInt8.toNat_inj]
theorem Qz3 (b:UInt8):([48,49,50,51,52,53,54,55,56,57]:List UInt8).contains b=isD b:=by
 rw [Bool.eq_iff_iff]
 simp only [List.contains_cons,List.contains_nil,Qml,isD]
 simp
 omega
theorem Qhb {α:Type} {p:α->Bool}:∀{l:List α},l.dropWhile p=[]↔∀x∈l,p x=true
 |[]=>by simp
 |
  a::l=>by
  by_cases h:p a=true
  ·rw [List.dropWhile_cons_of_pos h,Qhb (l:=l)];simp [h]
  ·rw [List.dropWhile_cons_of_neg h];simp [h]
theorem Qmu (s cs:List UInt8):Lib.trimS s cs=[]↔∀b∈s,cs.contains b=true:=by
 unfold Lib.trimS Lib.trimLeftS Lib.trimRightS
 rw [Qhb]
 constructor
 ·intro h
  cases he:s.reverse.dropWhile (cs.contains ·) with
  |
   nil=>
   rw [Qhb] at he
   exact λb hb=>he b (List.mem_reverse.2 hb)
  |
   cons x l=>
   have h1:=List.head?_dropWhile_not (cs.contains ·) s.reverse
   rw [he] at h1
   have h2:=h x (by rw [he];simp)
   simp only [List.head?_cons] at h1
   rw [h2] at h1;simp at h1
 ·intro h
  have he:s.reverse.dropWhile (cs.contains ·)=[]:=Qhb.2 λb hb=>h b (List.mem_reverse.1 hb)
  rw [he];simp
theorem Qsa (s:List UInt8) (hs:s.length<=9223372036854775807):∃r,z3.F s [48,49,50,51,52,53,54,55,56,57]=some r/\decide (r=[])=digs s:=by
 unfold z3.F
 rw [if_pos ⟨hs,by decide,by decide⟩]
 refine ⟨_,rfl,?_⟩
 rw [Bool.eq_iff_iff,decide_eq_true_iff,Qmu,digs,List.all_eq_true]
 simp only [Qz3]
def numOK (s:List UInt8):Bool:=!decide (s=[])&&digs s && !(decide (1<s.length)&&decide ((s.getD 0 0).toNat=48))
def mDigits (s:List UInt8):Nat×Int:=if 4096<s.length then (0,7) else if numOK s then ((tv 0 s).toNat,0) else (0,5)
theorem Qwg {s:List UInt8} {i:Nat} (hi:i<s.length) (h:(s.getD i 0).toNat<128):Utf8.decode ⟨s.toArray⟩ i=((s.getD i 0).toNat,1):=by
 have e:(ByteArray.mk s.toArray).get! (i+0)=s.getD i 0:=by
  show s.toArray[i+0]! = _
  simp [List.getD,hi]
 unfold Utf8.decode
 simp only [e]
 rw [if_pos h]
theorem Qtv {n:Int} (h1:-2147483648<=n) (h2:n<2147483648):wr .i32 n=n:=by
 simp only [wr,IntKind.wrap,IntKind.signed,IntKind.bits]
 simp;omega
theorem Qnz {s:List UInt8} (hs:Qv s) (hl:s.length<=18):∀(f i:Nat) (d:Int),i+f=s.length->0<=d/\d<(10^i:Nat) ->
  Runs (λrec x=>z41.l2P s rec some x) (d,i) (tv d (s.drop i),s.length)
 |
  0,i,d,hf,_=>by
  have:i=s.length:=by omega
  subst this
  refine .done λrec=>?_
  unfold z41.l2P
  simp only
  rw [if_neg (by omega),List.drop_eq_nil_of_le (Nat.le_refl _)]
  rfl
 |
  f+1,i,d,hf,hd=>by
  have hi:i<s.length:=by omega
  have hb:=hs s[i] (List.getElem_mem hi)
  unfold digit at hb
  have eg:s.getD i 0=s[i]:=by simp [List.getD,hi]
  have hp:(10^i:Nat)<=10^17:=Nat.pow_le_pow_right (by decide) (by omega)
  have hp':((10^i:Nat):Int)<=100000000000000000:=Int.ofNat_le.2 hp
  have ih:=Qnz hs hl f (i+1) (10*d+(s[i].toNat:Int)-48) (by omega) ⟨by omega,by rw [Nat.pow_succ,Int.natCast_mul];omega⟩
  rw [List.drop_eq_getElem_cons hi]
  refine .step (λrec=>?_) ih
  unfold z41.l2P
  simp only
  rw [if_pos hi,Qwg hi (by rw [eg];omega),eg]
  simp only
  rw [Qtv (by omega) (by omega),Qq (n:=(s[i].toNat:Int)-48) (by omega) (by omega),Qq (n:=10*d) (by omega) (by omega),Qq (by omega) (by omega)]
  congr 2;omega
theorem Q14 {s:List UInt8} {n j k:Nat} (hs:Qv s) (hk:k<=s.length) (hk':k<=18) (hn:n<10^j) (hj:j<=8192) {R:Type} (rec done:(List UInt8×Bool×List Int)->Option R) :
  z41.j5011a rec done (k:Int) s (lb n)=rec (s.drop k,false,lb (n*1000000000000000000+(tv 0 (s.take k)).toNat)):=by
 have hds:Qv (s.take k):=λb hb=>hs b (List.mem_of_mem_take hb)
 have hlen:(s.take k).length=k:=by rw [List.length_take];omega
 have htb:=Jh hds
 rw [hlen] at htb
 have hp:(10^k:Nat)<=10^18:=Nat.pow_le_pow_right (by decide) hk'
 have hp':((10^k:Nat):Int)<=1000000000000000000:=Int.ofNat_le.2 hp
 have r:=Qnz hds (by omega) (s.take k).length 0 0 (by omega) ⟨Int.le_refl 0,by decide⟩
 have er:z41.l2a (s.take k) ((0:Int),0)=some (tv 0 (s.take k),(s.take k).length):=r.lfp
 obtain ⟨U,hU⟩:∃U:Nat,1000000000000000000=U:=⟨_,rfl⟩
 have hU':Int.toNat 1000000000000000000=U:=by omega
 have hUs:sz U<=19:=sz_le (by omega)
 have hsn:=Nat.le_trans (Qj n) (sz_le hn)
 have hsu:=Nat.le_trans (Qj U) hUs
 have hsm:=Nat.le_trans (Qj (n*U)) (Nat.le_trans (Q7 n U) (Nat.add_le_add (sz_le hn) hUs))
 have hst:=Nat.le_trans (Qj (tv 0 (s.take k)).toNat) (sz_le (k:=18) (by omega))
 have e1:z38.F [(1000000000000000000:Int)]=some (lb U):=by rw [Yh (by omega),hU']
 have e2:z38.F [tv 0 (s.take k)]=some (lb (tv 0 (s.take k)).toNat):=Yh (by omega)
 have e3:z40.F (lb n) (lb U)=some (lb (n*U)):=Yv (by omega)
 have e4:z24.F (lb (n*U)) (lb (tv 0 (s.take k)).toNat)=some (lb (n*U+(tv 0 (s.take k)).toNat)):=Qbq (by omega)
 have e5:(0:Int)<=(k:Int)/\(k:Int)<=((s.length:Nat):Int):=by omega
 rw [hU]
 unfold z41.j5011a
 rw [if_pos e5,Zi,er]
 simp only [Zb]
 rw [e1]
 simp only [Zb]
 rw [e3]
 simp only [Zb]
 rw [e2]
 simp only [Zb]
 rw [e4]
 simp only [Zb]
 rw [if_pos e5]
theorem Qso:∀(m:Nat) (s:List UInt8),s.length<=m->Qv s->∀(n j:Nat) (first:Bool),n<10^j->j+s.length<=8192->((first=true/\n=0)\/(first=false/\s.length%18=0)) ->
  ∃f',Runs (λrec x=>z41.l0aaP rec some x) (s,first,lb n) ([],f',lb (tv n s).toNat)
 |
  0,s,hm,hs,n,j,first,hn,hj,hf=>by
  have:s=[]:=List.length_eq_zero_iff.1 (by omega)
  subst this
  refine ⟨first,.done λrec=>?_⟩
  simp [z41.l0aaP,tv]
 |
  m+1,s,hm,hs,n,j,first,hn,hj,hf=>by
  by_cases hne:s=[]
  ·subst hne
   refine ⟨first,.done λrec=>?_⟩
   simp [z41.l0aaP,tv]
  ·have hpos:0<s.length:=List.length_pos_iff.2 hne
   have key:∃k:Nat,0<k/\k<=s.length/\k<=18/\(n=0\/k=18)/\(s.length-k)%18=0 /\
     ∀rec,z41.l0aaP rec some (s,first,lb n)=z41.j5011a rec some (k:Int) s (lb n):=by
    have hd:(!decide (s=([]:List UInt8)))=true:=by rw [Zf hne];rfl
    rcases hf with ⟨rfl,hn0⟩|⟨rfl,h18⟩
    ·have em:Int.tmod (s.length:Int) 18=((s.length%18:Nat):Int):=by rw [Yk (by omega)];rfl
     by_cases h0:s.length%18=0
     ·refine ⟨18,by omega,by omega,by omega,.inr rfl,by omega,λrec=>?_⟩
      unfold z41.l0aaP
      simp only [hd,Zn,Zd,Zc]
      rw [em,bif_t (by omega)];rfl
     ·refine ⟨s.length%18,by omega,Nat.mod_le _ _,by omega,.inl hn0,by omega,λrec=>?_⟩
      unfold z41.l0aaP
      simp only [hd,Zn,Zd,Zc]
      rw [em,Qa (by omega)]
    ·refine ⟨18,by omega,by omega,by omega,.inr rfl,by omega,λrec=>?_⟩
     unfold z41.l0aaP
     simp only [hd,Zo,Zd]
     rfl
   obtain ⟨k,k0,k1,k2,k3,k4,k5⟩:=key
   have hds:Qv (s.take k):=λb hb=>hs b (List.mem_of_mem_take hb)
   have hdd:Qv (s.drop k):=λb hb=>hs b (List.mem_of_mem_drop hb)
   have hlen:(s.take k).length=k:=by rw [List.length_take];omega
   have htb:=Jh hds
   rw [hlen] at htb
   have htv:tv n (s.take k)=((n*1000000000000000000+(tv 0 (s.take k)).toNat:Nat):Int):=by
    rw [Qc8,hlen]
    rcases k3 with h|h
    ·subst h;simp;omega
    ·subst h
     have:((10^18:Nat):Int)=1000000000000000000:=rfl
     rw [this];omega
   have hn':n*1000000000000000000+(tv 0 (s.take k)).toNat<10^(j+k):=by
    have hp0:0<10^j:=Nat.pow_pos (by decide)
    rcases k3 with h|h
    ·subst h
     have:10^k<=10^(j+k):=Nat.pow_le_pow_right (by decide) (by omega)
     omega
    ·subst h
     have e18:(10^(j+18):Nat)=10^j*1000000000000000000:=by rw [Nat.pow_add]
     have e18':((10^18:Nat):Int)=1000000000000000000:=rfl
     rw [e18]
     have:(n+1)*1000000000000000000<=10^j*1000000000000000000:=Nat.mul_le_mul_right _ hn
     omega
   obtain ⟨f',r⟩:=Qso m (s.drop k) (by rw [List.length_drop];omega) hdd (n*1000000000000000000+(tv 0 (s.take k)).toNat) (j+k) false hn' (by rw [List.length_drop];omega) (.inr ⟨rfl,by rw [List.length_drop];exact k4⟩)
   refine ⟨f',.step (y:=(s.drop k,false,lb (n*1000000000000000000+(tv 0 (s.take k)).toNat))) (λrec=>?_) ?_⟩
   ·rw [k5,Q14 hs k1 k2 hn (by omega)]
   ·have e:tv n s=tv ((n*1000000000000000000+(tv 0 (s.take k)).toNat:Nat):Int) (s.drop k):=by
     conv=>lhs;rw [<-List.take_append_drop k s]
     rw [Qfz,htv]
    rw [e];exact r
theorem digits_Parse (s:List UInt8):z41.F s=some (lb (mDigits s).1,(mDigits s).2):=by
 unfold z41.F mDigits
 by_cases h1:4096<s.length
 ·rw [bif_t (by omega),if_pos h1,lb_zero]
 ·rw [Qa (by omega),if_neg h1]
  by_cases h2:s=[]
  ·subst h2;rw [bif_t rfl];simp [numOK,lb_zero]
  ·rw [Qa h2]
   obtain ⟨r,t1,t2⟩:=Qsa s (by omega)
   rw [t1]
   simp only [Zb]
   rw [t2]
   cases hd:digs s with
   |false=>simp [numOK,hd,lb_zero]
   |
    true=>
    have hds:=Je.1 hd
    obtain ⟨f',r⟩:=Qso s.length s (Nat.le_refl _) hds 0 0 true (by decide) (by omega) (.inl ⟨rfl,rfl⟩)
    rw [lb_zero] at r
    have er:z41.l0aa (s,true,[])=some ([],f',lb (tv ((0:Nat):Int) s).toNat):=r.lfp
    simp only [Zn,Zc]
    rw [er]
    have hpos:0<s.length:=List.length_pos_iff.2 h2
    by_cases h3:1<s.length
    ·rw [bif_t (by omega),if_pos (by omega)]
     by_cases h4:(s.getD 0 0).toNat=48
     ·rw [bif_t (by omega)]
      have:numOK s=false:=by simp [numOK,h3];intro _ _ ;simpa [List.getD] using h4
      rw [this];simp [lb_zero]
     ·rw [Qa (by omega)]
      have:numOK s=true:=by simp only [numOK,Zf h2,hd,Zf h4];simp
      rw [this];rfl
    ·rw [Qa (by omega)]
     have:numOK s=true:=by simp only [numOK,Zf h2,hd,Zf h3];simp
     rw [this];rfl
theorem Qkn (a:Int) (h0:0<=a) (h1:a<9223372036854775808):wr .i64 ((BitVec.ofInt (IntKind.bits .i64) a &&& BitVec.ofInt (IntKind.bits .i64) (1:Int)).toNat:Int)=a%2:=by
 have e:(BitVec.ofInt (IntKind.bits .i64) a &&& BitVec.ofInt (IntKind.bits .i64) (1:Int)).toNat=(a%2).toNat:=by
  rw [BitVec.toNat_and]
  have e1:(BitVec.ofInt (IntKind.bits .i64) (1:Int)).toNat=2^1-1:=rfl
  have e2:(BitVec.ofInt (IntKind.bits .i64) a).toNat=(a%18446744073709551616).toNat:=by
   rw [BitVec.toNat_ofInt];rfl
  rw [e1,Nat.and_two_pow_sub_one_eq_mod,e2]
  omega
 rw [e,Qc (by omega) (by omega)];omega
theorem shr1 (a:Int):Int.fdiv a (2^(min 1 (64:Nat)))=a/2:=by
 rw [Int.fdiv_eq_ediv_of_nonneg _ (by decide)];rfl
theorem Qfi:∀(f t n out:Nat),t<=f->t<9223372036854775808->sz out+t*sz n<=800000000 ->
  ∃n',Runs (λrec x=>z43.l0P rec some x) ((t:Int),lb n,lb out) ((0:Int),n',lb (out*n^t))
 |
  0,t,n,out,hf,ht,hb=>by
  have:t=0:=by omega
  subst this
  refine ⟨lb n,.done λrec=>?_⟩
  simp [z43.l0P]
 |
  f+1,t,n,out,hf,ht,hb=>by
  rcases Nat.eq_zero_or_pos t with h0|h0
  ·subst h0
   refine ⟨lb n,.done λrec=>?_⟩
   simp [z43.l0P]
  ·have hn:=Qj n
   have ho:=Qj out
   have hsq:=Q7 n n
   have hon:=Q7 out n
   have e2:(t:Int)/2=((t/2:Nat):Int):=by omega
   have em:(t:Int)%2=((t%2:Nat):Int):=by omega
   have hq:t*sz n=2*(t/2*sz n)+t%2*sz n:=by
    conv=>lhs;rw [<-Nat.div_add_mod t 2]
    rw [Nat.add_mul,Nat.mul_assoc]
   have hq2:t/2*sz (n*n)<=2*(t/2*sz n):=by
    have:=Nat.mul_le_mul_left (t/2) hsq
    have e:t/2*(sz n+sz n)=2*(t/2*sz n):=by rw [Nat.mul_add];omega
    omega
   have hpow:n^t=n^(t%2)*(n*n)^(t/2):=by
    rw [<-Nat.pow_two,<-Nat.pow_mul,<-Nat.pow_add];congr 1;omega
   by_cases hodd:t%2=1
   ·rw [hodd,Nat.one_mul] at hq
    by_cases h1:1<t
    ·have hge:1<=t/2:=by omega
     have hge':sz n<=t/2*sz n:=Nat.le_mul_of_pos_left _ hge
     obtain ⟨n',r⟩:=Qfi f (t/2) (n*n) (out*n) (by omega) (by omega) (by omega)
     refine ⟨n',.step (λrec=>?_) (by rw [hpow,hodd,Nat.pow_one,<-Nat.mul_assoc];exact r)⟩
     unfold z43.l0P
     simp only
     rw [bif_t (by omega),Qkn _ (by omega) (by omega),em,hodd,bif_t (by omega),Yv (by omega)]
     simp only [Zb]
     rw [bif_t (by omega),Yv (by omega),shr1,e2]
     rfl
    ·have ht1:t=1:=by omega
     subst ht1
     obtain ⟨n',r⟩:=Qfi f 0 n (out*n) (by omega) (by omega) (by omega)
     refine ⟨n',.step (λrec=>?_) (by simpa using r)⟩
     unfold z43.l0P
     simp only
     rw [bif_t (by omega),Qkn _ (by omega) (by omega),bif_t (by decide),Yv (by omega)]
     simp only [Zb]
     rw [Qa (by omega),shr1]
     rfl
   ·have h2:t%2=0:=by omega
    rw [h2,Nat.zero_mul,Nat.add_zero] at hq
    have hge:1<=t/2:=by omega
    have hge':sz n<=t/2*sz n:=Nat.le_mul_of_pos_left _ hge
    obtain ⟨n',r⟩:=Qfi f (t/2) (n*n) out (by omega) (by omega) (by omega)
    refine ⟨n',.step (λrec=>?_) (by rw [hpow,h2,Nat.pow_zero,Nat.one_mul];exact r)⟩
    unfold z43.l0P
    simp only
    rw [bif_t (by omega),Qkn _ (by omega) (by omega),em,h2,Qa (by omega),bif_t (by omega),Yv (by omega)]
    simp only [Zb]
    rw [shr1,e2]
theorem digits_power {n t:Nat} (ht:t<9223372036854775808) (h:t*sz n<=700000000):z43.F (lb n) (t:Int)=some (lb (n^t)):=by
 have h1:sz 1<=1:=sz_le (by decide)
 obtain ⟨n',r⟩:=Qfi t t n 1 (Nat.le_refl _) ht (by omega)
 have e:z43.l0 ((t:Int),lb n,lb 1)=some ((0:Int),n',lb (1*n^t)):=r.lfp
 unfold z43.F
 rw [Yh (by omega)]
 simp only [Zb]
 rw [show Int.toNat 1=1 from rfl,e,Nat.one_mul]
 rfl
theorem digits_Ten {t:Nat} (ht:t<=4096):z44.F (t:Int)=some (lb (10^t),0):=by
 have h1:sz 10<=2:=sz_le (by decide)
 have h2:=Nat.mul_le_mul_left t h1
 unfold z44.F
 rw [Qa (by omega),Qa (by omega),Yh (by omega)]
 simp only [Zb]
 rw [show Int.toNat 10=10 from rfl,digits_power (by omega) (by omega)]
 rfl
def Ym (a b:Nat):Prop:=z68.F (lb a) (lb b)=some (lb (a/b),lb (a%b),0)
def Qbg (M:Nat):Prop:=∀x y,x<=M->y<=M->0<y->Ym x y
theorem Q6 {m n:Int}:cmpI m n<0↔m<n:=by unfold cmpI;split<;>(try split)<;>omega
theorem Wh {m n:Int}:cmpI m n>0↔n<m:=by unfold cmpI;split<;>(try split)<;>omega
theorem Yt {m n:Int}:cmpI m n=0↔m=n:=by unfold cmpI;split<;>(try split)<;>omega
theorem Qgl {a:Nat} (h0:0<a) (h:a<18446744073709551616):lb a=[(a:Int)]:=by
 show toB LB a=_
 rw [Wg bL h0,Nat.mod_eq_of_lt h,Nat.div_eq_of_lt h,toB_zero]
theorem Qp6 {a b:Int} (ha:0<=a/\a<18446744073709551616) (hb:0<b):z63.F 0 a b=some (a/b,a%b):=by
 unfold z63.F
 rw [Qa (by omega),Qa (by omega),bif_t rfl,if_neg (by omega),if_neg (by omega),Yd ha.1,Yk ha.1]
 have h1:=Int.ediv_nonneg ha.1 (Int.le_of_lt hb)
 have h2:=Int.ediv_le_self b ha.1
 rw [Qq h1 (by omega)]
theorem Quc {a b:Int} (ha:0<=a/\a<18446744073709551616) (hb:0<b):z64.F [a] b=some ([a/b],a%b):=by
 have h0:z64.l0 [a] b ((0:Int),(0:Int),[(0:Int)])=some (a%b,(-1:Int),[a/b]):=by
  refine (Runs.step (y:=(a%b,(-1:Int),[a/b])) (λrec=>?_) (Runs.done λrec=>?_):Runs (λrec x=>z64.l0P [a] b rec some x) _ _).lfp
  ·unfold z64.l0P
   simp only [List.length_singleton]
   rw [bif_t (by omega),if_pos (by omega),show [a].getD (Int.toNat 0) 0=a from rfl,Qp6 ha hb]
   rfl
  ·unfold z64.l0P
   simp only
   rw [Qa (by omega)]
 unfold z64.F
 simp only [List.length_singleton]
 rw [if_pos (by omega)]
 show ((z64.l0 [a] b ((0:Int),wr .i64 0,[(0:Int)])).bind _)=_
 rw [Qc (by omega) (by omega),h0]
 rfl
theorem Qiz {a b:Nat} (h:a<b) (hs:(lb a).length<=900000000):Ym a b:=by
 unfold Ym z68.F
 rw [Wy]
 simp only [Zb]
 rw [Qa (by omega),Qcb hs]
 simp only [Zb]
 have:cmpI (a:Int) b<0:=by unfold cmpI;rw [if_pos (by omega)];decide
 rw [bif_t this,Nat.div_eq_of_lt h,Nat.mod_eq_of_lt h,lb_zero]
theorem Qyt {a b:Nat} (ha:a<18446744073709551616) (hb:0<b):Ym a b:=by
 have hl:(lb a).length<=1:=Yj bL (by simpa using ha)
 rcases Nat.lt_or_ge a b with h|h
 ·exact Qiz h (by omega)
 ·unfold Ym z68.F
  rw [Wy]
  simp only [Zb]
  rw [Qa (by omega),Qcb (by omega)]
  simp only [Zb]
  have:¬cmpI (a:Int) b<0:=by unfold cmpI;rw [if_neg (by omega)];split<;>omega
  rw [Qa this,Qgl (by omega) ha,Qgl hb (by omega),J1 (by show List.length _<=_;simp),J1 (by show List.length _<=_;simp)]
  simp only [Zb,List.length_singleton]
  rw [bif_t (by omega),if_pos (by omega),show [(b:Int)].getD 0 0=b from rfl,Quc (by omega) (by omega)]
  simp only [Zb]
  have b1:a/b<=a:=Nat.div_le_self a b
  have b2:a%b<=a:=Nat.mod_le a b
  obtain ⟨q,hq⟩:∃q,a/b=q:=⟨_,rfl⟩
  obtain ⟨m,hm⟩:∃m,a%b=m:=⟨_,rfl⟩
  have e1:((a:Int)/b)=(q:Int):=by rw [<-hq];rfl
  have e2:((a:Int)%b)=(m:Int):=by rw [<-hm];rfl
  rw [hq] at b1 ⊢
  rw [hm] at b2 ⊢
  rw [e1,e2,Yh (by omega)]
  simp only [Zb]
  rw [Yh (by omega)]
  rfl
theorem quot_Gcd {M:Nat} (hD:Qbg M) {a b:Nat} (ha:a<=M) (hb:b<=M):z69.F (lb a) (lb b)=some (lb (Nat.gcd a b)):=by
 have key:∀(f a b:Nat),b<f->a<=M->b<=M->Runs (λrec x=>z69.l0P rec some x) (lb a,lb b) (lb (Nat.gcd a b),[]):=by
  intro f
  induction f with
  |zero=>intro a b h;omega
  |
   succ f ih=>
   intro a b h ha hb
   rcases Nat.eq_zero_or_pos b with h0|h0
   ·subst h0
    refine .done λrec=>?_
    unfold z69.l0P
    simp only [Wy,Zb]
    rw [Nat.gcd_zero_right,lb_zero];rfl
   ·have hm:=Nat.mod_lt a h0
    have hmm:=Nat.mod_le a b
    have e:Nat.gcd a b=Nat.gcd b (a%b):=by rw [Nat.gcd_comm,Nat.gcd_rec,Nat.gcd_comm]
    rw [e]
    refine .step (λrec=>?_) (ih b (a%b) (by omega) hb (by omega))
    unfold z69.l0P
    simp only [Wy,Zb]
    rw [Zf (by omega),Zo,Zd,hD a b ha hb h0]
    rfl
 unfold z69.F
 have e:z69.l0 (lb a,lb b)=some (lb (Nat.gcd a b),[]):=(key (b+1) a b (by omega) ha hb).lfp
 rw [e];rfl
theorem Qpb (z:Int):decide (cmpI z 0<0)=neg z:=by
 unfold cmpI;apply decide_eq_decide.2;split<;>(try split)<;>omega
theorem Qh0 {z:Int} {g:Nat} (h:g∣z.natAbs) (h0:0<g):(z/(g:Int)).natAbs=z.natAbs/g/\(z/(g:Int)<0↔z<0):=by
 obtain ⟨k,hk⟩:=Int.ofNat_dvd_left.2 h
 subst hk
 have hg:(g:Int)≠0:=by omega
 rw [Int.mul_ediv_cancel_left _ hg,Int.natAbs_mul,Int.natAbs_natCast,Nat.mul_div_cancel_left _ h0]
 refine ⟨rfl,?_⟩
 constructor
 ·intro h;exact Int.mul_neg_of_pos_of_neg (by omega) h
 ·intro h
  rcases Int.lt_or_le k 0 with h'|h'
  ·exact h'
  ·have:=Int.mul_nonneg (show (0:Int)<=g by omega) h';omega
theorem frac_made {M:Nat} (hD:Qbg M) {num:Int} {den:Nat} (h0:0<den) (hn:num.natAbs<=M) (hd:den<=M) (hs:sz den<=700000000) :
  z70.F (lb num.natAbs) (neg num) (lb den)=some (lb (mkRat num den).num.natAbs,neg (mkRat num den).num,lb ((mkRat num den).den-1)):=by
 have hg:0<Nat.gcd num.natAbs den:=Nat.gcd_pos_of_pos_right _ h0
 have hgd:Nat.gcd num.natAbs den<=den:=Nat.gcd_le_right _ h0
 have hdv:=Nat.gcd_dvd_right num.natAbs den
 have hdv2:=Nat.gcd_dvd_left num.natAbs den
 have hp:0<den/Nat.gcd num.natAbs den:=Nat.div_pos hgd hg
 have hle:den/Nat.gcd num.natAbs den<=den:=Nat.div_le_self _ _
 have hsz:=Nat.le_trans (Qj _) (Nat.le_trans (Qu hle) hs)
 obtain ⟨q1,q2⟩:=Qh0 hdv2 hg
 unfold z70.F z59.F
 simp only [Zb]
 rw [quot_Gcd hD hn hd]
 simp only [Zb]
 rw [Rat.num_mkRat,Rat.den_mkRat,if_neg (by omega),if_neg (by omega),Nat.gcd_comm den]
 generalize Nat.gcd num.natAbs den=g at *
 have d1:z68.F (lb num.natAbs) (lb g)=_:=hD _ _ hn (by omega) hg
 have d2:z68.F (lb den) (lb g)=_:=hD _ _ hd (by omega) hg
 rw [d1]
 simp only [Zb]
 rw [d2]
 simp only [Zb]
 rw [Yh (by omega)]
 simp only [Zb]
 rw [show Int.toNat 1=1 from rfl,Qds (by omega),if_pos (by omega)]
 simp only [Zb]
 rw [W0]
 simp only [Zb]
 rw [Qpb,Yu (z:=num/(g:Int)) q1.symm (by
  have hz:num/(g:Int)<0↔num<0:=q2
  by_cases h:num<0
  ·exact .inl ⟨Zt h,by omega⟩
  ·exact .inr ⟨Zf h,by omega⟩)]
 rfl
abbrev fr (q:Rat):List Int×Bool×List Int:=(lb q.num.natAbs,neg q.num,lb (q.den-1))
theorem frac_Of {M:Nat} (hD:Qbg M) {num den:Int} (h0:den≠0) (hn:num.natAbs<=M) (hd:den.natAbs<=M) (hs:sz den.natAbs<=700000000) :
  z71.F (lb num.natAbs) (neg num) (lb den.natAbs) (neg den)=some ((fr (Rat.divInt num den)).1,(fr (Rat.divInt num den)).2.1,(fr (Rat.divInt num den)).2.2,0):=by
 have hc:cmpI den 0=if den<0 then -1 else 1:=by
  unfold cmpI
  by_cases h:den<0
  ·rw [if_pos h,if_pos h]
  ·rw [if_neg h,if_neg h,if_neg h0]
 unfold z71.F
 rw [W0]
 simp only [Zb]
 rw [hc]
 by_cases h:den<0
 ·have e:Rat.divInt num den=mkRat (-num) den.natAbs:=by
   have:den = -((den.natAbs:Nat):Int):=by omega
   conv=>lhs;rw [this]
   rw [Rat.divInt_neg',Rat.divInt_ofNat]
  rw [if_pos h,Qa (by decide),bif_t rfl,Qku]
  simp only [Zb]
  unfold z71.j4 z59.F
  simp only [Zb]
  rw [frac_made hD (by omega) (by omega) hd hs,e]
  rfl
 ·have e:Rat.divInt num den=mkRat num den.natAbs:=by
   have:den=((den.natAbs:Nat):Int):=by omega
   conv=>lhs;rw [this]
   rw [Rat.divInt_ofNat]
  rw [if_neg h,Qa (by decide),Qa (by decide)]
  unfold z71.j4 z59.F
  simp only [Zb]
  rw [frac_made hD (by omega) hn hd hs,e]
  rfl
theorem Yy (q:Rat) (a:List Int) (b:Bool) (hs:sz q.den<=700000000):z73.F a b (lb (q.den-1))=some (lb q.den):=by
 have h1:sz 1<=1:=sz_le (by decide)
 have h2:=Nat.le_trans (Qj (q.den-1)) (Nat.le_trans (Qu (Nat.sub_le _ _)) hs)
 have h3:=Nat.le_trans (Qj 1) h1
 unfold z73.F
 rw [Yh (by omega)]
 simp only [Zb]
 rw [show Int.toNat 1=1 from rfl,Qbq (by omega),Nat.sub_add_cancel q.den_pos]
 rfl
theorem Qct (q:Rat) (a:List Int) (b:Bool) (hs:sz q.den<=700000000):z74.F a b (lb (q.den-1))=some (lb (q.den:Int).natAbs,neg (q.den:Int)):=by
 unfold z74.F
 rw [Yy q a b hs]
 simp only [Zb]
 rw [Yu (z:=(q.den:Int)) (by omega) (.inr ⟨rfl,by omega⟩)]
 rfl
theorem Qkh (q r:Rat):q/r=Rat.divInt (q.num*r.den) (q.den*r.num):=by
 rw [Rat.div_def,Rat.inv_def]
 conv=>lhs;rw [<-Rat.num_divInt_den q,Rat.divInt_mul_divInt]
theorem Qno {M:Nat} (hD:Qbg M) {q r:Rat} (h0:r≠0) (hn:(q.num*r.den).natAbs<=M) (hd:(q.den*r.num).natAbs<=M) (hs:sz q.num.natAbs+sz r.den<=600000000) (hs':sz r.num.natAbs+sz q.den<=600000000) :
  z75.F (lb q.num.natAbs) (neg q.num) (lb (q.den-1)) (lb r.num.natAbs) (neg r.num) (lb (r.den-1))=some ((fr (q/r)).1,(fr (q/r)).2.1,(fr (q/r)).2.2,0):=by
 have e1:sz (r.den:Int).natAbs=sz r.den:=rfl
 have e2:sz (q.den:Int).natAbs=sz q.den:=rfl
 have l1:=Qj q.num.natAbs
 have l2:=Qj (r.den:Int).natAbs
 have l3:=Qj (q.den:Int).natAbs
 have l4:=Qj r.num.natAbs
 have hr:r.num≠0:=λh=>h0 (Rat.num_eq_zero.1 h)
 have hqd:=q.den_nz
 have m1:=Q7 (q.den:Int).natAbs r.num.natAbs
 rw [<-Int.natAbs_mul] at m1
 unfold z75.F
 rw [Qct r _ _ (by omega)]
 simp only [Zb]
 rw [Yi (by omega)]
 simp only [Zb]
 rw [Qct q _ _ (by omega)]
 simp only [Zb]
 rw [Yi (by omega)]
 simp only [Zb]
 rw [frac_Of hD (Int.mul_ne_zero (by omega) hr) hn hd (by show sz _<=_;omega),Qkh]
 rfl
def cutNeg (s:List UInt8):List UInt8×Bool:=match s with|[]=>([],false)|b::t=>if b=45 then (t,true) else (b::t,false)
theorem Qsb (s:List UInt8):(cutNeg s).1.length<=s.length:=by
 unfold cutNeg;split
 ·simp
 ·split<;>simp
theorem Qry (s:List UInt8):z37.F s [45]=some (cutNeg s):=by
 unfold z37.F z36.F z35.F cutNeg
 cases s with
 |nil=>rfl
 |
  cons b t=>
  have e1:([45]:List UInt8).length=1:=rfl
  have e2:Int.toNat ((1:Nat):Int)=1:=rfl
  simp only [e1,e2]
  rw [bif_t (by simp;omega),if_pos (by simp;omega)]
  simp only [Zb,List.take_succ_cons,List.take_zero,List.drop_succ_cons,List.drop_zero,List.cons.injEq,and_true]
  by_cases h:b=45
  ·rw [Zt h,if_pos h,if_pos (by simp;omega)];rfl
  ·rw [Zf h,if_neg h];rfl
def mWhole (s:List UInt8):Int×Int:=
 if (mDigits (cutNeg s).1).2≠0 then (0,(mDigits (cutNeg s).1).2)
 else if (cutNeg s).2&&decide ((mDigits (cutNeg s).1).1=0) then (0,5)
 else (if (cutNeg s).2 then -((mDigits (cutNeg s).1).1:Int) else (mDigits (cutNeg s).1).1,0)
theorem whole_Parse (s:List UInt8):z42.F s=some (lb (mWhole s).1.natAbs,neg (mWhole s).1,(mWhole s).2):=by
 unfold z42.F mWhole
 rw [Qry]
 simp only [Zb]
 rw [digits_Parse]
 simp only [Zb]
 generalize mDigits (cutNeg s).1=d
 generalize (cutNeg s).2=below
 by_cases h:d.2=0
 ·have h':¬(d.2≠0):=λhh=>hh h
  rw [Zt h,if_neg h']
  simp only [Zn,Zc]
  cases below with
  |
   true=>
   simp only [Zd,Bool.true_and,if_true]
   rw [Wy]
   simp only [Zb]
   by_cases h0:d.1=0
   ·rw [Zt h0]
    simp only [if_true,Zd]
    rw [show Int.natAbs 0=0 from rfl,lb_zero];rfl
   ·rw [Zf h0]
    simp only [Zc]
    rw [Yu (z:=-(d.1:Int)) (by omega) (.inl ⟨rfl,by omega⟩)]
    simp
  |
   false=>
   simp only [Zc,Bool.false_and]
   rw [Yu (z:=(d.1:Int)) (by omega) (.inr ⟨rfl,by omega⟩)]
   simp
 ·rw [Zf h,if_pos h]
  simp only [Zo,Zd]
  rw [show Int.natAbs 0=0 from rfl,lb_zero];rfl
def cutDot:List UInt8->List UInt8×Option (List UInt8)
 |[]=>([],none)
 |b::t=>if b=46 then ([],some t) else (b::(cutDot t).1,(cutDot t).2)
theorem Qgg:∀{t:List UInt8},(cutDot t).2=none->(cutDot t).1=t
 |[],_=>rfl
 |
  b::t,h=>by
  unfold cutDot at h ⊢
  split at h
  ·simp at h
  ·rename_i hb
   rw [if_neg hb]
   simp only at h ⊢
   rw [Qgg h]
theorem Qg6:∀{t r:List UInt8},(cutDot t).2=some r->t=(cutDot t).1++46::r
 |[],r,h=>by simp [cutDot] at h
 |
  b::t,r,h=>by
  unfold cutDot at h ⊢
  split at h
  ·rename_i hb
   rw [if_pos hb,hb]
   simp only [Zs] at h
   rw [h];rfl
  ·rename_i hb
   rw [if_neg hb]
   simp only at h ⊢
   conv=>lhs;rw [Qg6 h]
   rfl
theorem Q21 (b:UInt8) (t:List UInt8) (c:UInt8):Jt (b::t) c=if b=c then 0 else if Jt t c<0 then -1 else Jt t c+1:=by
 unfold Jt
 rw [List.length_cons,List.range_succ_eq_map,List.find?_cons]
 by_cases h:b=c
 ·simp [h]
 ·have h1:((b::t).getD 0 0 == c)=false:=by simp [h]
  rw [h1,if_neg h]
  simp only
  rw [List.find?_map]
  have e:((λi=>(b::t).getD i 0 == c)∘Nat.succ)=λi=>t.getD i 0 == c:=by funext i;simp [List.getD]
  rw [e]
  cases (List.range t.length).find? λi=>t.getD i 0 == c with
  |none=>simp
  |some i=>simp;omega
theorem Qlr:∀t:List UInt8,Jt t 46=if (cutDot t).2=none then -1 else ((cutDot t).1.length:Int)
 |[]=>by simp [Jt,cutDot]
 |
  b::t=>by
  have e:cutDot (b::t)=if b=46 then ([],some t) else (b::(cutDot t).1,(cutDot t).2):=by rw [cutDot]
  rw [Q21,Qlr t,e]
  by_cases h:b=46
  ·simp [h]
  ·rw [if_neg h,if_neg h]
   by_cases h2:(cutDot t).2=none
   ·simp [h2]
   ·simp [h2];omega
def plainB (s:List UInt8):Bool:=!decide (s=[])&&digs s
def zeros (s:List UInt8):Bool:=s.all (· == 48)
theorem dec_plain (s:List UInt8) (h:s.length<=9223372036854775807):z49.F s=some (plainB s):=by
 unfold z49.F plainB
 by_cases h0:s=[]
 ·rw [Zt h0];rfl
 ·rw [Zf h0]
  obtain ⟨r,t1,t2⟩:=Qsa s h
  simp only [Zo,Zd]
  rw [t1]
  simp only [Zb]
  rw [t2];simp
theorem Qwd (b:UInt8):([48]:List UInt8).contains b=(b == 48):=by
 simp only [List.contains_cons,List.contains_nil,Bool.or_false]
theorem Qqv (s:List UInt8) (hs:s.length<=9223372036854775807):∃r,z3.F s [48]=some r/\decide (r=[])=zeros s:=by
 unfold z3.F
 rw [if_pos ⟨hs,by decide,by decide⟩]
 refine ⟨_,rfl,?_⟩
 rw [Bool.eq_iff_iff,decide_eq_true_iff,Qmu,zeros,List.all_eq_true]
 simp only [Qwd]
theorem Qq0:∀{s:List UInt8},Qv s->tv 0 (trimL s [48])=tv 0 s/\Qv (trimL s [48])/\(trimL s [48]).length<=s.length/\(trimL s [48]≠[]->((trimL s [48]).getD 0 0).toNat≠48)
 |[],h=>by simp [trimL,tv,Qv]
 |
  b::s,h=>by
  have ih:=Qq0 (s:=s) λx hx=>h x (by simp [hx])
  by_cases hb:b=48
  ·have e:trimL (b::s) [48]=trimL s [48]:=by unfold trimL;exact List.dropWhile_cons_of_pos (by rw [hb];decide)
   rw [e]
   refine ⟨?_,ih.2.1,by rw [List.length_cons];omega,ih.2.2.2⟩
   rw [ih.1,hb];rfl
  ·have e:trimL (b::s) [48]=b::s:=by unfold trimL;exact List.dropWhile_cons_of_neg (by simp [hb])
   rw [e]
   refine ⟨rfl,h,Nat.le_refl _,λ_ hh=>hb (UInt8.toNat_inj.1 hh)⟩
theorem Qsi {s:List UInt8} (hd:Qv s) (hl:s.length<=4096):z41.F (if trimL s [48]=[] then [48] else trimL s [48])=some (lb (tv 0 s).toNat,0):=by
 obtain ⟨h1,h2,h3,h4⟩:=Qq0 hd
 rw [digits_Parse]
 by_cases h:trimL s [48]=[]
 ·rw [if_pos h]
  rw [h] at h1
  rw [<-h1];rfl
 ·rw [if_neg h,<-h1]
  unfold mDigits
  have:numOK (trimL s [48])=true:=by
   unfold numOK
   rw [Zf h,Je.2 h2,Zf (h4 h)];simp
  rw [if_neg (by omega),this];rfl
def Jk (below:Bool) (a:List UInt8) (o:Option (List UInt8)):Int×Nat×Int:=
 if !plainB a||(o.isSome && !plainB (o.getD []))||(decide (1<a.length)&&decide ((a.getD 0 0).toNat=48)) then (0,0,5)
 else if below&&zeros (a++o.getD []) then (0,0,5)
 else if 64<(o.getD []).length then (0,0,10)
 else (if below then -tv 0 (a++o.getD []) else tv 0 (a++o.getD []),(o.getD []).length,0)
def mDec (s:List UInt8):Int×Nat×Int:=if 4096<s.length then (0,0,7) else Jk (cutNeg s).2 (cutDot (cutNeg s).1).1 (cutDot (cutNeg s).1).2
abbrev decR (m:Int×Nat×Int):List Int×Bool×Int×Int:=(lb m.1.natAbs,neg m.1,(m.2.1:Int),m.2.2)
theorem Jv (e:Int):decR (0,0,e)=([],false,0,e):=by unfold decR;simp [lb_zero]
theorem Qrr (n:Int) (h:0<=n) (below:Bool):z21.F (lb n.toNat) below=some (lb (if below then -n else n).natAbs,neg (if below then -n else n)):=by
 cases below
 ·rw [Yu (z:=n) (by omega) (.inr ⟨rfl,h⟩)];rfl
 ·rw [Yu (z:=-n) (by omega) (.inl ⟨rfl,by omega⟩)];rfl
theorem Q22 {rest a b:List UInt8} {below lead:Bool} (h1:rest.take a.length=a) (h2:rest.drop (a.length+1)=b) (ha:Qv a) (hb:Qv b) (hl:a.length+b.length<=4096) :
  z50.j14 lead (rest,below) (a.length:Int)=some (decR (if lead then (0,0,5) else if below&&zeros (a++b) then (0,0,5) else if 64<b.length then (0,0,10) else (if below then -tv 0 (a++b) else tv 0 (a++b),b.length,0))):=by
 have e1:(wr .i64 ((a.length:Int)+1)).toNat=a.length+1:=by rw [Qc (by omega) (by omega)];omega
 have hab:Qv (a++b):=λx hx=>(List.mem_append.1 hx).elim (ha x) (hb x)
 have hln:(a++b).length<=4096:=by rw [List.length_append];exact hl
 have key:z50.j16 false (rest,below) (a.length:Int)=some (decR (if 64<b.length then (0,0,10) else (if below then -tv 0 (a++b) else tv 0 (a++b),b.length,0))):=by
  unfold z50.j16
  simp only [e1,Zi,h1,h2,Zc]
  by_cases h64:64<b.length
  ·rw [bif_t (by omega),if_pos h64,Jv]
  ·rw [Qa (by omega),if_neg h64,if_pos (by omega)]
   have et:z4.F (a++b) [48]=some (trimL (a++b) [48]):=by unfold z4.F;rw [if_pos ⟨by decide,by decide⟩]
   rw [et]
   simp only [Zb]
   have ep:=Qsi hab hln
   have fin:∀x,z41.F x=some (lb (tv 0 (a++b)).toNat,0)->z50.j18 x (rest,below) (a.length:Int)=some (decR (if below then -tv 0 (a++b) else tv 0 (a++b),b.length,0)):=λx hx=>by
    unfold z50.j18
    rw [hx]
    simp only [Zb,e1,h2]
    rw [Qrr _ (Jh hab).1]
    rfl
   by_cases ht:trimL (a++b) [48]=[]
   ·rw [if_pos ht] at ep
    rw [bif_t ht];exact fin _ ep
   ·rw [if_neg ht] at ep
    rw [Qa ht];exact fin _ ep
 unfold z50.j14
 simp only [e1,Zi,h1,h2]
 cases lead with
 |true=>simp only [Zd,if_true];rw [Jv]
 |
  false=>
  simp only [Zc]
  rw [if_neg Bool.false_ne_true]
  cases below with
  |false=>simp only [Zc,Bool.false_and];rw [key];rfl
  |
   true=>
   obtain ⟨r,t1,t2⟩:=Qqv (a++b) (by omega)
   simp only [Zd,Bool.true_and]
   rw [if_pos (by omega),t1]
   simp only [Zb]
   rw [t2]
   cases hz:zeros (a++b) with
   |true=>unfold z50.j16;simp only [Zd,if_true];rw [Jv]
   |false=>rw [key];rfl
theorem Q11 {a:List UInt8} {below lead:Bool} (ha:Qv a) (hl:a.length<=4096) :
  z50.j22 lead (a,below)=some (decR (if lead then (0,0,5) else if below&&zeros a then (0,0,5) else (if below then -tv 0 a else tv 0 a,0,0))):=by
 have key:z50.j24 (a,below)=some (decR (if below then -tv 0 a else tv 0 a,0,0)):=by
  unfold z50.j24
  simp only [List.append_nil]
  rw [if_pos (by simp;omega)]
  have et:z4.F a [48]=some (trimL a [48]):=by unfold z4.F;rw [if_pos ⟨by decide,by decide⟩]
  rw [et]
  simp only [Zb]
  have ep:=Qsi ha hl
  have fin:∀x,z41.F x=some (lb (tv 0 a).toNat,0)->z50.j26 x (a,below)=some (decR (if below then -tv 0 a else tv 0 a,0,0)):=λx hx=>by
   unfold z50.j26
   rw [hx]
   simp only [Zb]
   rw [Qrr _ (Jh ha).1]
   rfl
  by_cases ht:trimL a [48]=[]
  ·rw [if_pos ht] at ep
   rw [bif_t ht];exact fin _ ep
  ·rw [if_neg ht] at ep
   rw [Qa ht];exact fin _ ep
 unfold z50.j22
 simp only [List.append_nil]
 cases lead with
 |true=>simp only [Zd,if_true];rw [Jv]
 |
  false=>
  simp only [Zc]
  rw [if_neg Bool.false_ne_true]
  cases below with
  |false=>simp only [Zc,Bool.false_and];rw [key];rfl
  |
   true=>
   obtain ⟨r,t1,t2⟩:=Qqv a (by omega)
   simp only [Zd,Bool.true_and]
   rw [if_pos (by simp;omega),t1]
   simp only [Zb]
   rw [t2]
   cases hz:zeros a with
   |true=>simp only [Zd,if_true];rw [Jv]
   |false=>simp only [Zc];rw [key];rfl
theorem Qeb {s:List UInt8} (h:plainB s=true):Qv s/\s≠[]:=by
 unfold plainB at h
 rw [Bool.and_eq_true] at h
 exact ⟨Je.1 h.2,by simpa using h.1⟩
theorem Qmc {a:List UInt8} (hne:a≠[]) {α:Type} (f:Bool->Option α) :
  (bif decide ((a.length:Int)>1) then (if (0:Int)<=(0:Int)/\(0:Int)<(a.length:Int) then f (decide (((a.getD 0 0).toNat:Int)=(48:Int))) else none) else f false)=f (decide (1<a.length)&&decide ((a.getD 0 0).toNat=48)):=by
 have hpos:=List.length_pos_iff.2 hne
 by_cases h:1<a.length
 ·rw [bif_t (by omega),if_pos (by omega),Zt h,Bool.true_and]
  congr 1;exact decide_eq_decide.2 (by omega)
 ·rw [Qa (by omega),Zf h,Bool.false_and]
theorem dec_Parse (s:List UInt8):z50.F s=some (decR (mDec s)):=by
 unfold z50.F mDec
 by_cases h0:4096<s.length
 ·rw [bif_t (by omega),if_pos h0,Jv]
 ·rw [Qa (by omega),if_neg h0,Qry]
  simp only [Zb]
  have hlen:=Qsb s
  generalize cutNeg s=c at *
  obtain ⟨rest,below⟩:=c
  simp only at hlen ⊢
  have hp0:z49.F ([]:List UInt8)=some false:=rfl
  by_cases hdot:([46]:List UInt8)=rest
  ·subst hdot
   rw [bif_t rfl]
   simp only [List.length_singleton,List.take_zero,hp0,Zb]
   unfold z50.j4
   simp only [Zo,Zd]
   have:Jk below (cutDot [46]).1 (cutDot [46]).2=(0,0,5):=by simp [cutDot,Jk,plainB]
   rw [this,Jv]
   rfl
  ·rw [Qa hdot,if_pos (by simp)]
   have hi:z2.F rest ((([46]:List UInt8).getD 0 0).toNat:Int)=some (Jt rest 46):=rfl
   rw [hi]
   simp only [Zb]
   rw [Qlr]
   cases ho:(cutDot rest).2 with
   |
    none=>
    have ha:=Qgg ho
    rw [if_pos rfl,Qa (by omega),ha,dec_plain _ (by omega)]
    simp only [Zb]
    unfold Jk
    simp only [Option.isSome_none,Bool.false_and,Bool.or_false,Option.getD_none,List.append_nil,List.length_nil]
    cases hpl:plainB rest with
    |false=>unfold z50.j22;simp only [Zo,Zd,Bool.true_or,if_true];rw [Jv]
    |
     true=>
     obtain ⟨hd,hne⟩:=Qeb hpl
     simp only [Zn,Zc,Bool.false_or]
     rw [Qmc hne λb=>z50.j22 b (rest,below),Q11 hd (by omega)]
     rfl
   |
    some b=>
    have hab:=Qg6 ho
    generalize (cutDot rest).1=a at *
    have hl:rest.length=a.length+(b.length+1):=by rw [hab];simp
    have t1:rest.take a.length=a:=by rw [hab];simp
    have t2:rest.drop (a.length+1)=b:=by
     rw [hab,<-List.drop_drop];simp
    have e1:(wr .i64 ((a.length:Int)+1))=((a.length+1:Nat):Int):=by rw [Qc (by omega) (by omega)];omega
    rw [if_neg (by simp),bif_t (by omega),if_pos (by omega)]
    simp only [e1,Zi,t1,t2]
    rw [if_pos (by omega),dec_plain a (by omega)]
    simp only [Zb]
    unfold Jk
    simp only [Option.isSome_some,Bool.true_and,Option.getD_some]
    cases hpl:plainB a with
    |false=>unfold z50.j14;simp only [Zo,Zd,Bool.true_or,if_true];rw [Jv]
    |
     true=>
     obtain ⟨hd,hne⟩:=Qeb hpl
     simp only [Zn,Zc,Bool.false_or]
     rw [dec_plain b (by omega)]
     simp only [Zb]
     cases hpb:plainB b with
     |false=>unfold z50.j14;simp only [Zo,Zd,Bool.true_or,if_true];rw [Jv]
     |
      true=>
      obtain ⟨hdb,hneb⟩:=Qeb hpb
      simp only [Zn,Zc,Bool.false_or]
      rw [Qmc hne λx=>z50.j14 x (rest,below) (a.length:Int),Q22 t1 t2 hd hdb (by omega)]
abbrev leap (y:Int):Prop:=y%4=0/\¬y%100=0\/y%400=0
abbrev goodY (y:Int):Prop:=1<=y/\y<=9999
def dDays (y m:Int):Int:=if ¬goodY y\/m<1\/12<m then 0 else if m=2 then (if leap y then 29 else 28) else if m=4\/m=6\/m=9\/m=11 then 30 else 31
abbrev right (y m d:Int):Prop:=1<=d/\d<=dDays y m
theorem Qc2 {a b:Int} (hb:0<b):Int.tmod a b=0↔a%b=0:=by
 rw [<-Int.dvd_iff_tmod_eq_zero,<-Int.dvd_iff_emod_eq_zero]
theorem date_good (y:Int):z86.F y=some (decide (goodY y)):=by
 unfold z86.F
 by_cases h:y>=1
 ·rw [bif_t h];congr 1;exact decide_eq_decide.2 (by omega)
 ·rw [Qa h];congr 1;symm;exact Zf (by omega)
theorem date_Leap (y:Int):z87.F y=some (decide (goodY y/\leap y)):=by
 unfold z87.F
 rw [date_good]
 simp only [Zb,Qc2 (show (0:Int)<4 by decide),Qc2 (show (0:Int)<100 by decide),Qc2 (show (0:Int)<400 by decide)]
 by_cases h:goodY y
 ·rw [bif_t h]
  by_cases h4:y%4=0
  ·rw [bif_t h4]
   by_cases h1:y%100=0
   ·rw [Zt h1];simp only [Zn,Zc];congr 1;exact decide_eq_decide.2 (by omega)
   ·rw [Zf h1];simp only [Zo,Zd];congr 1;symm;exact Zt (by omega)
  ·rw [Qa h4];congr 1;exact decide_eq_decide.2 (by omega)
 ·rw [Qa h];congr 1;symm;exact Zf (λhh=>h hh.1)
theorem date_Days (y m:Int):z88.F y m=some (dDays y m):=by
 unfold z88.F dDays
 rw [date_good]
 simp only [Zb]
 by_cases hy:goodY y
 ·rw [Zt hy]
  simp only [Zn,Zc]
  by_cases h1:m<1
  ·rw [bif_t h1,if_pos (by omega)]
  ·rw [Qa h1]
   by_cases h12:m>12
   ·rw [bif_t h12,if_pos (by omega)]
   ·rw [Qa h12,if_neg (by omega)]
    by_cases h2:m=2
    ·subst h2
     rw [bif_t rfl,if_pos rfl,date_Leap]
     simp only [Zb]
     by_cases hl:leap y
     ·rw [Zt ⟨hy,hl⟩,if_pos hl];rfl
     ·rw [Zf (λhh=>hl hh.2),if_neg hl];rfl
    ·rw [Qa h2,if_neg h2]
     have:m=1\/m=3\/m=4\/m=5\/m=6\/m=7\/m=8\/m=9\/m=10\/m=11\/m=12:=by omega
     rcases this with rfl|rfl|rfl|rfl|rfl|rfl|rfl|rfl|rfl|rfl|rfl<;>rfl
 ·rw [Zf hy,if_pos (.inl hy)];rfl
theorem Qdg (y m:Int):0<=dDays y m/\dDays y m<=31:=by
 unfold dDays;split
 ·omega
 ·split
  ·split<;>omega
  ·split<;>omega
theorem Qbn {y m:Int} (hy:goodY y) (hm:1<=m/\m<=12):28<=dDays y m:=by
 unfold dDays;rw [if_neg (by omega)];split
 ·split<;>omega
 ·split<;>omega
theorem Q3 {y m d:Int} (h:right y m d):goodY y/\1<=m/\m<=12/\1<=d/\d<=31:=by
 have h1:=h.2
 have h2:=Qdg y m
 unfold dDays at h1
 split at h1
 ·have:=h.1;omega
 ·rename_i hn
  have:=h.1
  refine ⟨by omega,by omega,by omega,by omega,by omega⟩
theorem date_Check (y m d:Int):z89.F y m d=some (if right y m d then 0 else 11):=by
 unfold z89.F
 rw [date_Days]
 simp only [Zb]
 by_cases h:d<1
 ·rw [bif_t h,if_neg (by omega)]
 ·rw [Qa h]
  by_cases h':d>dDays y m
  ·rw [bif_t h',if_neg (by omega)]
  ·rw [Qa h',if_pos (by omega)]
abbrev okM (y m k:Int):Prop:=12<=(12*y+m-1)+k/\(12*y+m-1)+k<120000
def aheadY (y:Int):Int:=365*(y-1)+(y-1)/4-(y-1)/100+(y-1)/400
def cumD (y m:Int):Int:=(367*m-362)/12-(if m<=2 then 0 else if leap y then 1 else 2)
def num (y m d:Int):Int:=aheadY y+cumD y m+d
theorem Jm (y:Int):cumD y 1=0:=rfl
theorem Jj {y m:Int} (hy:goodY y) (hm:1<=m/\m<=12):cumD y (m+1)=cumD y m+dDays y m:=by
 unfold cumD dDays
 rw [if_neg (show ¬(¬goodY y\/m<1\/12<m) by omega)]
 have:m=1\/m=2\/m=3\/m=4\/m=5\/m=6\/m=7\/m=8\/m=9\/m=10\/m=11\/m=12:=by omega
 by_cases hl:leap y
 ·simp only [if_pos hl];rcases this with rfl|rfl|rfl|rfl|rfl|rfl|rfl|rfl|rfl|rfl|rfl|rfl<;>rfl
 ·simp only [if_neg hl];rcases this with rfl|rfl|rfl|rfl|rfl|rfl|rfl|rfl|rfl|rfl|rfl|rfl<;>rfl
theorem Qan (y:Int):aheadY (y+1)=aheadY y+cumD y 13:=by
 unfold aheadY cumD
 rw [if_neg (by decide)]
 by_cases hl:leap y
 ·rw [if_pos hl];omega
 ·rw [if_neg hl];omega
theorem Qaj {y y':Int} (h:y<=y'):aheadY y<=aheadY y':=by unfold aheadY;omega
theorem Qcu {y m m':Int} (h:m<=m') (h1:1<=m):cumD y m<=cumD y m':=by
 unfold cumD
 split<;>split<;>(try split)<;>omega
theorem Qhg {y m d y' m' d':Int} (h:right y m d) (h':right y' m' d') (hl:y<y'\/y=y'/\(m<m'\/m=m'/\d<d')):num y m d<num y' m' d':=by
 have g:=Q3 h
 have g':=Q3 h'
 unfold num
 rcases hl with hl|⟨rfl,hl|⟨rfl,hl⟩⟩
 ·have s1:=Jj g.1 ⟨g.2.1,g.2.2.1⟩
  have s2:=Qcu (y:=y) (m:=m+1) (m':=13) (by omega) (by omega)
  have s3:=Qan y
  have s4:=Qaj (y:=y+1) (y':=y') (by omega)
  have s5:=Qcu (y:=y') (m:=1) (m':=m') (by omega) (by omega)
  rw [Jm] at s5
  omega
 ·have s1:=Jj g.1 ⟨g.2.1,g.2.2.1⟩
  have s2:=Qcu (y:=y) (m:=m+1) (m':=m') (by omega) (by omega)
  omega
 ·omega
theorem Qbv {y:Int} (h:-20000<=y/\y<=20000) (h1:1<=y):z97.F y=some (aheadY y):=by
 unfold z97.F aheadY
 rw [Qc (n:=y-1) (by omega) (by omega),Yd (by omega),Yd (by omega),Yd (by omega)]
 rw [Qc (n:=365*(y-1)) (by omega) (by omega),Qc (n:=(y-1)/4) (by omega) (by omega),Qc (n:=(y-1)/100) (by omega) (by omega),Qc (n:=(y-1)/400) (by omega) (by omega)]
 rw [Qc (n:=365*(y-1)+(y-1)/4) (by omega) (by omega),Qc (n:=365*(y-1)+(y-1)/4-(y-1)/100) (by omega) (by omega),Qc (by omega) (by omega)]
theorem Jy {y:Int} (h:1<=y/\y<=20000):0<=aheadY y/\aheadY y<=8000000:=by unfold aheadY;omega
theorem Qi7 {y m:Int} (h:1<=m/\m<=13):0<=cumD y m/\cumD y m<=366:=by
 unfold cumD;split
 ·omega
 ·split<;>omega
theorem Qpq {y:Int} (hy:goodY y):∀(f:Nat) (n k m:Int),1<=k->k+f=m->m<=12->0<=n/\n<=10000000-40*f ->
  Runs (λrec x=>z98.l0P y m rec some x) (n,k) (n+cumD y m-cumD y k,m)
 |
  0,n,k,m,h1,hk,hm,hn=>by
  have:k=m:=by omega
  subst this
  refine .done λrec=>?_
  unfold z98.l0P
  simp only
  rw [Qa (by omega)];congr 2;omega
 |
  f+1,n,k,m,h1,hk,hm,hn=>by
  have hd:=Qdg y k
  have ih:=Qpq hy f (n+dDays y k) (k+1) m (by omega) (by omega) hm (by omega)
  have e:n+dDays y k+cumD y m-cumD y (k+1)=n+cumD y m-cumD y k:=by rw [Jj hy (by omega)];omega
  rw [e] at ih
  refine .step (λrec=>?_) ih
  unfold z98.l0P
  simp only
  rw [bif_t (by omega),date_Days]
  simp only [Zb]
  rw [Qc (by omega) (by omega),Qc (by omega) (by omega)]
theorem Qh7 {y m d:Int} (h:right y m d):1<=num y m d/\num y m d<=3652059:=by
 have g:=Q3 h
 have s1:=Jj g.1 ⟨g.2.1,g.2.2.1⟩
 have s2:=Qcu (y:=y) (m:=m+1) (m':=13) (by omega) (by omega)
 have s3:=Qan y
 have s4:=Qaj (y:=y+1) (y':=10000) (by omega)
 have s5:=Jy (y:=y) (by omega)
 have s6:=Qi7 (y:=y) (m:=m) (by omega)
 have s7:aheadY 10000=3652059:=by decide
 unfold num;omega
theorem date_Number (y m d:Int):z98.F y m d=some (if right y m d then (num y m d,0) else (0,11)):=by
 unfold z98.F
 rw [date_Check]
 simp only [Zb]
 by_cases h:right y m d
 ·have g:=Q3 h
  have b:=Qh7 h
  have ha:=Jy (y:=y) (by omega)
  have r:=Qpq g.1 (m-1).toNat (aheadY y) 1 m (by omega) (by omega) (by omega) (by omega)
  have e:z98.l0 y m (aheadY y,(1:Int))=some (aheadY y+cumD y m-cumD y 1,m):=r.lfp
  rw [if_pos h,if_pos h]
  simp only [decide_true,Zn,Zc]
  rw [Qbv (by omega) (by omega)]
  simp only [Zb]
  rw [e]
  simp only [Zb]
  rw [Jm,Int.sub_zero]
  have e2:aheadY y+cumD y m+d=num y m d:=rfl
  rw [e2,Qc (by omega) (by omega)]
 ·rw [if_neg h,if_neg h];rfl
def dcmp (a b c a' b' c':Int):Int:=if a<a' then -1 else if a'<a then 1 else if b<b' then -1 else if b'<b then 1 else if c<c' then -1 else if c'<c then 1 else 0
theorem or3 (x y z:Int):z95.F [x,y,z]=some (if x≠0 then x else if y≠0 then y else z):=by
 have e0:wr .i64 (0+1)=1:=by decide
 have e1:wr .i64 (1+1)=2:=by decide
 have e2:wr .i64 (2+1)=3:=by decide
 have r3:Runs (λrec i=>z95.l0P 0 [x,y,z] 3 rec some i) 3 (.inl 3):=.done λrec=>by unfold z95.l0P;rw [Qa (by decide)]
 have r2:Runs (λrec i=>z95.l0P 0 [x,y,z] 3 rec some i) 2 (if z≠0 then .inr z else .inl 3):=by
  by_cases h:z=0
  ·rw [if_neg (by omega)]
   refine .step (λrec=>?_) r3
   unfold z95.l0P
   rw [bif_t (by decide),if_pos (by simp),show [x,y,z].getD (Int.toNat 2) 0=z from rfl,Zt h,e2];rfl
  ·rw [if_pos h]
   refine .done λrec=>?_
   unfold z95.l0P
   rw [bif_t (by decide),if_pos (by simp),show [x,y,z].getD (Int.toNat 2) 0=z from rfl,Zf h];rfl
 have r1:Runs (λrec i=>z95.l0P 0 [x,y,z] 3 rec some i) 1 (if y≠0 then .inr y else if z≠0 then .inr z else .inl 3):=by
  by_cases h:y=0
  ·rw [if_neg (by omega)]
   refine .step (λrec=>?_) r2
   unfold z95.l0P
   rw [bif_t (by decide),if_pos (by simp),show [x,y,z].getD (Int.toNat 1) 0=y from rfl,Zt h,e1];rfl
  ·rw [if_pos h]
   refine .done λrec=>?_
   unfold z95.l0P
   rw [bif_t (by decide),if_pos (by simp),show [x,y,z].getD (Int.toNat 1) 0=y from rfl,Zf h];rfl
 have r0:Runs (λrec i=>z95.l0P 0 [x,y,z] 3 rec some i) 0 (if x≠0 then .inr x else if y≠0 then .inr y else if z≠0 then .inr z else .inl 3):=by
  by_cases h:x=0
  ·rw [if_neg (by omega)]
   refine .step (λrec=>?_) r1
   unfold z95.l0P
   rw [bif_t (by decide),if_pos (by simp),show [x,y,z].getD (Int.toNat 0) 0=x from rfl,Zt h,e0];rfl
  ·rw [if_pos h]
   refine .done λrec=>?_
   unfold z95.l0P
   rw [bif_t (by decide),if_pos (by simp),show [x,y,z].getD (Int.toNat 0) 0=x from rfl,Zf h];rfl
 have e:z95.l0 0 [x,y,z] 3 0=_:=r0.lfp
 unfold z95.F
 show ((z95.l0 0 [x,y,z] 3 0).bind _)=_
 rw [e]
 simp only [Zb]
 by_cases hx:x=0<;>by_cases hy:y=0<;>by_cases hz:z=0<;>simp [hx,hy,hz]
theorem date_Cmp (a b c a' b' c':Int):z96.F a b c a' b' c'=some (dcmp a b c a' b' c'):=by
 unfold z96.F
 rw [Qea]
 simp only [Zb]
 rw [Qea]
 simp only [Zb]
 rw [Qea]
 simp only [Zb]
 rw [or3]
 simp only [Zb]
 congr 1
 unfold cmpI dcmp
 rcases Int.lt_trichotomy a a' with h|h|h<;>rcases Int.lt_trichotomy b b' with g|g|g<;>rcases Int.lt_trichotomy c c' with k|k|k <;>
  (repeat' split)<;>omega
theorem Qw3 {y m d y' m' d':Int} (h:right y m d) (h':right y' m' d'):dcmp y m d y' m' d'=cmpI (num y m d) (num y' m' d'):=by
 by_cases e:y=y'/\m=m'/\d=d'
 ·obtain ⟨rfl,rfl,rfl⟩:=e
  unfold dcmp cmpI;simp
 ·by_cases hl:y<y'\/y=y'/\(m<m'\/m=m'/\d<d')
  ·have:=Qhg h h' hl
   rw [show cmpI (num y m d) (num y' m' d') = -1 from by unfold cmpI;rw [if_pos this]]
   unfold dcmp
   (repeat' split)<;>omega
  ·have:=Qhg h' h (by omega)
   rw [show cmpI (num y m d) (num y' m' d')=1 from by unfold cmpI;rw [if_neg (by omega),if_neg (by omega)]]
   unfold dcmp
   (repeat' split)<;>omega
theorem Qma {s:List UInt8} (h:Qv s):sz (tv 0 s).toNat<=s.length:=sz_le (by have:=Jh h;omega)
theorem Q1q (s:List UInt8):sz (mDigits s).1<=4096:=by
 have h0:sz 0<=4096:=by rw [Qai];omega
 unfold mDigits
 split
 ·exact h0
 ·split
  ·rename_i h1 h2
   unfold numOK at h2
   simp only [Bool.and_eq_true] at h2
   have:=Qma (Je.1 h2.1.2)
   show sz (tv 0 s).toNat<=4096
   omega
  ·exact h0
theorem Qnp (s:List UInt8):sz (mWhole s).1.natAbs<=4096:=by
 have h:=Q1q (cutNeg s).1
 have h0:sz 0<=4096:=by rw [Qai];omega
 unfold mWhole
 split
 ·exact h0
 ·split
  ·exact h0
  ·show sz (if _ then _ else _:Int).natAbs<=_
   split
   ·rw [Int.natAbs_neg];exact h
   ·exact h
def mMoney (s:List UInt8):Int×Int:=
 if (mWhole s).2≠0 then (0,(mWhole s).2) else if (mWhole s).1<0\/10^30<(mWhole s).1 then (0,19) else ((mWhole s).1,0)
theorem terms_greatest:z45.F=some (lb (Int.natAbs (10^30)),neg (10^30)):=by
 unfold z45.F
 have h:=digits_Ten (t:=30) (by decide)
 rw [show ((30:Nat):Int)=30 from rfl] at h
 rw [h]
 simp only [Zb]
 rw [Yu (z:=10^30) (by decide) (.inr ⟨rfl,by decide⟩)]
 rfl
theorem terms_Money (s:List UInt8):z46.F s=some (lb (mMoney s).1.natAbs,neg (mMoney s).1,(mMoney s).2):=by
 have hz:=Qnp s
 unfold z46.F mMoney
 rw [whole_Parse]
 simp only [Zb]
 generalize mWhole s=w at *
 have hn:lb (Int.natAbs 0)=[]:=lb_zero
 by_cases h:w.2=0
 ·rw [Zt h,if_neg (by omega)]
  simp only [Zn,Zc]
  rw [W0]
  simp only [Zb]
  by_cases h1:w.1<0
  ·rw [bif_t (Q6.2 h1),if_pos (.inl h1),hn];rfl
  ·rw [Qa (λh=>h1 (Q6.1 h)),terms_greatest]
   simp only [Zb]
   have l1:=Qj w.1.natAbs
   have l2:(lb (Int.natAbs (10^30))).length<=31:=Nat.le_trans (Qj _) (sz_le (by decide))
   have l3:sz w.1.natAbs<=4096:=hz
   rw [Qc5 (by omega)]
   simp only [Zb]
   by_cases h2:10^30<w.1
   ·rw [bif_t (Wh.2 h2),if_pos (.inr h2),hn];rfl
   ·rw [Qa (λh=>h2 (Wh.1 h)),if_neg (by omega)]
 ·rw [Zf h,if_pos h,hn];rfl
theorem Qjk (s:List UInt8):(mDec s).2.1<=64/\sz (mDec s).1.natAbs<=4096:=by
 have h0:sz (Int.natAbs 0)<=4096:=by show sz 0<=4096;rw [Qai];omega
 unfold mDec
 split
 ·exact ⟨Nat.zero_le _,h0⟩
 ·rename_i hl
  have hc:=Qsb s
  generalize (cutNeg s).1=t at *
  unfold Jk
  split
  ·exact ⟨Nat.zero_le _,h0⟩
  ·rename_i hp
   split
   ·exact ⟨Nat.zero_le _,h0⟩
   ·split
    ·exact ⟨Nat.zero_le _,h0⟩
    ·rename_i h64
     refine ⟨by show List.length _<=64;omega,?_⟩
     have hd:Qv ((cutDot t).1++(cutDot t).2.getD [])/\((cutDot t).1++(cutDot t).2.getD []).length<=4096:=by
      simp only [Bool.or_eq_true,not_or,Bool.not_eq_true',Bool.not_eq_false,Bool.and_eq_true] at hp
      obtain ⟨⟨p1,p2⟩,p3⟩:=hp
      have q1:=(Qeb (by simpa using p1)).1
      cases ho:(cutDot t).2 with
      |
       none=>
       have:=Qgg ho
       simp only [Option.getD_none,List.append_nil]
       exact ⟨q1,by rw [this];omega⟩
      |
       some b=>
       have:=Qg6 ho
       rw [ho] at p2
       have q2:=(Qeb (s:=b) (by simpa using p2)).1
       simp only [Option.getD_some]
       refine ⟨λx hx=>(List.mem_append.1 hx).elim (q1 x) (q2 x),?_⟩
       have hlen:t.length=(cutDot t).1.length+(b.length+1):=by
        conv=>lhs;rw [this]
        simp
       rw [List.length_append];omega
     have h1:=Nat.le_trans (Qma hd.1) hd.2
     have h2:=(Jh hd.1).1
     show sz (if _ then _ else _:Int).natAbs<=_
     have e:∀z:Int,0<=z->z.natAbs=z.toNat:=λz hz=>by omega
     split
     ·rw [Int.natAbs_neg,e _ h2];exact h1
     ·rw [e _ h2];exact h1
theorem dec_ten {t:Nat} (ht:t<=4096):z55.F (t:Int)=some (lb (10^t:Nat),false):=by
 unfold z55.F
 rw [digits_Ten ht]
 simp only [Zb]
 rw [whole_Of];rfl
theorem Qp7 {t:Nat} (ht:t<=4096):z55.F (t:Int)=some (lb ((10^t:Nat):Int).natAbs,neg ((10^t:Nat):Int)):=by
 rw [dec_ten ht]
 have:neg ((10^t:Nat):Int)=false:=Zf (Int.not_lt.2 (Int.natCast_nonneg _))
 rw [this];rfl
theorem Qdh (t:Nat):sz (10^t)<=t+1:=sz_le (by rw [Nat.pow_succ];have:0<10^t:=Nat.pow_pos (by decide);omega)
theorem Qmx {c:Int} {s t:Nat} (h:s<=t) (ht:t<=4096) (hc:sz c.natAbs<=100000000):z56.F (lb c.natAbs) (neg c) (s:Int) (t:Int)=some (lb (c*(10^(t-s):Nat)).natAbs,neg (c*(10^(t-s):Nat))):=by
 have l1:=Qj c.natAbs
 have l2:=Qj ((10^(t-s):Nat):Int).natAbs
 have l3:=Qdh (t-s)
 have l4:sz ((10^(t-s):Nat):Int).natAbs=sz (10^(t-s)):=rfl
 unfold z56.F
 rw [Qc (by omega) (by omega),show (t:Int)-s=((t-s:Nat):Int) by omega,Qp7 (by omega)]
 simp only [Zb]
 rw [Yi (by omega)]
 rfl
theorem Q3k {c c':Int} {s s':Nat} (hs:s<=2000) (hs':s'<=2000) (hc:sz c.natAbs<=100000000) (hc':sz c'.natAbs<=100000000) :
  z57.F (lb c.natAbs) (neg c) (s:Int) (lb c'.natAbs) (neg c') (s':Int)=some (cmpI (c*(10^(max s s'-s):Nat)) (c'*(10^(max s s'-s'):Nat))):=by
 have e:(if (s':Int)>(s:Int) then (s':Int) else (s:Int))=((max s s':Nat):Int):=by split<;>omega
 have m1:=Q7 c.natAbs (10^(max s s'-s))
 have m2:=Q7 c'.natAbs (10^(max s s'-s'))
 have t1:=Qdh (max s s'-s)
 have t2:=Qdh (max s s'-s')
 have l1:=Qj (c*(10^(max s s'-s):Nat)).natAbs
 have l2:=Qj (c'*(10^(max s s'-s'):Nat)).natAbs
 have e1:(c*(10^(max s s'-s):Nat)).natAbs=c.natAbs*10^(max s s'-s):=by rw [Int.natAbs_mul];rfl
 have e2:(c'*(10^(max s s'-s'):Nat)).natAbs=c'.natAbs*10^(max s s'-s'):=by rw [Int.natAbs_mul];rfl
 have hc1:sz c.natAbs<=100000000:=hc
 have hc2:sz c'.natAbs<=100000000:=hc'
 rw [<-e1] at m1
 rw [<-e2] at m2
 unfold z57.F
 rw [e,Qmx (by omega) (by omega) hc]
 simp only [Zb]
 rw [Qmx (by omega) (by omega) hc']
 simp only [Zb]
 rw [Qc5 (by omega)]
 rfl
theorem Qbb (n:Int) {d:Nat} (hd:0<d):(mkRat n d).num.natAbs<=n.natAbs:=by
 rw [Rat.num_mkRat,if_neg (by omega),Nat.gcd_comm]
 have hg:0<Nat.gcd n.natAbs d:=Nat.gcd_pos_of_pos_right _ hd
 rw [(Qh0 (Nat.gcd_dvd_left n.natAbs d) hg).1]
 exact Nat.div_le_self _ _
theorem Qbf (n:Int) {d:Nat} (hd:0<d):(mkRat n d).den<=d:=by
 rw [Rat.den_mkRat,if_neg (by omega)]
 exact Nat.div_le_self _ _
theorem Q31 {M:Nat} (hD:Qbg M) {c:Int} {s:Nat} (hs:s<=4096) (hc:c.natAbs<=M) (hM:10^s<=M):z72.F (lb c.natAbs) (neg c) (s:Int)=some (fr (mkRat c (10^s))):=by
 have hp:0<10^s:=Nat.pow_pos (by decide)
 have l:=Qdh s
 unfold z72.F
 rw [Qp7 hs]
 simp only [Zb]
 rw [frac_Of (num:=c) (den:=((10^s:Nat):Int)) hD (by exact_mod_cast (Nat.ne_of_gt hp)) hc (by show 10^s<=M;exact hM) (by show sz (10^s)<=_;omega),Rat.divInt_ofNat]
 rfl
def mRate (s:List UInt8):Rat×Int:=
 if (mDec s).2.2≠0 then (0,(mDec s).2.2)
 else if (mDec s).1<0\/1000*(10^(mDec s).2.1:Nat)<(mDec s).1\/12<(mDec s).2.1 then (0,18)
 else (mkRat (mDec s).1 (10^(mDec s).2.1)/100,0)
theorem Qn0:fr 0=([],false,[]):=by
 show (lb 0,neg 0,lb 0)=_
 rw [lb_zero];rfl
theorem Qhp (e:Int):some (([]:List Int),false,([]:List Int),e)=some ((fr (0:Rat)).1,(fr (0:Rat)).2.1,(fr (0:Rat)).2.2,e):=by
 rw [Qn0]
theorem Q4b:fr 100=(lb (Int.natAbs 100),neg 100,[]):=by
 show (lb 100,neg 100,lb 0)=_
 rw [lb_zero];rfl
theorem Qrz:Qbg 1000000000000000000:=λx y hx hy h0=>Qyt (by omega) h0
theorem terms_Rate (s:List UInt8):z76.F s=some ((fr (mRate s).1).1,(fr (mRate s).1).2.1,(fr (mRate s).1).2.2,(mRate s).2):=by
 obtain ⟨hb1,hb2⟩:=Qjk s
 unfold z76.F mRate
 rw [dec_Parse]
 simp only [Zb,decR]
 generalize mDec s=d at *
 obtain ⟨c,sc,e⟩:=d
 simp only at *
 have hcz:sz c.natAbs<=4096:=hb2
 by_cases h:e=0
 ·rw [Zt h,if_neg (by omega)]
  simp only [Zn,Zc]
  rw [whole_From (by omega)]
  simp only [Zb]
  have ho:z52.F (lb (Int.natAbs 1000)) (neg 1000) 0=some (lb (Int.natAbs 1000),neg 1000,0,0):=rfl
  rw [ho]
  simp only [Zb]
  unfold z53.F z58.F
  simp only [Zb]
  rw [W0]
  simp only [Zb]
  by_cases h1:c<0
  ·rw [bif_t (Q6.2 h1),if_pos (.inl h1)];exact Qhp 18
  ·rw [Qa (λh=>h1 (Q6.1 h))]
   have hk:sz (Int.natAbs 1000)<=4:=sz_le (by decide)
   have hcmp:=Q3k (c:=c) (c':=1000) (s:=sc) (s':=0) (by omega) (by omega) (by omega) (by omega)
   rw [show ((0:Nat):Int)=0 from rfl] at hcmp
   rw [hcmp]
   simp only [Zb,Nat.max_zero,Nat.sub_self,Nat.pow_zero,Nat.sub_zero,Int.natCast_one,Int.mul_one]
   by_cases h2:1000*((10^sc:Nat):Int)<c
   ·rw [bif_t (Wh.2 h2),if_pos (.inr (.inl h2))];exact Qhp 18
   ·rw [Qa (λh=>h2 (Wh.1 h))]
    by_cases h3:12<sc
    ·rw [bif_t (by omega),if_pos (.inr (.inr h3))];exact Qhp 18
    ·rw [Qa (by omega),if_neg (by omega)]
     have hp12:10^sc<=10^12:=Nat.pow_le_pow_right (by decide) (by omega)
     have hp0:0<10^sc:=Nat.pow_pos (by decide)
     have n1:=Qbb c hp0
     have n2:=Qbf c hp0
     have hd0:=(mkRat c (10^sc)).den_pos
     unfold z76.j8
     rw [Q31 Qrz (by omega) (by omega) (by omega)]
     simp only [Zb]
     rw [whole_From (by omega)]
     simp only [Zb]
     have hf:z47.F (lb (Int.natAbs 100)) (neg 100)=some (fr 100):=by rw [Q4b];rfl
     rw [hf]
     simp only [Zb]
     generalize mkRat c (10^sc)=q at *
     have hq:=Qno Qrz (q:=q) (r:=100) (by decide)
      (by rw [show (100:Rat).den=1 from rfl];simp;omega)
      (by rw [show (100:Rat).num=100 from rfl,Int.natAbs_mul];show q.den*100<=_;omega)
      (by
        rw [show (100:Rat).den=1 from rfl]
        have a1:sz q.num.natAbs<=20:=sz_le (by omega)
        have a2:sz 1<=1:=sz_le (by decide)
        omega)
      (by
        rw [show (100:Rat).num=100 from rfl]
        have a1:sz q.den<=20:=sz_le (by omega)
        have a2:sz (Int.natAbs 100)<=3:=sz_le (by decide)
        omega)
     rw [hq]
     rfl
 ·rw [Zf h,if_pos h];exact Qhp e
structure Tm where
 p:List UInt8
 r:List UInt8
 kind:Int
 basis:Int
 mode:Int
 y:Int
 m:Int
 d:Int
 every:Int
 count:Int
abbrev Qbo (e:Int):Prop:=e=1\/e=2\/e=3\/e=4\/e=6\/e=12
abbrev kindsOK (t:Tm):Prop:=(0<=t.kind/\t.kind<=2)/\(0<=t.basis/\t.basis<=2)/\(0<=t.mode/\t.mode<=4)/\Qbo t.every
def mCheck (t:Tm):Int:=
 if (mMoney t.p).2≠0 then (mMoney t.p).2 else if (mMoney t.p).1=0 then 19 else if (mRate t.r).2≠0 then (mRate t.r).2
 else if ¬kindsOK t then 2 else if t.count<1\/1200<t.count then 6 else if right t.y t.m t.d/\okM t.y t.m (t.every*t.count) then 0 else 11
theorem Qmd (k:Int):∃w,z84.F k=some w/\decide (w=[])=decide (¬(0<=k/\k<=2)):=by
 unfold z84.F z82.F
 by_cases h:k>=0
 ·rw [bif_t h]
  by_cases h':k<3
  ·have:k=0\/k=1\/k=2:=by omega
   rcases this with rfl|rfl|rfl<;>exact ⟨_,rfl,rfl⟩
  ·rw [Zf h'];exact ⟨_,rfl,by simp;omega⟩
 ·rw [Qa h];exact ⟨_,rfl,by simp;omega⟩
theorem Qjh (k:Int):∃w,z81.F k=some w/\decide (w=[])=decide (¬(0<=k/\k<=4)):=by
 unfold z81.F z79.F
 by_cases h:k>=0
 ·rw [bif_t h]
  by_cases h':k<5
  ·have:k=0\/k=1\/k=2\/k=3\/k=4:=by omega
   rcases this with rfl|rfl|rfl|rfl|rfl<;>exact ⟨_,rfl,rfl⟩
  ·rw [Zf h'];exact ⟨_,rfl,by simp;omega⟩
 ·rw [Qa h];exact ⟨_,rfl,by simp;omega⟩
theorem Qe5 {e c:Int} (he:Qbo e) (hc:1<=c/\c<=1200):1<=e*c/\e*c<=14400:=by
 rcases he with rfl|rfl|rfl|rfl|rfl|rfl<;>omega
theorem Qtz (n:Nat):numOK (txt n)=true:=by
 unfold numOK
 rw [Zf (Qsy n),Je.2 (Qgf n)]
 by_cases h:n=0
 ·subst h;rfl
 ·obtain ⟨b,s,e,hb⟩:=Qkr h
  rw [e]
  have:((b::s).getD 0 0).toNat=b.toNat:=rfl
  rw [this,Zf hb];simp
theorem Qrd {s:List UInt8} (h:Qv s):cutNeg s=(s,false):=by
 unfold cutNeg
 cases s with
 |nil=>rfl
 |
  cons b t=>
  have hb:=h b (by simp)
  unfold digit at hb
  simp only
  rw [if_neg]
  rintro rfl
  simp at hb
theorem Qe2 {n:Nat} (h:(txt n).length<=4096):mWhole (txt n)=((n:Int),0):=by
 have hd:mDigits (txt n)=(n,0):=by
  unfold mDigits
  rw [if_neg (by omega),if_pos (Qtz n),Jr,Zi]
 unfold mWhole
 rw [Qrd (Qgf n)]
 simp only [hd]
 rw [if_neg (by simp),if_neg (by simp)]
 rfl
theorem Jz {n:Nat} (h:n<=10^30):mMoney (txt n)=((n:Int),0):=by
 unfold mMoney
 have hl:(txt n).length<=31:=Y2 (by omega) (by decide)
 rw [Qe2 (by omega)]
 have e:(10:Int)^30=((10^30:Nat):Int):=rfl
 rw [if_neg (by simp),if_neg (by rw [e];omega)]
def padded (n k:Nat):List UInt8:=List.replicate (k+1-(txt n).length) 48++txt n
theorem Qnl (n k:Nat):k<(padded n k).length/\(padded n k).length<=k+1+(txt n).length:=by unfold padded;rw [List.length_append,List.length_replicate];omega
theorem Q09 (n k:Nat):Qv (padded n k):=λb hb=>by
 rcases List.mem_append.1 hb with h|h
 ·rw [List.eq_of_mem_replicate h];unfold digit;decide
 ·exact Qgf n b h
theorem Qyv (f:Nat) (s:List UInt8):tv 0 (List.replicate f 48++s)=tv 0 s:=by
 induction f with
 |zero=>rfl
 |succ f ih=>rw [List.replicate_succ,List.cons_append];exact ih
theorem Q2t (n k:Nat):tv 0 (padded n k)=n:=by unfold padded;rw [Qyv,Jr]
def decTxt (n k:Nat):List UInt8:=(padded n k).take ((padded n k).length-k)++46::(padded n k).drop ((padded n k).length-k)
theorem Ql1:∀{a:List UInt8} (b:List UInt8),Qv a->cutDot (a++46::b)=(a,some b)
 |[],b,_=>rfl
 |
  x::a,b,h=>by
  have hx:=h x (by simp)
  have ih:=Ql1 (a:=a) b λy hy=>h y (by simp [hy])
  show cutDot (x::(a++46::b))=_
  unfold cutDot
  rw [if_neg (by rintro rfl;unfold digit at hx;simp at hx),ih]
theorem Qvx {n k:Nat} (hk:0<k/\k<=64) (hl:(txt n).length<=1000):mDec (decTxt n k)=((n:Int),k,0):=by
 have pl:=Qnl n k
 have pd:=Q09 n k
 have hda:Qv ((padded n k).take ((padded n k).length-k)):=λb hb=>pd b (List.mem_of_mem_take hb)
 have hdb:Qv ((padded n k).drop ((padded n k).length-k)):=λb hb=>pd b (List.mem_of_mem_drop hb)
 have la:((padded n k).take ((padded n k).length-k)).length=(padded n k).length-k:=by rw [List.length_take];omega
 have lb':((padded n k).drop ((padded n k).length-k)).length=k:=by rw [List.length_drop];omega
 have hcat:(padded n k).take ((padded n k).length-k)++(padded n k).drop ((padded n k).length-k)=padded n k:=List.take_append_drop _ _
 have hlead:(decide (1<((padded n k).take ((padded n k).length-k)).length)&&decide ((((padded n k).take ((padded n k).length-k)).getD 0 0).toNat=48))=false:=by
  by_cases h1:1<((padded n k).take ((padded n k).length-k)).length
  ·rw [la] at h1
   have h2:k+1<(padded n k).length:=by omega
   have h0:k+1-(txt n).length=0:=by
    unfold padded at h2
    rw [List.length_append,List.length_replicate] at h2;omega
   have e:padded n k=txt n:=by unfold padded;rw [h0];rfl
   have hn:n≠0:=by
    rintro rfl
    rw [e] at h2
    have:(txt 0).length=1:=rfl
    omega
   obtain ⟨b,s,ht,hb⟩:=Qkr hn
   rw [e,ht]
   have:(((b::s).take ((b::s).length-k)).getD 0 0).toNat=b.toNat:=by
    rw [e,ht] at h2
    have:(b::s).length-k=((b::s).length-k-1)+1:=by omega
    rw [this,List.take_succ_cons];rfl
   rw [this,Zf hb,Bool.and_false]
  ·rw [Zf h1,Bool.false_and]
 have hlen:(decTxt n k).length=(padded n k).length+1:=by
  unfold decTxt;rw [List.length_append,List.length_cons,la,lb'];omega
 have hneg:cutNeg (decTxt n k)=(decTxt n k,false):=by
  have hne:(padded n k).take ((padded n k).length-k)≠[]:=λh=>by rw [h] at la;simp at la;omega
  unfold decTxt
  cases hc:(padded n k).take ((padded n k).length-k) with
  |nil=>exact absurd hc hne
  |
   cons b t=>
   have hb:=hda b (by rw [hc];simp)
   unfold digit at hb
   unfold cutNeg
   simp only [List.cons_append]
   rw [if_neg (by rintro rfl;simp at hb)]
 have hpa:plainB ((padded n k).take ((padded n k).length-k))=true:=by
  unfold plainB;rw [Je.2 hda,Zf (λh=>by rw [h] at la;simp at la;omega)];rfl
 have hpb:plainB ((padded n k).drop ((padded n k).length-k))=true:=by
  unfold plainB;rw [Je.2 hdb,Zf (λh=>by rw [h] at lb';simp at lb';omega)];rfl
 unfold mDec
 rw [if_neg (by omega),hneg]
 have hcut:cutDot (decTxt n k)=((padded n k).take ((padded n k).length-k),some ((padded n k).drop ((padded n k).length-k))):=Ql1 _ hda
 rw [hcut]
 unfold Jk
 simp only [Option.isSome_some,Bool.true_and,Option.getD_some,hpa,hpb,hlead,Zn,Bool.or_false,Bool.false_and]
 rw [if_neg (by simp),if_neg (by simp),if_neg (by omega),hcat,Q2t,lb',if_neg (by simp)]
structure Good (t:Tm) (most:Int):Prop where
 money:∃n:Nat,t.p=txt n/\0<n/\n<=10^30
 rate:∃n k:Nat,t.r=decTxt n k/\n<100000/\2<=k/\k<=8
 kinds:kindsOK t
 date:right t.y t.m t.d
 year:t.y<=9000
 count:1<=t.count/\t.count<=most
theorem Good.moneyOK {t:Tm} {most:Int} (h:Good t most):(mMoney t.p).2=0/\(mMoney t.p).1≠0:=by
 obtain ⟨n,e,h1,h2⟩:=h.money
 rw [e,Jz h2]
 exact ⟨rfl,by show (n:Int)≠0;omega⟩
theorem Good.rateOK {t:Tm} {most:Int} (h:Good t most):(mRate t.r).2=0:=by
 obtain ⟨n,k,e,h1,h2,h3⟩:=h.rate
 have hl:(txt n).length<=5:=Y2 (Nat.lt_of_lt_of_le h1 (by decide)) (by decide)
 have hk:10^2<=10^k:=Nat.pow_le_pow_right (by decide) h2
 rw [e]
 unfold mRate
 rw [Qvx (by omega) (by omega)]
 rw [if_neg (by simp),if_neg (by simp only;omega)]
theorem Good.check {t:Tm} {most:Int} (h:Good t most) (hm:t.every*t.count<=11000) (hc:most<=1200):mCheck t=0:=by
 have g:=Q3 h.date
 have hb:=Qe5 h.kinds.2.2.2 (c:=t.count) ⟨h.count.1,by have:=h.count.2;omega⟩
 have hy:=h.year
 have hcc:=h.count
 unfold mCheck
 rw [if_neg (λhh=>hh h.moneyOK.1),if_neg h.moneyOK.2,if_neg (λhh=>hh h.rateOK),if_neg (λhh=>hh h.kinds),if_neg (by omega),if_pos ⟨h.date,by omega⟩]
abbrev D3:=Int×Int×Int
abbrev rightD (x:D3):Prop:=right x.1 x.2.1 x.2.2
abbrev numD (x:D3):Int:=num x.1 x.2.1 x.2.2
theorem Q1 {α:Type} (f:α->List V) {l:List α} {i:Nat} (h:i<l.length):(l.map f).getD i []=f l[i]:=by
 simp [List.getD,h]
abbrev cmpD (x y:D3):Int:=dcmp x.1 x.2.1 x.2.2 y.1 y.2.1 y.2.2
theorem Q9 {x y:D3} (hx:rightD x) (hy:rightD y):cmpD x y=cmpI (numD x) (numD y):=Qw3 hx hy
theorem Qfj {s:List Int} {i:Nat} {x:Int}:(s.set i x).drop (i+1)=s.drop (i+1):=by
 apply List.ext_getElem?
 intro j
 rw [List.getElem?_drop,List.getElem?_drop,List.getElem?_set_ne (by omega)]
set_option maxRecDepth 100000 in
theorem Qt4:∃tab:List UInt8,tab.length=256 /\
  (∀x j,z61.j8 x j=if (0:Int)<=wr .u8 x/\wr .u8 x<(tab.length:Int) then some (wr .i64 (j+wr .i64 ((tab.getD (wr .u8 x).toNat 0).toNat:Int))) else none) /\
  (∀x j,z61.j10 x j=if (0:Int)<=wr .u8 x/\wr .u8 x<(tab.length:Int) then some (wr .i64 (j+wr .i64 ((tab.getD (wr .u8 x).toNat 0).toNat:Int))) else none) /\
  ∀x:Fin 256,0<x.1->1<=(tab.getD x.1 0).toNat/\(tab.getD x.1 0).toNat<=8/\2^((tab.getD x.1 0).toNat-1)<=x.1/\x.1<2^(tab.getD x.1 0).toNat:=
 ⟨_,rfl,λx j=>rfl,λx j=>rfl,by decide⟩
theorem Qge {x:Nat} (h0:0<x) (h:x<256) {j:Nat} (hj:j<=1000):∃n,n<=7/\2^n<=x/\x<2^(n+1)/\z61.j8 x j=some ((j+n+1:Nat):Int)/\z61.j10 x j=some ((j+n+1:Nat):Int):=by
 obtain ⟨tab,hl,h1,h2,ht⟩:=Qt4
 obtain ⟨t1,t2,t3,t4⟩:=ht ⟨x,h⟩ h0
 simp only at t1 t2 t3 t4
 obtain ⟨n,hn⟩:∃n,(tab.getD x 0).toNat=n+1:=⟨_,(Nat.sub_add_cancel t1).symm⟩
 rw [hn] at t2 t3 t4
 have hw:wr .u8 (x:Int)=x:=Qgd (by omega) (by omega)
 refine ⟨n,by omega,by simpa using t3,t4,?_,?_⟩
 ·rw [h1,hw,if_pos (by omega),Zi,hn,Qc (n:=((n+1:Nat):Int)) (by omega) (by omega),Qc (by omega) (by omega)]
  congr 1
 ·rw [h2,hw,if_pos (by omega),Zi,hn,Qc (n:=((n+1:Nat):Int)) (by omega) (by omega),Qc (by omega) (by omega)]
  congr 1
theorem Qam (n k:Nat):Int.fdiv (n:Int) (2^k)=((n/2^k:Nat):Int):=by
 rw [Int.fdiv_eq_ediv_of_nonneg _ (by exact_mod_cast Nat.zero_le (2^k))]
 push_cast;rfl
theorem Qe0 {x n k:Nat} (h1:2^n<=x/2^k) (h2:x/2^k<2^(n+1)):2^(n+k)<=x/\x<2^(n+k+1):=by
 have hp:=Nat.pos_of_ne_zero (show 2^k≠0 by exact Nat.ne_of_gt (Nat.two_pow_pos k))
 have:=(Nat.le_div_iff_mul_le hp).1 h1
 have:=(Nat.div_lt_iff_lt_mul hp).1 h2
 rw [Nat.pow_add,show n+k+1=(n+1)+k by omega,Nat.pow_add]
 omega
set_option maxRecDepth 100000 in
theorem Qse {x:Nat} (h0:0<x) (h:x<4294967296) {j:Nat} (hj:j<=100):∃n,n<=31/\2^n<=x/\x<2^(n+1)/\z61.j2 x j=some ((j+n+1:Nat):Int):=by
 unfold z61.j2
 rw [show min 16 64=16 from rfl,show min 8 64=8 from rfl,Qam,Qam,Qam]
 by_cases h1:65536<=x
 ·rw [bif_t (by omega),Qc (n:=(j:Int)+16) (by omega) (by omega),Qc (n:=(j:Int)+16+8) (by omega) (by omega)]
  have b1:0<x/2^16/\x/2^16<65536:=by omega
  by_cases h2:256<=x/2^16
  ·rw [bif_t (by omega)]
   obtain ⟨n,n1,n2,n3,n4,_⟩:=Qge (x:=x/2^16/2^8) (by omega) (by omega) (j:=j+24) (by omega)
   obtain ⟨m2,m3⟩:=Qe0 n2 n3
   obtain ⟨m2,m3⟩:=Qe0 (n:=n+8) m2 m3
   refine ⟨n+8+16,by omega,m2,m3,?_⟩
   refine (congrArg (z61.j8 _) (show ((j:Int)+16+8)=((j+24:Nat):Int) by omega)).trans (n4.trans ?_)
   congr 2;omega
  ·rw [Qa (by omega)]
   obtain ⟨n,n1,n2,n3,n4,_⟩:=Qge (x:=x/2^16) (by omega) (by omega) (j:=j+16) (by omega)
   obtain ⟨m2,m3⟩:=Qe0 n2 n3
   refine ⟨n+16,by omega,m2,m3,?_⟩
   refine (congrArg (z61.j8 _) (show ((j:Int)+16)=((j+16:Nat):Int) by omega)).trans (n4.trans ?_)
   congr 2;omega
 ·rw [Qa (by omega)]
  by_cases h2:256<=x
  ·rw [bif_t (by omega),Qc (n:=(j:Int)+8) (by omega) (by omega)]
   obtain ⟨n,n1,n2,n3,_,n4⟩:=Qge (x:=x/2^8) (by omega) (by omega) (j:=j+8) (by omega)
   obtain ⟨m2,m3⟩:=Qe0 n2 n3
   refine ⟨n+8,by omega,m2,m3,?_⟩
   refine (congrArg (z61.j10 _) (show ((j:Int)+8)=((j+8:Nat):Int) by omega)).trans (n4.trans ?_)
   congr 2;omega
  ·rw [Qa (by omega)]
   obtain ⟨n,n1,n2,n3,_,n4⟩:=Qge (x:=x) (by omega) (by omega) (j:=j) (by omega)
   exact ⟨n,by omega,n2,n3,n4⟩
theorem bits_Len64 {x:Nat} (h0:0<x) (h:x<18446744073709551616):∃n,n<=63/\2^n<=x/\x<2^(n+1)/\z61.F x=some ((n+1:Nat):Int):=by
 unfold z61.F
 rw [show min 32 64=32 from rfl,Qam]
 by_cases h1:4294967296<=x
 ·rw [bif_t (by omega)]
  obtain ⟨n,n1,n2,n3,n4⟩:=Qse (x:=x/2^32) (by omega) (by omega) (j:=32) (by omega)
  obtain ⟨m2,m3⟩:=Qe0 n2 n3
  refine ⟨n+32,by omega,m2,m3,?_⟩
  refine n4.trans ?_
  congr 2;omega
 ·rw [Qa (by omega)]
  obtain ⟨n,n1,n2,n3,n4⟩:=Qse (x:=x) (by omega) (by omega) (j:=0) (by omega)
  refine ⟨n,by omega,n2,n3,?_⟩
  refine n4.trans ?_
  congr 2;omega
theorem Qpw {x:Nat} (h0:0<x) (h:x<18446744073709551616):∃s,s<=63/\9223372036854775808<=x*2^s/\x*2^s<18446744073709551616/\z62.F x=some ((s:Nat):Int):=by
 obtain ⟨n,n1,n2,n3,n4⟩:=bits_Len64 h0 h
 have e1:2^n*2^(63-n)=9223372036854775808:=by rw [<-Nat.pow_add,show n+(63-n)=63 by omega]
 have e2:2^(n+1)*2^(63-n)=18446744073709551616:=by rw [<-Nat.pow_add,show n+1+(63-n)=64 by omega]
 refine ⟨63-n,by omega,?_,?_,?_⟩
 ·rw [<-e1];exact Nat.mul_le_mul_right _ n2
 ·rw [<-e2];exact Nat.mul_lt_mul_of_pos_right n3 (Nat.two_pow_pos _)
 ·unfold z62.F
  rw [n4]
  simp only [Zb]
  rw [Qc (by omega) (by omega)]
  congr 1;omega
end Go.Proofs.YtgjncgiekniniaaGreatDoor.A
end
section
set_option linter.unusedSectionVars false
namespace Go.Proofs.YtgjncgiekniniaaGreatDoor.A
open Go
structure Qe6 (y1 y0 u u0:Nat) (q r:Nat):Prop where
 eq:q*y1+r=u
 ge:(u*4294967296+u0)/(y1*4294967296+y0)<=q
 le:q<=4294967297
 lt:r<4294967296
theorem Qf4 (B:Nat) {y1 y0 u q r:Nat} (he:q*y1+r=u):q*(y1*B+y0)+r*B=u*B+q*y0:=by
 rw [<-he,Nat.add_mul,Nat.mul_add,Nat.mul_assoc]
 omega
theorem Q1c {B A A2 u u0 r:Nat} (h:A+r*B=u*B+A2) (hc:r*B+u0<A2):u*B+u0<A:=by omega
section
variable {y1 y0 u u0:Nat} (h1:2147483648<=y1) (h1':y1<4294967296) (h0:y0<4294967296) (hu:u<y1*4294967296+y0) (hu0:u0<4294967296)
include h1 h1' h0 hu hu0
theorem Q12:Qe6 y1 y0 u u0 (u/y1) (u%y1):=by
 have hy:0<y1:=by omega
 refine ⟨by rw [Nat.mul_comm];exact Nat.div_add_mod u y1,?_,?_,?_⟩
 ·rw [Nat.le_div_iff_mul_le hy]
  have hd:=Nat.div_mul_le_self (u*4294967296+u0) (y1*4294967296+y0)
  generalize (u*4294967296+u0)/(y1*4294967296+y0)=Q at *
  rw [Nat.mul_add,<-Nat.mul_assoc] at hd
  generalize Q*y1=A at *
  generalize Q*y0=B at *
  omega
 ·have:u/y1<4294967298:=by
   rw [Nat.div_lt_iff_lt_mul hy];omega
  omega
 ·have:=Nat.mod_lt u hy;omega
theorem Qzm:(u*4294967296+u0)/(y1*4294967296+y0)<4294967296:=by
 rw [Nat.div_lt_iff_lt_mul (by omega)];omega
theorem Qy2 {q r:Nat} (h:Qe6 y1 y0 u u0 q r) (hc:4294967296<=q\/r*4294967296+u0<q*y0):(u*4294967296+u0)/(y1*4294967296+y0)<q:=by
 rcases hc with hc|hc
 ·exact Nat.lt_of_lt_of_le (Qzm h1 h1' h0 hu hu0) hc
 ·have:=Qf4 4294967296 (y0:=y0) h.eq
  have hlt:u*4294967296+u0<q*(y1*4294967296+y0):=Q1c this hc
  exact (Nat.div_lt_iff_lt_mul (show 0<y1*4294967296+y0 by omega)).2 hlt
theorem Qtg {q r:Nat} (he:q*y1+r=u) (ge:(u*4294967296+u0)/(y1*4294967296+y0)<=q) (hc:q*y0<=r*4294967296+u0):q=(u*4294967296+u0)/(y1*4294967296+y0):=by
 refine Nat.le_antisymm ?_ ge
 rw [Nat.le_div_iff_mul_le (by omega)]
 have:=Qf4 4294967296 (y0:=y0) he
 omega
theorem Qls {q r:Nat} (h:Qe6 y1 y0 u u0 q r) (hc:(u*4294967296+u0)/(y1*4294967296+y0)<q):(q-1)*y1+(r+y1)=u/\(u*4294967296+u0)/(y1*4294967296+y0)<=q-1:=by
 generalize (u*4294967296+u0)/(y1*4294967296+y0)=Q at hc ⊢
 obtain ⟨k,rfl⟩:∃k,q=k+1:=⟨q-1,by omega⟩
 have:=h.eq
 rw [Nat.add_mul] at this
 simp only [Nat.add_sub_cancel]
 omega
theorem Qx6 {q r:Nat} (h:Qe6 y1 y0 u u0 q r) (hc:(u*4294967296+u0)/(y1*4294967296+y0)<q) (hr:4294967296<=r+y1):q-1=(u*4294967296+u0)/(y1*4294967296+y0):=by
 obtain ⟨n1,n2⟩:=Qls h1 h1' h0 hu hu0 h hc
 refine Qtg h1 h1' h0 hu hu0 n1 n2 ?_
 have hq:=h.le
 have:(q-1)*y0<=4294967296*4294967295:=Nat.mul_le_mul (by omega) (by omega)
 omega
theorem Qqt {F:(Int×Int->Option (Int×Int))->Int×Int->Option (Int×Int)} (mk:Int->Int->Int×Int)
  (hF:∀(q r:Nat),q<=4294967297->r<4294967296->∀rec,F rec (mk q r) =
   if 4294967296<=q\/r*4294967296+u0<q*y0 then (if 4294967296<=r+y1 then some (mk ((q-1:Nat):Int) ((r+y1:Nat):Int)) else rec (mk ((q-1:Nat):Int) ((r+y1:Nat):Int))) else some (mk q r)) :
  ∃r:Nat,lfp F (mk ((u/y1:Nat):Int) ((u%y1:Nat):Int))=some (mk (((u*4294967296+u0)/(y1*4294967296+y0):Nat):Int) r):=by
 have key:∀(f q r:Nat),q<f->Qe6 y1 y0 u u0 q r->∃r':Nat,Runs F (mk q r) (mk (((u*4294967296+u0)/(y1*4294967296+y0):Nat):Int) r'):=by
  intro f
  induction f with
  |zero=>intro q r h;omega
  |
   succ f ih=>
   intro q r hq h
   by_cases hc:4294967296<=q\/r*4294967296+u0<q*y0
   ·have hlt:=Qy2 h1 h1' h0 hu hu0 h hc
    by_cases hr:4294967296<=r+y1
    ·refine ⟨r+y1,.done λrec=>?_⟩
     rw [hF q r h.le h.lt,if_pos hc,if_pos hr,Qx6 h1 h1' h0 hu hu0 h hlt hr]
    ·obtain ⟨n1,n2⟩:=Qls h1 h1' h0 hu hu0 h hlt
     have hle:=h.le
     have hq1:0<q:=Nat.lt_of_le_of_lt (Nat.zero_le _) hlt
     obtain ⟨r',hr'⟩:=ih (q-1) (r+y1) (by omega) ⟨n1,n2,by omega,by omega⟩
     exact ⟨r',.step (λrec=>by rw [hF q r h.le h.lt,if_pos hc,if_neg hr]) hr'⟩
   ·refine ⟨r,.done λrec=>?_⟩
    rw [hF q r h.le h.lt,if_neg hc,<-Qtg h1 h1' h0 hu hu0 h.eq h.ge (by omega)]
 obtain ⟨r',hr'⟩:=key (u/y1+1) _ _ (by omega) (Q12 h1 h1' h0 hu hu0)
 exact ⟨r',hr'.lfp⟩
theorem Qql {q r:Nat} (hq:q<=4294967297) (hr:r<4294967296) (h:¬4294967296<=q):(wr .u64 ((q:Int)*y0)>wr .u64 (wr .u64 ((4294967296:Int)*r)+u0))↔r*4294967296+u0<q*y0:=by
 have hm:q*y0<=4294967295*4294967295:=Nat.mul_le_mul (by omega) (by omega)
 rw [<-Int.natCast_mul q y0,Qq (n:=((q*y0:Nat):Int)) (by omega) (by omega),Qq (n:=(4294967296:Int)*r) (by omega) (by omega),Qq (by omega) (by omega)]
 omega
theorem Qt7:∃r:Nat,z63.l0b8 y1 y0 u0 (((u/y1:Nat):Int),((u%y1:Nat):Int))=some ((((u*4294967296+u0)/(y1*4294967296+y0):Nat):Int),(r:Int)):=by
 refine Qqt h1 h1' h0 hu hu0 (λq r=>(q,r)) (F:=λrec x=>z63.l0b8P y1 y0 u0 rec some x) λq r hq hr rec=>?_
 simp only [z63.l0b8P]
 rw [Qq (n:=(r:Int)+y1) (by omega) (by omega)]
 by_cases hq2:4294967296<=q
 ·rw [bif_t (by omega),if_pos (.inl hq2),Qq (n:=(q:Int)-1) (by omega) (by omega)]
  by_cases hr2:4294967296<=r+y1
  ·rw [bif_t (by omega),if_pos hr2];congr 2<;>omega
  ·rw [Qa (by omega),if_neg hr2];congr 2<;>omega
 ·rw [Qa (by omega)]
  have ht:=Qql h1 h1' h0 hu hu0 hq hr hq2
  by_cases hc:r*4294967296+u0<q*y0
  ·have hq0:0<q:=Nat.pos_of_ne_zero λh=>by subst h;omega
   rw [bif_t (ht.2 hc),if_pos (.inr hc),Qq (n:=(q:Int)-1) (by omega) (by omega)]
   by_cases hr2:4294967296<=r+y1
   ·rw [bif_t (by omega),if_pos hr2];congr 2<;>omega
   ·rw [Qa (by omega),if_neg hr2];congr 2<;>omega
  ·rw [Qa (λh=>hc (ht.1 h)),if_neg (by omega)]
theorem Q1r:∃r:Nat,z63.l2b8 y1 y0 u0 (((u%y1:Nat):Int),((u/y1:Nat):Int))=some ((r:Int),(((u*4294967296+u0)/(y1*4294967296+y0):Nat):Int)):=by
 refine Qqt h1 h1' h0 hu hu0 (λq r=>(r,q)) (F:=λrec x=>z63.l2b8P y1 y0 u0 rec some x) λq r hq hr rec=>?_
 simp only [z63.l2b8P]
 rw [Qq (n:=(r:Int)+y1) (by omega) (by omega)]
 by_cases hq2:4294967296<=q
 ·rw [bif_t (by omega),if_pos (.inl hq2),Qq (n:=(q:Int)-1) (by omega) (by omega)]
  by_cases hr2:4294967296<=r+y1
  ·rw [bif_t (by omega),if_pos hr2];congr 2<;>omega
  ·rw [Qa (by omega),if_neg hr2];congr 2<;>omega
 ·rw [Qa (by omega)]
  have ht:=Qql h1 h1' h0 hu hu0 hq hr hq2
  by_cases hc:r*4294967296+u0<q*y0
  ·have hq0:0<q:=Nat.pos_of_ne_zero λh=>by subst h;omega
   rw [bif_t (ht.2 hc),if_pos (.inr hc),Qq (n:=(q:Int)-1) (by omega) (by omega)]
   by_cases hr2:4294967296<=r+y1
   ·rw [bif_t (by omega),if_pos hr2];congr 2<;>omega
   ·rw [Qa (by omega),if_neg hr2];congr 2<;>omega
  ·rw [Qa (λh=>hc (ht.1 h)),if_neg (by omega)]
end
end Go.Proofs.YtgjncgiekniniaaGreatDoor.A
end
section
namespace Go.Proofs.YtgjncgiekniniaaGreatDoor.A
open Go
theorem Qdq {n:Nat} (h:n<18446744073709551616):(BitVec.ofInt (IntKind.bits .u64) (n:Int)).toNat=n:=by
 show (BitVec.ofInt 64 (n:Int)).toNat=n
 rw [BitVec.toNat_ofInt]
 omega
theorem Qs8 {n:Nat} (h:n<18446744073709551616):wr .u64 ((BitVec.ofInt (IntKind.bits .u64) (n:Int) &&& BitVec.ofInt (IntKind.bits .u64) (4294967295:Int)).toNat:Int)=((n%4294967296:Nat):Int):=by
 rw [BitVec.toNat_and,Qdq h,show (4294967295:Int)=((4294967295:Nat):Int) from rfl,Qdq (by omega),show 4294967295=2^32-1 from rfl,Nat.and_two_pow_sub_one_eq_mod,Qq (by omega) (by omega)]
theorem Ql5 {a b s:Nat} (hb:b<2^s) (h:a*2^s+b<18446744073709551616):wr .u64 ((BitVec.ofInt (IntKind.bits .u64) ((a*2^s:Nat):Int) ||| BitVec.ofInt (IntKind.bits .u64) (b:Int)).toNat:Int)=((a*2^s+b:Nat):Int):=by
 rw [BitVec.toNat_or,Qdq (by omega),Qdq (by omega),Nat.mul_comm,<-Nat.two_pow_add_eq_or_of_lt hb,Qq (by omega) (by rw [Nat.mul_comm] at h;omega)]
theorem Qt5 {B V Y U u1 u0:Nat} (hV:V=(U*B+u1)*B+u0) (hY:0<Y) (h0:u0<B) :
  V/Y=(U*B+u1)/Y*B+((U*B+u1)%Y*B+u0)/Y/\V%Y=((U*B+u1)%Y*B+u0)%Y:=by
 have h1:=Nat.div_add_mod (U*B+u1) Y
 generalize hA:U*B+u1=A at *
 generalize A/Y=q at *
 generalize A%Y=r at *
 have e:V=(r*B+u0)+Y*(q*B):=by
  rw [hV,<-h1,Nat.add_mul,Nat.mul_assoc];omega
 rw [e,Nat.add_mul_div_left _ _ hY,Nat.add_mul_mod_self_left]
 exact ⟨by omega,rfl⟩
theorem Q1d {B V Y U u1 u0:Nat} (hV:V=(U*B+u1)*B+u0) (hY:0<Y) (h0:u0<B) (hU:U<Y) (h1:u1<B) :
  ∃q1 U2 q0 U3,(U*B+u1)/Y=q1/\(U2*B+u0)/Y=q0/\Y*q1+U2=U*B+u1/\U2<Y/\Y*q0+U3=U2*B+u0/\U3<Y/\q1<B/\q0<B/\V/Y=q1*B+q0/\V%Y=U3:=by
 obtain ⟨a,b⟩:=Qt5 hV hY h0
 have l:∀{u v:Nat},u<Y->v<B->(u*B+v)/Y<B:=λ{u v} hu hv=>by
  rw [Nat.div_lt_iff_lt_mul hY]
  have:=Nat.mul_le_mul_right B (show u+1<=Y from hu)
  rw [Nat.add_mul,Nat.one_mul] at this
  rw [Nat.mul_comm B Y];omega
 have hr:=Nat.mod_lt (U*B+u1) hY
 exact ⟨_,_,_,_,rfl,rfl,Nat.div_add_mod _ _,hr,Nat.div_add_mod _ _,Nat.mod_lt _ hY,l hU h1,l hr h0,a,b⟩
theorem Qsl {hi lo s:Nat} (hs:s<=64):(hi*18446744073709551616+lo)*2^s=(hi*2^s+lo/2^(64-s))*18446744073709551616+lo*2^s%18446744073709551616:=by
 have e:18446744073709551616=2^(64-s)*2^s:=by rw [<-Nat.pow_add,show 64-s+s=64 by omega]
 have h:lo/2^(64-s)=lo*2^s/18446744073709551616:=by
  rw [e,Nat.mul_div_mul_right _ _ (Nat.two_pow_pos s)]
 rw [h,Nat.add_mul,Nat.add_mul,Nat.mul_right_comm,Nat.add_assoc]
 have:=Nat.div_add_mod (lo*2^s) 18446744073709551616
 omega
theorem bits_Div64 {hi lo y:Nat} (h:hi<y) (hlo:lo<18446744073709551616) (hy:y<18446744073709551616) :
  z63.F hi lo y=some ((((hi*18446744073709551616+lo)/y:Nat):Int),(((hi*18446744073709551616+lo)%y:Nat):Int)):=by
 rcases Nat.eq_zero_or_pos hi with h0|h0
 ·subst h0
  have:=Qp6 (a:=(lo:Int)) (b:=(y:Int)) (by omega) (by omega)
  rw [show ((0:Nat):Int)=0 from rfl,this,Nat.zero_mul,Nat.zero_add]
  rfl
 obtain ⟨s,hs,s1,s2,hlead⟩:=Qpw (x:=y) (by omega) hy
 unfold z63.F
 rw [Qa (by omega),Qa (by omega),Qa (by omega),hlead]
 simp only [Zb]
 have hp:=Nat.two_pow_pos s
 have hV:=Qsl (hi:=hi) (lo:=lo) (s:=s) (by omega)
 have hlt:(hi*18446744073709551616+lo)*2^s<y*2^s*18446744073709551616:=by
  rw [Nat.mul_right_comm];exact Nat.mul_lt_mul_of_pos_right (by omega) hp
 have hb:lo/2^(64-s)<2^s:=by
  rw [Nat.div_lt_iff_lt_mul (Nat.two_pow_pos _),<-Nat.pow_add,show s+(64-s)=64 by omega];exact hlo
 have hqy:=Nat.mul_div_mul_right (hi*18446744073709551616+lo) y hp
 have hmy:=Nat.mul_mod_mul_right (2^s) (hi*18446744073709551616+lo) y
 have e1:wr .u64 (s:Int)=s:=Qq (by omega) (by omega)
 have e4:wr .u64 ((64:Int)-s)=((64-s:Nat):Int):=by rw [Qq (by omega) (by omega)];omega
 have e5:min (64-s) 64=64-s:=by omega
 have e3:min s 64=s:=by omega
 have eY:wr .u64 ((y:Int)*2^s)=((y*2^s:Nat):Int):=by
  rw [show (y:Int)*2^s=((y*2^s:Nat):Int) by push_cast;rfl,Qq (by omega) (by omega)]
 have eL:wr .u64 ((lo:Int)*2^s)=((lo*2^s%18446744073709551616:Nat):Int):=by
  rw [show (lo:Int)*2^s=((lo*2^s:Nat):Int) by push_cast;rfl,W1];rfl
 have hUY:hi*2^s+lo/2^(64-s)<y*2^s:=by
  have:(hi*2^s+lo/2^(64-s))*18446744073709551616<y*2^s*18446744073709551616:=by omega
  exact Nat.lt_of_mul_lt_mul_right this
 have hHi:=Nat.lt_of_le_of_lt (Nat.le_add_right (hi*2^s) (lo/2^(64-s))) (Nat.lt_trans hUY s2)
 have eH:wr .u64 ((hi:Int)*2^s)=((hi*2^s:Nat):Int):=by
  rw [show (hi:Int)*2^s=((hi*2^s:Nat):Int) by push_cast;rfl,Qq (by omega) (by omega)]
 have eO:=Ql5 (a:=hi) (s:=s) hb (by omega)
 simp only [e1,e4,Zi,e3,e5,eY,eL,eH,Qam,eO,show min 32 64=32 from rfl]
 generalize hU:hi*2^s+lo/2^(64-s)=U at *
 generalize hYe:y*2^s=Y at *
 generalize hLe:lo*2^s%18446744073709551616=L at *
 have hL:L<18446744073709551616:=by rw [<-hLe];exact Nat.mod_lt _ (by omega)
 have aY:=Qs8 s2;have aL:=Qs8 hL
 simp only [aY,aL,show (2:Nat)^32=4294967296 from rfl]
 rw [if_pos (by omega),if_pos (by omega),if_pos (by omega),if_pos (by omega)]
 generalize hy1:Y/4294967296=y1 at *
 generalize hy0:Y%4294967296=y0 at *
 generalize hu1:L/4294967296=u1 at *
 generalize hu0:L%4294967296=u0 at *
 have hYd:Y=y1*4294967296+y0:=by omega
 have hLd:L=u1*4294967296+u0:=by omega
 have b1:2147483648<=y1/\y1<4294967296:=by omega
 have b0:y0<4294967296:=by omega
 have b2:u1<4294967296:=by omega
 have b3:u0<4294967296:=by omega
 rw [if_neg (by omega)]
 have hYp:0<Y:=by omega
 obtain ⟨q1,U2,q0,U3,dq1,dq0,m1,m2,m3,m4,hq1,hq0,V1,V2⟩:=Q1d (B:=4294967296) (V:=U*18446744073709551616+L) (Y:=Y) (U:=U) (u1:=u1) (u0:=u0) (by omega) hYp b3 hUY b2
 have first:∀{u:Nat},u<18446744073709551616->wr .u64 (Int.tdiv (u:Int) (y1:Int))=((u/y1:Nat):Int)/\wr .u64 ((u:Int)-wr .u64 (wr .u64 (Int.tdiv (u:Int) (y1:Int))*(y1:Int)))=((u%y1:Nat):Int):=λ{u} hu=>by
  have h1:=Nat.div_le_self u y1
  have h2:=Nat.div_add_mod u y1
  have h3:Int.tdiv (u:Int) (y1:Int)=((u/y1:Nat):Int):=by rw [Yd (by omega)];rfl
  rw [h3]
  generalize u/y1=q at *
  generalize u%y1=r at *
  rw [Qq (n:=(q:Int)) (by omega) (by omega)]
  refine ⟨rfl,?_⟩
  rw [Nat.mul_comm] at h2
  rw [show (q:Int)*(y1:Int)=((q*y1:Nat):Int) from rfl]
  generalize q*y1=P at *
  rw [Qq (n:=(P:Int)) (by omega) (by omega),Qq (by omega) (by omega)]
  omega
 obtain ⟨f1,f2⟩:=first (u:=U) (by omega)
 simp only [f2]
 rw [f1]
 obtain ⟨r1,d1⟩:=Qt7 (y1:=y1) (y0:=y0) (u:=U) (u0:=u1) b1.1 b1.2 b0 (by omega) b2
 rw [d1,<-hYd,dq1]
 simp only [Zb]
 rw [if_neg (by omega)]
 have eU2:wr .u64 (wr .u64 (wr .u64 ((U:Int)*4294967296)+(u1:Int))-wr .u64 ((q1:Int)*(Y:Int)))=(U2:Int):=by
  rw [show (q1:Int)*(Y:Int)=((Y*q1:Nat):Int) by push_cast;exact Int.mul_comm _ _,W1,W1,W1,W1]
  generalize Y*q1=P at m1 ⊢
  clear d1 V1 V2 m3 m4 dq1 dq0 hV hlt hqy hmy
  omega
 simp only [eU2]
 obtain ⟨g1,g2⟩:=first (u:=U2) (by omega)
 simp only [g2]
 rw [g1]
 obtain ⟨r2,d2⟩:=Q1r (y1:=y1) (y0:=y0) (u:=U2) (u0:=u0) b1.1 b1.2 b0 (by omega) b3
 rw [d2,<-hYd,dq0]
 simp only [Zb]
 rw [if_pos (by omega)]
 have eU3:wr .u64 (wr .u64 (wr .u64 ((U2:Int)*4294967296)+(u0:Int))-wr .u64 ((q0:Int)*(Y:Int)))=(U3:Int):=by
  rw [show (q0:Int)*(Y:Int)=((Y*q0:Nat):Int) by push_cast;exact Int.mul_comm _ _,W1,W1,W1,W1]
  generalize Y*q0=P at m3 ⊢
  clear d1 d2 V1 V2 m1 dq1 dq0 hV hlt hqy hmy
  omega
 rw [eU3,Qam,Qq (n:=(q1:Int)*4294967296) (by omega) (by omega),Qq (by omega) (by omega)]
 rw [hV,V1] at hqy
 rw [hV,V2] at hmy
 rw [<-hqy,hmy,Nat.mul_div_cancel _ hp]
 rfl
theorem Qo8 {a:List Int} {b N:Nat} (ha:inB LB a) (hb:0<b) (hb':b<18446744073709551616) (hl:a.length<=800000000) (hN:(N:Int)=valB LB a) :
  ∀
   (k:Nat),k<=a.length->∀(m:Nat) (q:List Int),(m:Int)=valB LB (a.drop k)->q.length=a.length->inB LB q->valB LB (q.drop k)=((m/b:Nat):Int) ->
   ∃q',Runs (λrec x=>z64.l0P a b rec some x) (((m%b:Nat):Int),(k:Int)-1,q) (((N%b:Nat):Int),(-1:Int),q')/\q'.length=a.length/\inB LB q'/\valB LB q'=((N/b:Nat):Int)
 |
  0,hk,m,q,hm,hq,hi,hv=>by
  have:m=N:=by rw [List.drop_zero] at hm;omega
  subst this
  refine ⟨q,.done λrec=>?_,hq,hi,by rwa [List.drop_zero] at hv⟩
  unfold z64.l0P
  simp only
  rw [Qa (by omega)];rfl
 |
  k+1,hk,m,q,hm,hq,hi,hv=>by
  have hka:k<a.length:=by omega
  have hkq:k<q.length:=by omega
  have hd:=Q2 (B:=LB) (by decide) ha k
  obtain ⟨d,hd'⟩:∃d:Nat,a.getD k 0=(d:Int):=⟨(a.getD k 0).toNat,by omega⟩
  have hd2:d<18446744073709551616:=by rw [hd'] at hd;exact_mod_cast hd.2
  obtain ⟨r,hr⟩:∃r,m%b=r:=⟨_,rfl⟩
  have hrb:r<b:=hr▸Nat.mod_lt m hb
  obtain ⟨x,hx⟩:∃x,r*18446744073709551616+d=x:=⟨_,rfl⟩
  have hxb:x<b*18446744073709551616:=by omega
  obtain ⟨z,hz⟩:∃z,x/b=z:=⟨_,rfl⟩
  obtain ⟨w,hw⟩:∃w,x%b=w:=⟨_,rfl⟩
  obtain ⟨y,hy⟩:∃y,m/b=y:=⟨_,rfl⟩
  have hq1:z<18446744073709551616:=hz▸Nat.div_lt_of_lt_mul hxb
  have hmm:b*y+r=m:=by rw [<-hy,<-hr];exact Nat.div_add_mod m b
  have hm':((d+LB*m:Nat):Int)=valB LB (a.drop k):=by rw [Wb,hd',<-hm,Int.natCast_add,Int.natCast_mul]
  have e:d+LB*m=x+b*(LB*y):=by
   have h4:b*(LB*y)=LB*(b*y):=by rw [<-Nat.mul_assoc,Nat.mul_comm b LB,Nat.mul_assoc]
   have h5:LB*m=LB*(b*y)+LB*r:=by rw [<-hmm,Nat.mul_add]
   rw [h4,h5,<-hx,Nat.mul_comm r];show _=18446744073709551616*r+d+LB*(b*y)
   have:LB*r=18446744073709551616*r:=rfl
   omega
  have hdiv:(d+LB*m)/b=z+LB*y:=by rw [e,Nat.add_mul_div_left _ _ hb,hz]
  have hmod:(d+LB*m)%b=w:=by rw [e,Nat.add_mul_mod_self_left,hw]
  have hvq:valB LB ((q.set k (z:Int)).drop k)=(((d+LB*m)/b:Nat):Int):=by
   rw [Wb,Qfj,hv,hdiv,hy]
   have:(q.set k (z:Int)).getD k 0=(z:Int):=by simp [List.getD,hkq]
   rw [this,Int.natCast_add,Int.natCast_mul]
  obtain ⟨q',r1,r2,r3,r4⟩:=Qo8 ha hb hb' hl hN k (by omega) (d+LB*m) (q.set k (z:Int)) hm' (by simp [hq]) (Yc hi (by show (0:Int)<=(z:Int)/\(z:Int)<((18446744073709551616:Nat):Int);omega)) hvq
  rw [hmod] at r1
  refine ⟨q',.step (λrec=>?_) r1,r2,r3,r4⟩
  have ek:((k+1:Nat):Int)-1=(k:Int):=by omega
  unfold z64.l0P
  simp only
  rw [ek,bif_t (by omega),if_pos (by omega),Zi,hd',hr,bits_Div64 hrb hd2 hb',hx,hz,hw]
  simp only [Zb]
  rw [if_pos (by omega),if_pos hkq,Qc (by omega) (by omega)]
theorem quot_by {a b:Nat} (hb:0<b) (hb':b<18446744073709551616) (ha:(lb a).length<=800000000):∃q,z64.F (lb a) (b:Int)=some (q,((a%b:Nat):Int))/\q.length=(lb a).length/\inB LB q/\valB LB q=((a/b:Nat):Int):=by
 obtain ⟨q',r1,r2,r3,r4⟩:=Qo8 (a:=lb a) (b:=b) (N:=a) (Qx bL a) hb hb' ha (by rw [Q8 bL]) (lb a).length (Nat.le_refl _) 0 (List.replicate (lb a).length 0) (by rw [List.drop_length];rfl) (by simp) (Qa4 (by decide) _) (by rw [List.drop_eq_nil_of_le (by simp)];simp [valB])
 rw [Nat.zero_mod] at r1
 have e:z64.l0 (lb a) (b:Int) ((0:Int),((lb a).length:Int)-1,List.replicate (lb a).length 0)=some (((a%b:Nat):Int),(-1:Int),q'):=r1.lfp
 refine ⟨q',?_,r2,r3,r4⟩
 unfold z64.F
 rw [if_pos (by omega),Zi,Qc (by omega) (by omega),e]
 rfl
theorem Qng {a b:Nat} (hb:0<b) (hb':b<18446744073709551616) (ha:(lb a).length<=800000000):Ym a b:=by
 rcases Nat.lt_or_ge a b with h|h
 ·exact Qiz h (by omega)
 ·have hl:(lb b).length<=1:=Yj bL (by simpa using hb')
  obtain ⟨q,q1,q2,q3,q4⟩:=quot_by hb hb' ha
  unfold Ym z68.F
  rw [Wy]
  simp only [Zb]
  rw [Qa (by omega),Qcb (by omega)]
  simp only [Zb]
  have:¬cmpI (a:Int) b<0:=by unfold cmpI;rw [if_neg (by omega)];split<;>omega
  rw [Qa this,J1 (by show List.length _<=_;omega),J1 (by show List.length _<=_;omega)]
  simp only [Zb]
  rw [Qgl hb hb',List.length_singleton,bif_t (by omega),if_pos (by omega),show [(b:Int)].getD 0 0=b from rfl,q1]
  simp only [Zb]
  rw [Qdl q3 (by show List.length _<=_;omega),q4]
  simp only [Zb]
  have hm:=Nat.mod_lt a hb
  rw [Yh (by omega)]
  rfl
inductive Rem (len:Nat):Nat->Nat->List Int->Prop
 |stop (j:Nat) (h:len<=j):Rem len 0 j []
 |step (n j:Nat) (ds:List Int) (h:0<n\/j<len) (hr:Rem len (n/10) (j+1) ds):Rem len n j (((n%10:Nat):Int)::ds)
def asc (d:Int):Int:=48+d
theorem Q2k {s:List Int} {i:Nat} {x:Int} (h:i<s.length):(s.set i x).drop i=x::s.drop (i+1):=by
 rw [List.drop_eq_getElem_cons (by simpa using h),Qfj]
 simp
theorem Q3l {len:Nat} (hlen:len<=20) {n j:Nat} {ds:List Int} (h:Rem len n j ds):n<18446744073709551616->j+ds.length<=20->∀s:List Int,s.length=20 ->
  ∃s',Runs (λrec x=>z133.l0b4P (len:Int) rec some x) ((n:Int),((20-j:Nat):Int),s) ((0:Int),((20-j-ds.length:Nat):Int),s')/\s'.length=20/\s'.drop (20-j-ds.length)=ds.reverse.map asc++s.drop (20-j):=by
 induction h with
 |
  stop j h=>
  intro _ hj s hs
  simp only [List.length_nil,Nat.add_zero] at hj
  refine ⟨s,.done λrec=>?_,hs,by simp⟩
  unfold z133.l0b4P
  simp only [List.length_nil,Nat.sub_zero]
  rw [Qa (by omega),Qc (by omega) (by omega),Qa (by omega)]
  rfl
 |
  step n j ds h hr ih=>
  intro hn hj s hs
  simp only [List.length_cons] at hj
  have hi:20-(j+1)<s.length:=by omega
  obtain ⟨s',r1,r2,r3⟩:=ih (by omega) (by omega) (s.set (20-(j+1)) (asc ((n%10:Nat):Int))) (by simpa using hs)
  refine ⟨s',?_,r2,?_⟩
  ·rw [List.length_cons,show 20-j-(ds.length+1)=20-(j+1)-ds.length by omega]
   refine .step (λrec=>?_) r1
   have e1:wr .i64 (((20-j:Nat):Int)-1)=((20-(j+1):Nat):Int):=by rw [Qc (by omega) (by omega)];omega
   have e2:wr .u64 (Int.tdiv (n:Int) 10)=((n/10:Nat):Int):=by rw [Yd (by omega),Qq (by omega) (by omega)];rfl
   have e3:wr .u8 (wr .u64 (48+Int.tmod (n:Int) 10))=asc ((n%10:Nat):Int):=by
    rw [Yk (by omega),Qq (by omega) (by omega),Qgd (by omega) (by omega)];rfl
   unfold z133.l0b4P
   simp only [e1,e2,e3]
   rcases Nat.eq_zero_or_pos n with h0|h0
   ·have hjl:j<len:=h.resolve_left (by omega)
    rw [Qa (by omega),Qc (by omega) (by omega),bif_t (by omega),if_pos (by omega),Zi,if_pos hi]
   ·rw [bif_t (by omega),if_pos (by omega),Zi,if_pos hi]
  ·rw [List.length_cons,show 20-j-(ds.length+1)=20-(j+1)-ds.length by omega,r3,Q2k hi,show 20-(j+1)+1=20-j by omega]
   simp
theorem Q0b {ds:List Int} (h:inB 10 ds):(ds.map asc).map (λn=>UInt8.ofNat n.toNat)=ds.map ch:=by
 rw [List.map_map]
 refine List.map_congr_left λd hd=>?_
 have:=h d hd
 show UInt8.ofNat (48+d).toNat=UInt8.ofNat (48+d.toNat)
 rw [show (48+d).toNat=48+d.toNat by omega]
theorem Rem.inB {len n j:Nat} {ds:List Int} (h:Rem len n j ds):inB 10 ds:=by
 induction h with
 |stop=>exact inB_nil _
 |step n j ds h hr ih=>exact Wt.2 ⟨by omega,ih⟩
theorem Q33 {B:Nat} {l:List Int} (h:inB B l):inB B l.reverse:=λx hx=>h x (by simpa using hx)
theorem Qx7 {len n:Nat} {ds:List Int} (hlen:len<=20) (hn:n<18446744073709551616) (h:Rem len n 0 ds) (hd:ds.length<=20):z133.F (n:Int) (len:Int)=some (ds.reverse.map ch):=by
 obtain ⟨s',r1,r2,r3⟩:=Q3l hlen h hn (by omega) (List.replicate 20 0) (by simp)
 have e:z133.l0b4 (len:Int) ((n:Int),(20:Int),List.replicate 20 (0:Int))=some ((0:Int),((20-0-ds.length:Nat):Int),s'):=r1.lfp
 unfold z133.F
 rw [e]
 simp only [Zb]
 have hl:(s'.drop (20-0-ds.length)).length=ds.length:=by rw [List.length_drop];omega
 rw [if_pos r2,if_pos (by omega),Zi,List.take_of_length_le (by rw [hl];omega),r3]
 simp only [Nat.sub_zero,List.drop_replicate,Nat.sub_self,List.replicate_zero,List.append_nil]
 rw [Q0b (Q33 h.inB)]
def lsd:Nat->Nat->List Int
 |0,_=>[]
 |k+1,n=>((n%10:Nat):Int)::lsd k (n/10)
theorem Qf9:∀(k n:Nat),(lsd k n).length=k
 |0,_=>rfl
 |k+1,n=>by simp [lsd,Qf9 k]
theorem Qqh {len:Nat}:∀(k n j:Nat),j+k=len->n<10^k->Rem len n j (lsd k n)
 |
  0,n,j,hj,hn=>by
  have:n=0:=by simpa using hn
  subst this;exact .stop j (by omega)
 |k+1,n,j,hj,hn=>.step n j _ (.inr (by omega)) (Qqh k (n/10) (j+1) (by omega) (by rw [Nat.pow_succ] at hn;omega))
theorem Qus {len:Nat} (n:Nat):∀j,(len<=j\/0<n/\len<=j+1)->Rem len n j (toB 10 n):=by
 induction n using Nat.strongRecOn with
 |
  _ n ih=>
  intro j hj
  rcases Nat.eq_zero_or_pos n with h0|h0
  ·subst h0;rw [toB_zero];exact .stop j (by omega)
  ·rw [Wg b10 h0]
   exact .step n j _ (.inl h0) (ih _ (Nat.div_lt_self h0 (by decide)) (j+1) (.inl (by omega)))
theorem Qil:∀(k low q:Nat),0<q->low<10^k->toB 10 (low+10^k*q)=lsd k low++toB 10 q
 |
  0,low,q,hq,hl=>by
  have:low=0:=by simpa using hl
  subst this;simp [lsd]
 |
  k+1,low,q,hq,hl=>by
  have hp:0<10^k:=Nat.pow_pos (by decide)
  have hpq:0<10^k*q:=Nat.mul_pos hp hq
  have e:low+10^(k+1)*q=low+10*(10^k*q):=by rw [Nat.pow_succ,Nat.mul_comm (10^k),Nat.mul_assoc]
  rw [e,Wg b10 (by omega),lsd]
  rw [Nat.add_mul_mod_self_left,Nat.add_mul_div_left _ _ (by decide),Qil k (low/10) q hq (by rw [Nat.pow_succ] at hl;omega)]
  rfl
inductive Groups:Nat->List (List UInt8)->Prop
 |zero:Groups 0 []
 |last (n:Nat) (h0:0<n) (h:n<10^18):Groups n [(toB 10 n).reverse.map ch]
 |more (low q:Nat) (gs:List (List UInt8)) (hl:low<10^18) (h0:0<q) (hg:Groups q gs):Groups (low+10^18*q) (((lsd 18 low).reverse.map ch)::gs)
theorem Groups.text {n:Nat} {gs:List (List UInt8)} (h:Groups n gs):gs.reverse.flatten=(toB 10 n).reverse.map ch:=by
 induction h with
 |zero=>rw [toB_zero];rfl
 |last n h0 h=>simp
 |
  more low q gs hl h0 hg ih=>
  rw [List.reverse_cons,List.flatten_append,ih,Qil 18 low q h0 hl,List.reverse_append,List.map_append]
  simp
theorem Groups.pos {n:Nat} {gs:List (List UInt8)} (h:Groups n gs):∀g∈gs,1<=g.length:=by
 induction h with
 |zero=>intro g hg;simp at hg
 |
  last n h0 h=>
  intro g hg
  simp only [List.mem_singleton] at hg;subst hg
  rw [Wg b10 h0];simp
 |
  more low q gs hl h0 hg ih=>
  intro g hg
  rcases List.mem_cons.1 hg with rfl|hg
  ·simp [Qf9]
  ·exact ih g hg
theorem Qru:∀{gs:List (List UInt8)},(∀g∈gs,1<=g.length)->gs.length<=gs.flatten.length
 |[],_=>by simp
 |
  g::gs,h=>by
  have:=h g (by simp)
  have:=Qru λg' h'=>h g' (List.mem_cons_of_mem _ h')
  simp only [List.length_cons,List.flatten_cons,List.length_append];omega
theorem Groups.len {n:Nat} {gs:List (List UInt8)} (h:Groups n gs):gs.length<=sz n/\gs.flatten.length=sz n:=by
 have ht:=congrArg List.length h.text
 have e:gs.reverse.flatten.length=gs.flatten.length:=by
  simp only [List.length_flatten,List.map_reverse,List.sum_reverse]
 rw [e] at ht
 have ht:gs.flatten.length=sz n:=by rw [ht];unfold sz;simp
 exact ⟨by rw [<-ht];exact Qru h.pos,ht⟩
theorem Qz7 (l:List Int) (hl:l.length<=1):z134.l2 l (((l.length:Nat):Int)) ((0:Int),(0:Int))=some (l.getD 0 0,(l.length:Int)):=by
 match l,hl with
 |
  [],_=>
  refine (Runs.done λrec=>?_:Runs (λrec x=>z134.l2P [] _ rec some x) _ _).lfp
  unfold z134.l2P
  simp only [List.length_nil]
  rw [Qa (by omega)];rfl
 |
  [x],_=>
  refine (Runs.step (y:=(x,(1:Int))) (λrec=>?_) (Runs.done λrec=>?_):Runs (λrec x'=>z134.l2P [x] _ rec some x') _ _).lfp
  ·unfold z134.l2P
   simp only [List.length_singleton]
   rw [bif_t (by omega),if_pos (by omega),Qc (by omega) (by omega)];rfl
  ·unfold z134.l2P
   simp only [List.length_singleton]
   rw [Qa (by omega)];rfl
theorem Qyz {n:Nat} (h:n<18446744073709551616):(lb n).getD 0 0=(n:Int)/\(lb n).length<=1:=by
 rcases Nat.eq_zero_or_pos n with rfl|h0
 ·rw [lb_zero];simp
 ·rw [Qgl h0 h];simp
theorem Qof {low:Nat} {len:Nat} {ds:List Int} (hlen:len<=20) (hl:low<18446744073709551616) (hr:Rem len low 0 ds) (hd:ds.length<=20) {gs:List (List UInt8)} (hg:gs.length<=800000000) {rec done:(List Int×List (List UInt8))->Option (List Int×List (List UInt8))} {y:Int} {r:List Int×List Int×Int} :
  z134.j1010a rec done ((low:Int),y) (len:Int) gs r=rec (r.1,gs++[ds.reverse.map ch]):=by
 unfold z134.j1010a
 rw [Qx7 hlen hl hr hd]
 simp only [Zb,List.length_singleton]
 rw [if_pos (by omega)]
theorem Q0c:∀(n:Nat),sz n<=100000000->∀gs:List (List UInt8),gs.length+sz n<=700000000->∃l,Groups n l/\Runs (λrec x=>z134.l0P rec some x) (lb n,gs) ([],gs++l):=by
 intro n
 induction n using Nat.strongRecOn with
 |
  _ n ih=>
  intro hs gs hg
  obtain ⟨U,hU⟩:∃U,U=1000000000000000000:=⟨_,rfl⟩
  have hU10:10^18=U:=by rw [hU]
  rcases Nat.eq_zero_or_pos n with h0|h0
  ·subst h0
   refine ⟨[],.zero,.done λrec=>?_⟩
   unfold z134.l0P
   simp only [Wy,Zb]
   rw [lb_zero,List.append_nil];rfl
  ·have hUp:0<U:=by omega
   have hdm:=Nat.div_add_mod n U
   have hml:=Nat.mod_lt n hUp
   have hdl:n/U<=n:=Nat.div_le_self _ _
   have hD:Ym n U:=Qng hUp (by omega) (by have:=Qj n;omega)
   have hqlt:n/U<n:=Nat.div_lt_self h0 (by omega)
   obtain ⟨q,hq⟩:∃q,n/U=q:=⟨_,rfl⟩
   obtain ⟨low,hlow⟩:∃low,n%U=low:=⟨_,rfl⟩
   unfold Ym at hD
   rw [hq] at hdm hdl hD hqlt;rw [hlow] at hdm hml hD
   have hsq:sz q<=sz n:=Qu hdl
   obtain ⟨g1,g2⟩:=Qyz (n:=low) (by omega)
   have hof:z38.F [(1000000000000000000:Int)]=some (lb U):=by rw [Yh (by omega),hU];rfl
   have hl2:=Qz7 (lb low) g2
   rw [g1] at hl2
   have body:∀{rec done:(List Int×List (List UInt8))->Option (List Int×List (List UInt8))},z134.l0P rec done (lb n,gs) =
     (bif decide (q=0) then z134.j1010a rec done ((low:Int),((lb low).length:Int)) 1 gs (lb q,lb low,0) else z134.j1010a rec done ((low:Int),((lb low).length:Int)) 18 gs (lb q,lb low,0)):=λ{rec done}=>by
    unfold z134.l0P
    simp only [Wy,Zb]
    rw [Zf (by omega),Zo,Zd,hof]
    simp only [Zb]
    rw [hD]
    simp only [Zb]
    rw [J1 (by show List.length _<=_;omega)]
    simp only [Zb]
    rw [hl2]
    simp only [Zb,Wy]
   rcases Nat.eq_zero_or_pos q with hq0|hq0
   ·subst hq0
    have hn:n=low:=by omega
    subst hn
    have hsz:sz n<=18:=sz_le (by rw [hU10];exact hml)
    refine ⟨[(toB 10 n).reverse.map ch],.last n h0 (by rw [hU10];exact hml),.step (y:=([],gs++[(toB 10 n).reverse.map ch])) (λrec=>?_) (.done λrec=>?_)⟩
    ·rw [body,bif_t rfl]
     refine (Qof (len:=1) (by omega) (by omega) (Qus n 0 (.inr ⟨h0,by omega⟩)) (by show sz n<=20;omega) (by omega)).trans ?_
     rw [lb_zero]
    ·unfold z134.l0P
     rw [<-lb_zero]
     simp only [Wy,Zb]
     rw [lb_zero];rfl
   ·obtain ⟨l,l1,l2⟩:=ih q hqlt (by omega) (gs++[(lsd 18 low).reverse.map ch]) (by
     have h1:sz q<sz n:=by
      have:=congrArg List.length (Qil 18 low q hq0 (by rw [hU10];exact hml))
      rw [List.length_append,Qf9,hU10,show low+U*q=n by omega] at this
      unfold sz;omega
     simp only [List.length_append,List.length_singleton];omega)
    have hgn:Groups n (((lsd 18 low).reverse.map ch)::l):=by
     have:=Groups.more low q l (by rw [hU10];exact hml) hq0 l1
     rwa [hU10,show low+U*q=n by omega] at this
    refine ⟨_,hgn,.step (y:=(lb q,gs++[(lsd 18 low).reverse.map ch])) (λrec=>?_) (by rw [show gs++((lsd 18 low).reverse.map ch)::l=(gs++[(lsd 18 low).reverse.map ch])++l by simp];exact l2)⟩
    rw [body,Qa (by omega)]
    exact Qof (len:=18) (by omega) (by omega) (Qqh 18 low 0 (by omega) (by rw [hU10];exact hml)) (by rw [Qf9];omega) (by omega)
def byts (s:List UInt8):List Int:=s.map λc=>(c.toNat:Int)
theorem Q0x (a b:List UInt8):byts (a++b)=byts a++byts b:=by simp [byts]
theorem Q1g (s:List UInt8):(byts s).all Qdk=true:=by
 rw [List.all_eq_true]
 intro x hx
 obtain ⟨c,_,rfl⟩:=List.mem_map.1 hx
 have:=c.toNat_lt
 simp [Qdk];omega
theorem Q08 (s:List UInt8):(byts s).map (λn=>UInt8.ofNat n.toNat)=s:=by
 unfold byts
 rw [List.map_map]
 conv=>rhs;rw [<-List.map_id s]
 exact List.map_congr_left λc _=>by simp
theorem Qg0 (s:List UInt8):(byts s).length=s.length:=by simp [byts]
theorem Qlz {gs:List (List UInt8)} (hg:gs.length<=800000000) (hs:gs.flatten.length<=100000000):∀(k:Nat),k<=gs.length->∀acc:List UInt8,acc.length+(gs.take k).flatten.length<=100000000 ->
  ∃i,Runs (λrec x=>z134.l4P gs rec some x) ((k:Int)-1,byts acc) (i,byts (acc++(gs.take k).reverse.flatten))
 |
  0,hk,acc,ha=>⟨-1,by
  refine .done λrec=>?_
  unfold z134.l4P
  simp only
  rw [Qa (by omega)];simp⟩
 |
  k+1,hk,acc,ha=>by
  have hk':k<gs.length:=by omega
  have hget:gs.getD k []=gs[k]:=by simp [List.getD,hk']
  have htk:gs.take (k+1)=gs.take k++[gs[k]]:=by rw [List.take_add_one,List.getElem?_eq_getElem hk'];rfl
  have hfl:(gs.take (k+1)).flatten.length=(gs.take k).flatten.length+gs[k].length:=by rw [htk,List.flatten_append,List.length_append,List.flatten_singleton]
  obtain ⟨i,hi⟩:=Qlz hg hs k (by omega) (acc++gs[k]) (by rw [List.length_append];omega)
  refine ⟨i,.step (λrec=>?_) (by rw [htk,List.reverse_append,List.reverse_singleton,List.flatten_append,List.flatten_singleton,<-List.append_assoc];exact hi)⟩
  unfold z134.l4P
  simp only
  rw [show ((k+1:Nat):Int)-1=(k:Int) by omega,bif_t (by omega),if_pos (by omega),Zi,if_pos hk',hget]
  change (if ((byts acc).length+(byts gs[k]).length)*1<=140737488355328 then _ else none)=_
  rw [Qg0,Qg0,if_pos (by omega),Qc (by omega) (by omega),Q0x]
  rfl
theorem digits_Print {n:Nat} (hs:sz n<=100000000):z134.F (lb n)=some (txt n):=by
 unfold z134.F
 rw [Wy]
 simp only [Zb]
 rcases Nat.eq_zero_or_pos n with h0|h0
 ·subst h0;rfl
 rw [Qa (by omega)]
 obtain ⟨gs,g1,g2⟩:=Q0c n hs [] (by simp only [List.length_nil];omega)
 have e0:z134.l0 (lb n,[])=some ([],gs):=g2.lfp
 obtain ⟨l1,l2⟩:=g1.len
 have ht:=g1.text
 have hn:0<gs.length:=by
  cases gs with
  |nil=>exfalso;cases g1;omega
  |cons=>simp
 rw [e0]
 simp only [Zb]
 obtain ⟨k,hk⟩:∃k,gs.length=k+1:=⟨gs.length-1,by omega⟩
 have hk':k<gs.length:=by omega
 have hget:gs.getD k []=gs[k]:=by simp [List.getD,hk']
 have htk:gs=gs.take k++[gs[k]]:=by
  have:=List.take_add_one (l:=gs) (i:=k)
  rw [List.getElem?_eq_getElem hk',List.take_of_length_le (by omega)] at this;exact this
 have hfl:gs.flatten.length=(gs.take k).flatten.length+gs[k].length:=by
  conv=>lhs;rw [htk]
  rw [List.flatten_append,List.length_append,List.flatten_singleton]
 rw [hk,Qc (n:=((k+1:Nat):Int)-1) (by omega) (by omega),show ((k+1:Nat):Int)-1=(k:Int) by omega,bif_t (by omega),if_pos (by omega),Zi,if_pos (by omega),hget]
 change (if (0+(byts gs[k]).length)*1<=140737488355328 then ((z134.l4 gs (wr .i64 ((k:Int)-1),[]++byts gs[k])).bind _) else none)=_
 rw [Qg0,if_pos (by omega),Qc (by omega) (by omega),List.nil_append]
 obtain ⟨i,hi⟩:=Qlz (gs:=gs) (by omega) (by omega) k (by omega) gs[k] (by omega)
 have e4:z134.l4 gs ((k:Int)-1,byts gs[k])=some (i,byts (gs[k]++(gs.take k).reverse.flatten)):=hi.lfp
 have hall:gs[k]++(gs.take k).reverse.flatten=gs.reverse.flatten:=by
  conv=>rhs;rw [htk]
  rw [List.reverse_append,List.reverse_singleton,List.flatten_append,List.flatten_singleton]
 rw [e4,hall]
 simp only [Zb]
 have hlen:gs.reverse.flatten.length=sz n:=by rw [ht];unfold sz;simp
 have hszp:0<sz n:=by omega
 rw [Qg0,if_pos (by omega),if_pos ⟨trivial,by omega,Q1g _⟩,Q08,ht]
 unfold txt
 rw [if_neg (by omega)]
def itxt (z:Int):List UInt8:=if z<0 then 45::txt z.natAbs else txt z.natAbs
theorem Qc9 (n:Nat):(txt n).length<=sz n+1:=by
 unfold txt;split
 ·simp
 ·unfold sz;simp
theorem W4 {z:Int} (hs:sz z.natAbs<=100000000):z135.F (lb z.natAbs) (neg z)=some (itxt z):=by
 have:=Qc9 z.natAbs
 unfold z135.F itxt
 by_cases h:z<0
 ·rw [bif_t h,digits_Print hs,if_pos h]
  simp only [Zb]
  rw [if_pos (by simp only [List.length_singleton];omega)];rfl
 ·rw [Qa h,digits_Print hs,if_neg h];rfl
theorem Qaa (s:List UInt8):sz (mMoney s).1.natAbs<=31:=by
 unfold mMoney
 have hm:∀e:Int,sz (Int.natAbs ((0:Int),e).1)<=31:=λe=>by show sz 0<=31;rw [Qai];omega
 split
 ·exact hm _
 ·split
  ·exact hm _
  ·rename_i h;exact sz_le (by
    have:(10:Int)^30=1000000000000000000000000000000:=by decide
    rw [this] at h
    simp only;omega)
theorem Qhj (s:List UInt8):sz (mRate s).1.num.natAbs<=100/\sz (mRate s).1.den<=100:=by
 obtain ⟨hb1,hb2⟩:=Qjk s
 have h0:sz (Rat.num 0).natAbs<=100/\sz (Rat.den 0)<=100:=by
  show sz 0<=100/\sz 1<=100
  exact ⟨by rw [Qai];omega,Nat.le_trans (sz_le (k:=1) (by decide)) (by omega)⟩
 unfold mRate
 generalize mDec s=d at *
 obtain ⟨c,sc,e⟩:=d
 simp only at *
 by_cases h:e≠0
 ·rw [if_pos h];exact h0
 rw [if_neg h]
 by_cases h2:c<0\/1000*((10^sc:Nat):Int)<c\/12<sc
 ·rw [if_pos h2];exact h0
 rw [if_neg h2]
 have hp12:10^sc<=10^12:=Nat.pow_le_pow_right (by decide) (by omega)
 have hp0:0<10^sc:=Nat.pow_pos (by decide)
 have n1:=Qbb c hp0
 have n2:=Qbf c hp0
 have hd0:=(mkRat c (10^sc)).den_pos
 generalize mkRat c (10^sc)=q at *
 have e1:q/100=mkRat q.num (q.den*100):=by
  rw [Qkh,show (100:Rat).den=1 from rfl,show (100:Rat).num=100 from rfl,<-Rat.divInt_ofNat]
  simp
 have m1:=Qbb q.num (show 0<q.den*100 by omega)
 have m2:=Qbf q.num (show 0<q.den*100 by omega)
 rw [e1]
 show sz (mkRat q.num (q.den*100)).num.natAbs<=100/\sz (mkRat q.num (q.den*100)).den<=100
 exact ⟨Nat.le_trans (sz_le (k:=20) (by omega)) (by omega),Nat.le_trans (sz_le (k:=20) (by omega)) (by omega)⟩
def w1:List UInt8:=[108,105,110,101,97,114]
def w2:List UInt8:=[98,117,108,108,101,116]
end Go.Proofs.YtgjncgiekniniaaGreatDoor.A
end
section
set_option linter.unusedSectionVars false
namespace Go.Proofs.YtgjncgiekniniaaGreatDoor.A
open Go
section
variable {U3 D2 P ul dl:Nat} (hul:ul<P) (hdl:dl<P) (h0:0<D2)
include hul hdl h0
theorem Qo3:(U3*P+ul)/(D2*P+dl)<=U3/D2:=by
 rw [Nat.le_div_iff_mul_le h0]
 have hQ:=Nat.div_mul_le_self (U3*P+ul) (D2*P+dl)
 generalize (U3*P+ul)/(D2*P+dl)=Q at *
 have h1:Q*D2*P<=Q*(D2*P+dl):=by rw [Nat.mul_assoc];exact Nat.mul_le_mul_left _ (Nat.le_add_right _ _)
 have h2:Q*D2*P<(U3+1)*P:=by rw [Nat.add_mul,Nat.one_mul];omega
 have:=Nat.lt_of_mul_lt_mul_right h2
 omega
theorem Qwr {B:Nat} (hD:B<=D2) (hq:U3/D2<B):U3/D2<=(U3*P+ul)/(D2*P+dl)+1:=by
 have hDp:0<D2*P+dl:=by
  have:=Nat.mul_pos h0 (show 0<P by omega);omega
 have hQ:=Nat.lt_mul_div_succ (U3*P+ul) hDp
 have hq3:=Nat.div_mul_le_self U3 D2
 generalize (U3*P+ul)/(D2*P+dl)=Q at *
 generalize U3/D2=q at *
 rcases Nat.lt_or_ge (Q+1) q with h|h
 ·exfalso
  have e1:(Q+2)*(D2*P+dl)<=q*(D2*P+dl):=Nat.mul_le_mul_right _ (by omega)
  have e2:q*(D2*P+dl)=q*D2*P+q*dl:=by rw [Nat.mul_add,Nat.mul_assoc]
  have e3:q*D2*P<=U3*P:=Nat.mul_le_mul_right _ hq3
  have e4:q*dl<=B*P:=Nat.mul_le_mul (by omega) (by omega)
  have e5:(Q+2)*(D2*P+dl)=(D2*P+dl)*(Q+1)+(D2*P+dl):=by
   rw [show Q+2=(Q+1)+1 by omega,Nat.add_mul,Nat.one_mul,Nat.mul_comm]
  have e6:B*P<=D2*P:=Nat.mul_le_mul_right _ hD
  generalize (D2*P+dl)*(Q+1)=X at *
  generalize (Q+2)*(D2*P+dl)=Y at *
  generalize q*(D2*P+dl)=Z at *
  generalize q*D2*P=W at *
  generalize q*dl=V at *
  generalize B*P=T at *
  generalize D2*P=S at *
  generalize U3*P=R at *
  have hlt:q*dl<1->True:=λ_=>trivial
  omega
 ·exact h
end
theorem Qvp {B d1 d2 top next third P ul dl:Nat} (h1:B<=2*d1) (hd2:d2<B) (hul:ul<P) (hdl:dl<P) (ht:d1<=top)
  (hU:((top*B+next)*B+third)*P+ul<((d1*B+d2)*P+dl)*B) :
  (((top*B+next)*B+third)*P+ul)/((d1*B+d2)*P+dl)<=B-1/\B-1<=(((top*B+next)*B+third)*P+ul)/((d1*B+d2)*P+dl)+1:=by
 have hP:0<P:=by omega
 have hB:0<B:=by omega
 have hD0:d1*B*P<=(d1*B+d2)*P+dl:=Nat.le_trans (Nat.mul_le_mul_right _ (Nat.le_add_right _ _)) (Nat.le_add_right _ _)
 have hDp:0<(d1*B+d2)*P+dl:=by
  have:=Nat.mul_pos (Nat.mul_pos (show 0<d1 by omega) hB) hP;omega
 have hD1:(d1*B+d2)*P+dl<(d1*B+B)*P:=by
  have:(d1*B+d2+1)*P<=(d1*B+B)*P:=Nat.mul_le_mul_right _ (by omega)
  rw [Nat.add_mul _ 1,Nat.one_mul] at this;omega
 have hU0:d1*B*B*P<=((top*B+next)*B+third)*P+ul:=by
  refine Nat.le_trans (Nat.mul_le_mul_right _ ?_) (Nat.le_add_right _ _)
  refine Nat.le_trans (Nat.mul_le_mul_right _ ?_) (Nat.le_add_right _ _)
  exact Nat.le_trans (Nat.mul_le_mul_right _ ht) (Nat.le_add_right _ _)
 generalize ((top*B+next)*B+third)*P+ul=U at *
 generalize (d1*B+d2)*P+dl=D at *
 have hQ:=Nat.lt_mul_div_succ U hDp
 have hQB:U/D<B:=Nat.div_lt_of_lt_mul hU
 refine ⟨by omega,?_⟩
 generalize U/D=Q at *
 rcases Nat.lt_or_ge (Q+1) (B-1) with h|h
 ·exfalso
  have e1:D*(Q+3)<=D*B:=Nat.mul_le_mul_left _ (by omega)
  have e2:D*(Q+3)=D*(Q+1)+2*D:=by rw [show Q+3=(Q+1)+2 by omega,Nat.mul_add,Nat.mul_comm D 2]
  have e3:D*B<=(d1*B+B)*P*B:=Nat.mul_le_mul_right _ (Nat.le_of_lt hD1)
  have e4:(d1*B+B)*P*B=d1*B*B*P+B*B*P:=by
   rw [Nat.add_mul,Nat.add_mul,Nat.mul_right_comm _ P B,Nat.mul_right_comm B P B]
  have e5:B*B*P<=2*(d1*B*P):=by
   rw [<-Nat.mul_assoc,<-Nat.mul_assoc]
   exact Nat.mul_le_mul_right _ (Nat.mul_le_mul_right _ h1)
  generalize D*(Q+1)=X at *
  generalize D*(Q+3)=Y at *
  generalize (d1*B+B)*P*B=Z at *
  generalize d1*B*B*P=W at *
  generalize B*B*P=V at *
  generalize d1*B*P=T at *
  omega
 ·exact h
theorem Qw0 {B d1 d2 top next third:Nat} (h1:B<=2*d1) (hd2:d2<B) (ht:top<d1) (hn:next<B) :
  (top*B+next)/d1<=((top*B+next)*B+third)/(d1*B+d2)+2/\(top*B+next)/d1<B:=by
 have hB:0<B:=by omega
 have hd:0<d1:=by omega
 have hq:(top*B+next)/d1<B:=by
  refine Nat.div_lt_of_lt_mul ?_
  have:(top+1)*B<=d1*B:=Nat.mul_le_mul_right _ ht
  rw [Nat.add_mul,Nat.one_mul] at this;omega
 refine ⟨?_,hq⟩
 have hm:=Nat.div_mul_le_self (top*B+next) d1
 generalize (top*B+next)/d1=q at *
 generalize top*B+next=U2 at *
 rcases Nat.lt_or_ge q 2 with h|h
 ·exact Nat.le_trans (Nat.le_of_lt h) (Nat.le_add_left 2 _)
 obtain ⟨k,rfl⟩:∃k,q=k+2:=⟨q-2,by omega⟩
 have:k<=(U2*B+third)/(d1*B+d2):=by
  rw [Nat.le_div_iff_mul_le (by have:=Nat.mul_pos hd hB;omega)]
  have e1:k*(d1*B+d2)=k*d1*B+k*d2:=by rw [Nat.mul_add,Nat.mul_assoc]
  have e2:k*d2<=B*B:=Nat.mul_le_mul (by omega) (by omega)
  have e3:B*B<=2*d1*B:=Nat.mul_le_mul_right _ h1
  have e4:(k+2)*d1*B<=U2*B:=Nat.mul_le_mul_right _ hm
  have e5:(k+2)*d1*B=k*d1*B+2*d1*B:=by rw [Nat.add_mul,Nat.add_mul]
  omega
 omega
theorem Qwm {B d1 d2 U2 third q r:Nat} (he:q*d1+r=U2) (hd2:0<d1*B+d2) (hc:r*B+third<q*d2):(U2*B+third)/(d1*B+d2)<q:=by
 rw [Nat.div_lt_iff_lt_mul hd2]
 have:=Qf4 B (y0:=d2) he
 omega
theorem Qwe {B d1 d2 U2 third q r:Nat} (he:q*d1+r=U2) (hd2:0<d1*B+d2) (hg:(U2*B+third)/(d1*B+d2)<=q) (hc:q*d2<=r*B+third):q=(U2*B+third)/(d1*B+d2):=by
 refine Nat.le_antisymm ?_ hg
 rw [Nat.le_div_iff_mul_le hd2]
 have:=Qf4 B (y0:=d2) he
 omega
end Go.Proofs.YtgjncgiekniniaaGreatDoor.A
end
section
namespace Go.Proofs.YtgjncgiekniniaaGreatDoor.A
open Go
theorem Qd1 (B:Nat) {l:List Int} {i k:Nat} (h:i+k<=l.length):valB B (l.drop i)=valB B ((l.drop i).take k)+(B^k:Nat)*valB B (l.drop (i+k)):=by
 have h1:=Qdy B ((l.drop i).take k) ((l.drop i).drop k)
 rw [List.take_append_drop,List.drop_drop,List.length_take,List.length_drop,Nat.min_eq_left (by omega)] at h1
 exact h1
theorem Qbt (B:Nat) {l:List Int} {k:Nat} (h:k<=l.length):valB B l=valB B (l.take k)+(B^k:Nat)*valB B (l.drop k):=by
 have:=Qd1 B (l:=l) (i:=0) (k:=k) (by omega)
 rwa [List.drop_zero,Nat.zero_add] at this
theorem high {l:List Int} {i n:Nat} (hn:2<=n) (hl:i+n<l.length) (hz:valB LB (l.drop (i+n+1))=0) :
  valB LB (l.drop i)=((l.getD (i+n) 0*18446744073709551616+l.getD (i+n-1) 0)*18446744073709551616+l.getD (i+n-2) 0)*(LB^(n-2):Nat)+valB LB ((l.drop i).take (n-2)):=by
 rw [Qd1 LB (l:=l) (i:=i) (k:=n-2) (by omega)]
 have e1:=Wb (B:=LB) l (i+n-2)
 have e2:=Wb (B:=LB) l (i+n-1)
 have e3:=Wb (B:=LB) l (i+n)
 rw [show i+n-2+1=i+n-1 by omega] at e1
 rw [show i+n-1+1=i+n by omega] at e2
 rw [hz] at e3
 rw [show i+(n-2)=i+n-2 by omega,e1,e2,e3]
 have e:((LB:Nat):Int)=18446744073709551616:=rfl
 rw [e]
 generalize ((LB^(n-2):Nat):Int)=p
 generalize l.getD (i+n) 0=x
 generalize l.getD (i+n-1) 0=y
 generalize l.getD (i+n-2) 0=z
 generalize valB LB ((l.drop i).take (n-2))=w
 grind
theorem Qtm {l:List Int} {n:Nat} (hn:2<=n) (hl:l.length=n) :
  valB LB l=(l.getD (n-1) 0*18446744073709551616+l.getD (n-2) 0)*(LB^(n-2):Nat)+valB LB (l.take (n-2)):=by
 rw [Qbt LB (l:=l) (k:=n-2) (by omega)]
 have e1:=Wb (B:=LB) l (n-2)
 have e2:=Wb (B:=LB) l (n-1)
 rw [show n-2+1=n-1 by omega] at e1
 rw [show n-1+1=n by omega,show List.drop n l=[] from List.drop_eq_nil_of_le (by omega)] at e2
 rw [e1,e2]
 have e:((LB:Nat):Int)=18446744073709551616:=rfl
 rw [e]
 show _=_
 have e0:valB LB []=0:=rfl
 rw [e0]
 generalize ((LB^(n-2):Nat):Int)=p
 generalize l.getD (n-1) 0=x
 generalize l.getD (n-2) 0=y
 generalize valB LB (l.take (n-2))=w
 grind
theorem Wc {x:Int} (h:0<=x):∃n:Nat,x=(n:Int):=⟨x.toNat,by omega⟩
theorem limb {l:List Int} (h:inB LB l) (k:Nat):∃n:Nat,l.getD k 0=(n:Int)/\n<18446744073709551616:=by
 have hd:=Q2 (B:=LB) (by decide) h k
 obtain ⟨n,hn⟩:=Wc hd.1
 refine ⟨n,hn,?_⟩
 rw [hn] at hd
 exact_mod_cast hd.2
theorem Qk1 {l:List Int} (h:inB LB l) {i n:Nat} (hl:i+n<=l.length) (hv:valB LB (l.drop i)<(LB^n:Nat)):valB LB (l.drop (i+n))=0:=by
 rw [Qd1 LB hl] at hv
 have h1:=Wm (Wo (Jb h i) n)
 have h2:=Wm (Jb h (i+n))
 rcases Int.lt_or_eq_of_le h2 with h3|h3
 ·exfalso
  have hp:(0:Int)<(LB^n:Nat):=by exact_mod_cast Nat.pow_pos (by decide)
  have:=Int.mul_le_mul_of_nonneg_left (show (1:Int)<=valB LB (l.drop (i+n)) by omega) (Int.le_of_lt hp)
  rw [Int.mul_one] at this
  omega
 ·exact h3.symm
theorem Quq {l:List Int} (h:inB LB l) {k:Nat} (hv:valB LB (l.drop k)=0):l.getD k 0=0:=by
 rw [Wb] at hv
 have h1:=Q2 (B:=LB) (by decide) h k
 have h2:=Wm (Jb h (k+1))
 have h3:=Int.mul_nonneg (Int.natCast_nonneg LB) h2
 omega
noncomputable def Qcw {R:Type} (n:Nat) (d:List Int) (rec:(Int×(List Int)×(List Int))->Option R) (i:Int) (u q:List Int) (k:Int):Option R:=
 ((z67.l0b3 (i).toNat (((wr .i64 ((wr .i64 (i+((n:Nat):Int)))+(1:Int)))).toNat-(i).toNat) k 0 n ((n:Nat):Int) d ((0:Int),(0:Int),(0:Int),u)).bind λo10=>(if (0:Int)<=((n:Nat):Int)/\((n:Nat):Int)<(((((wr .i64 ((wr .i64 (i+((n:Nat):Int)))+(1:Int)))).toNat-(i).toNat):Nat):Int) then (if ((i).toNat+(((n:Nat):Int)).toNat)<o10.2.2.2.length then ((z1.F (o10.2.2.2.getD ((i).toNat+(((n:Nat):Int)).toNat) 0) o10.1 o10.2.1).bind λr11=>(if (0:Int)<=((n:Nat):Int)/\((n:Nat):Int)<(((((wr .i64 ((wr .i64 (i+((n:Nat):Int)))+(1:Int)))).toNat-(i).toNat):Nat):Int) then (if ((i).toNat+(((n:Nat):Int)).toNat)<o10.2.2.2.length then ((z67.l2 0 n (i).toNat (((wr .i64 ((wr .i64 (i+((n:Nat):Int)))+(1:Int)))).toNat-(i).toNat) d (k,r11.2,(o10.2.2.2.set ((i).toNat+(((n:Nat):Int)).toNat) r11.1))).bind λo12=>(if (0:Int)<=i/\i<(q.length:Int) then (if (i).toNat<q.length then (rec ((wr .i64 (i-(1:Int))),o12.2.2,(q.set (i).toNat o12.1))) else none) else none)) else none) else none)) else none) else none))
noncomputable def Qgn {R:Type} (n:Nat) (d:List Int) (K:Int->Option R) (L:Int->Int->Option R) (k r:Int):Option R:=
 (if (0:Int)<=(wr .i64 (((n:Nat):Int)-(1:Int)))/\(wr .i64 (((n:Nat):Int)-(1:Int)))<((n:Nat):Int) then (if (0+((wr .i64 (((n:Nat):Int)-(1:Int)))).toNat)<d.length then ((z0.F r (d.getD (0+((wr .i64 (((n:Nat):Int)-(1:Int)))).toNat) 0) (0:Int)).bind λa=>(bif (decide (a.2=(0:Int))) then L (wr .u64 (k-(1:Int))) a.1 else K (wr .u64 (k-(1:Int))))) else none) else none)
noncomputable def Y8 {R:Type} (n:Nat) (d:List Int) (third:Int) (K:Int->Option R) (L:Int->Int->Option R) (k r:Int):Option R:=
 (if (0:Int)<=(wr .i64 (((n:Nat):Int)-(2:Int)))/\(wr .i64 (((n:Nat):Int)-(2:Int)))<((n:Nat):Int) then (if (0+((wr .i64 (((n:Nat):Int)-(2:Int)))).toNat)<d.length then ((z39.F k (d.getD (0+((wr .i64 (((n:Nat):Int)-(2:Int)))).toNat) 0)).bind λa=>(bif (decide (a.1<r)) then K k else (bif (decide (a.1=r)) then (bif (decide (a.2<=third)) then K k else Qgn n d K L k r) else Qgn n d K L k r))) else none) else none)
theorem Qo7 {R:Type} (n:Nat) (d:List Int) (rec done:(Int×(List Int)×(List Int))->Option R) (i:Int) (u q:List Int):z67.l0aaP 0 n d rec done (i,u,q) =
 (bif (decide (i>=(0:Int))) then (if (0:Int)<=i/\i<=(wr .i64 ((wr .i64 (i+((n:Nat):Int)))+(1:Int)))/\(wr .i64 ((wr .i64 (i+((n:Nat):Int)))+(1:Int)))<=((u).length:Int) then (if (0:Int)<=((n:Nat):Int)/\((n:Nat):Int)<(((((wr .i64 ((wr .i64 (i+((n:Nat):Int)))+(1:Int)))).toNat-(i).toNat):Nat):Int) then (if ((i).toNat+(((n:Nat):Int)).toNat)<u.length then (if (0:Int)<=(wr .i64 (((n:Nat):Int)-(1:Int)))/\(wr .i64 (((n:Nat):Int)-(1:Int)))<(((((wr .i64 ((wr .i64 (i+((n:Nat):Int)))+(1:Int)))).toNat-(i).toNat):Nat):Int) then (if ((i).toNat+((wr .i64 (((n:Nat):Int)-(1:Int)))).toNat)<u.length then (if (0:Int)<=(wr .i64 (((n:Nat):Int)-(2:Int)))/\(wr .i64 (((n:Nat):Int)-(2:Int)))<(((((wr .i64 ((wr .i64 (i+((n:Nat):Int)))+(1:Int)))).toNat-(i).toNat):Nat):Int) then (if ((i).toNat+((wr .i64 (((n:Nat):Int)-(2:Int)))).toNat)<u.length then (if (0:Int)<=(wr .i64 (((n:Nat):Int)-(1:Int)))/\(wr .i64 (((n:Nat):Int)-(1:Int)))<((n:Nat):Int) then (if (0+((wr .i64 (((n:Nat):Int)-(1:Int)))).toNat)<d.length then (bif (decide ((u.getD ((i).toNat+(((n:Nat):Int)).toNat) 0)>=(d.getD (0+((wr .i64 (((n:Nat):Int)-(1:Int)))).toNat) 0))) then (Qcw n d rec i u q (18446744073709551615:Int)) else (if (0:Int)<=(wr .i64 (((n:Nat):Int)-(1:Int)))/\(wr .i64 (((n:Nat):Int)-(1:Int)))<((n:Nat):Int) then (if (0+((wr .i64 (((n:Nat):Int)-(1:Int)))).toNat)<d.length then ((z63.F (u.getD ((i).toNat+(((n:Nat):Int)).toNat) 0) (u.getD ((i).toNat+((wr .i64 (((n:Nat):Int)-(1:Int)))).toNat) 0) (d.getD (0+((wr .i64 (((n:Nat):Int)-(1:Int)))).toNat) 0)).bind λa=>Y8 n d (u.getD ((i).toNat+((wr .i64 (((n:Nat):Int)-(2:Int)))).toNat) 0) (Qcw n d rec i u q) (Y8 n d (u.getD ((i).toNat+((wr .i64 (((n:Nat):Int)-(2:Int)))).toNat) 0) (Qcw n d rec i u q) (Y8 n d (u.getD ((i).toNat+((wr .i64 (((n:Nat):Int)-(2:Int)))).toNat) 0) (Qcw n d rec i u q) (λ_ _=>none))) a.1 a.2) else none) else none)) else none) else none) else none) else none) else none) else none) else none) else none) else none) else (done (i,u,q))):=rfl
theorem Qfd {s:List Int} {i j:Nat} {x:Int} (h:j<=i):(s.set i x).take j=s.take j:=by
 apply List.ext_getElem?
 intro k
 by_cases hk:k<j
 ·rw [List.getElem?_take_of_lt hk,List.getElem?_take_of_lt hk,List.getElem?_set_ne (by omega)]
 ·rw [List.getElem?_eq_none (by rw [List.length_take];omega),List.getElem?_eq_none (by rw [List.length_take];omega)]
theorem Qgw {s:List Int} {i j:Nat} {x:Int} (h:i<j):(s.set i x).drop j=s.drop j:=by
 apply List.ext_getElem?
 intro k
 rw [List.getElem?_drop,List.getElem?_drop,List.getElem?_set_ne (by omega)]
theorem Qa1 {s:List Int} {n j:Nat} (h:j<n):(s.take n).getD j 0=s.getD j 0:=by
 simp [List.getD,List.getElem?_take_of_lt h]
theorem Qrm {d:List Int} {off m n:Nat} {k:Int} (hk:0<=k/\k<18446744073709551616) (hd:inB LB d) (hn:n<=d.length) (hm:n<=m) (hN:n<=900000000) :
  ∀
   (f j:Nat) (c b:Int) (s:List Int),j+f=n->inB LB s->off+n<=s.length->0<=c/\c<18446744073709551616->0<=b/\b<=1 ->
   ∃
    c' b' s',Runs (λrec x=>z67.l0b3P off m k 0 n (n:Int) d rec some x) (c,b,(j:Int),s) (c',b',(n:Int),s')/\inB LB s'/\s'.length=s.length/\(0<=c'/\c'<18446744073709551616)/\(0<=b'/\b'<=1) /\
    s'.take off=s.take off/\s'.drop (off+n)=s.drop (off+n) /\
    valB LB s'=valB LB s-(k*valB LB ((d.take n).drop j)+c+b)*(LB^(off+j):Nat)+(c'+b')*(LB^(off+n):Nat)
 |
  0,j,c,b,s,hf,hs,hl,hc,hb=>by
  have:j=n:=by omega
  subst this
  refine ⟨c,b,s,.done λrec=>?_,hs,rfl,hc,hb,rfl,rfl,?_⟩
  ·unfold z67.l0b3P
   simp only
   rw [Qa (by omega)]
  ·rw [List.drop_eq_nil_of_le (by rw [List.length_take];omega),show valB LB []=0 from rfl]
   generalize ((LB^(off+j):Nat):Int)=p
   grind
 |
  f+1,j,c,b,s,hf,hs,hl,hc,hb=>by
  have hj:j<d.length:=by omega
  have hjs:off+j<s.length:=by omega
  have h1:0<=d.getD j 0/\d.getD j 0<18446744073709551616:=Q2 (B:=LB) (by decide) hd j
  have h2:0<=s.getD (off+j) 0/\s.getD (off+j) 0<18446744073709551616:=Q2 (B:=LB) (by decide) hs (off+j)
  have hp:0<=d.getD j 0*k/\d.getD j 0*k<=18446744073709551615*18446744073709551615:=⟨Int.mul_nonneg h1.1 hk.1,Int.mul_le_mul (by omega) (by omega) hk.1 (by decide)⟩
  have hg:(d.take n).getD j 0=d.getD j 0:=Qa1 (by omega)
  obtain ⟨x,hx⟩:∃x,d.getD j 0*k+c=x:=⟨_,rfl⟩
  obtain ⟨low,hlow⟩:∃y,x%18446744073709551616=y:=⟨_,rfl⟩
  obtain ⟨hi,hhi⟩:∃y,x/18446744073709551616=y:=⟨_,rfl⟩
  have hxx:x=18446744073709551616*hi+low:=by rw [<-hlow,<-hhi];exact (Int.mul_ediv_add_emod x _).symm
  have hb1:0<=low/\low<18446744073709551616/\0<=hi/\hi<18446744073709551616:=by omega
  obtain ⟨b1,hb1'⟩:∃y:Int,(if s.getD (off+j) 0<low+b then (1:Int) else 0)=y:=⟨_,rfl⟩
  obtain ⟨z,hz⟩:∃y:Int,(s.getD (off+j) 0-low-b)%18446744073709551616=y:=⟨_,rfl⟩
  have hzz:z=s.getD (off+j) 0-low-b+b1*18446744073709551616:=by
   rw [<-hz,<-hb1'];split<;>omega
  have hbb:0<=b1/\b1<=1:=by rw [<-hb1'];split<;>omega
  have hzb:0<=z/\z<18446744073709551616:=by omega
  have hsub:z1.F (s.getD (off+j) 0) low b=some (z,b1):=by
   unfold z1.F;rw [if_pos (by omega),hz,hb1']
  obtain ⟨c',b',s',r1,r2,r3,r4,r5,r6,r7,r8⟩:=Qrm (off:=off) hk hd hn hm hN f (j+1) hi b1 (s.set (off+j) z) (by omega) (Yc hs hzb) (by rw [List.length_set];exact hl) ⟨hb1.2.2.1,hb1.2.2.2⟩ hbb
  refine ⟨c',b',s',.step (λrec=>?_) r1,r2,by rw [r3,List.length_set],r4,r5,by rw [r6,Qfd (by omega)],by rw [r7,Qgw (by omega)],?_⟩
  ·unfold z67.l0b3P
   simp only
   rw [bif_t (by omega),if_pos (by omega),Zi,Nat.zero_add,if_pos hj,Qkw h1 hk]
   simp only [Zb]
   rw [Qcq (by omega) hc.1 (by omega),Int.add_zero]
   simp only [Zb]
   have e1:(d.getD j 0*k%18446744073709551616+c)%18446744073709551616=low:=by rw [<-hlow,<-hx,Int.emod_add_emod]
   have e2:d.getD j 0*k/18446744073709551616+(d.getD j 0*k%18446744073709551616+c)/18446744073709551616=hi:=by
    rw [<-hhi,<-hx]
    generalize d.getD j 0*k=y
    omega
   rw [e1,if_pos (by omega),if_pos hjs,hsub]
   simp only [Zb]
   rw [if_pos (by omega),if_pos hjs,e2,Qq (n:=hi) (by omega) (by omega),Qc (by omega) (by omega)]
   rfl
  ·rw [r8,Yl hjs,Wb (d.take n) j,hg,hzz]
   have e1:((LB^(off+(j+1)):Nat):Int)=18446744073709551616*(LB^(off+j):Nat):=by
    rw [<-Nat.add_assoc,Nat.pow_succ,Nat.mul_comm,Int.natCast_mul];rfl
   have e3:((LB:Nat):Int)=18446744073709551616:=rfl
   rw [e1,e3]
   have hx':d.getD j 0*k=18446744073709551616*hi+low-c:=by omega
   generalize ((LB^(off+j):Nat):Int)=p at *
   generalize ((LB^(off+n):Nat):Int)=p' at *
   generalize valB LB ((d.take n).drop (j+1))=w at *
   generalize valB LB s=V at *
   generalize s.getD (off+j) 0=y at *
   generalize d.getD j 0=e at *
   clear r1 r2 r3 r4 r5 r6 r7 r8
   grind
theorem Qqa {d:List Int} {off m n:Nat} (hd:inB LB d) (hn:n<=d.length) (hm:n<=m) (hN:n<=900000000) :
  ∀
   (f j:Nat) (c:Int) (s:List Int),j+f=n->inB LB s->off+n<=s.length->0<=c/\c<=1 ->
   ∃
    c' s',Runs (λrec x=>z67.l0b4P off m 0 n (n:Int) d rec some x) (c,(j:Int),s) (c',(n:Int),s')/\inB LB s'/\s'.length=s.length/\(0<=c'/\c'<=1) /\
    s'.take off=s.take off/\s'.drop (off+n)=s.drop (off+n) /\
    valB LB s'=valB LB s+(valB LB ((d.take n).drop j)+c)*(LB^(off+j):Nat)-c'*(LB^(off+n):Nat)
 |
  0,j,c,s,hf,hs,hl,hc=>by
  have:j=n:=by omega
  subst this
  refine ⟨c,s,.done λrec=>?_,hs,rfl,hc,rfl,rfl,?_⟩
  ·unfold z67.l0b4P
   simp only
   rw [Qa (by omega)]
  ·rw [List.drop_eq_nil_of_le (by rw [List.length_take];omega),show valB LB []=0 from rfl]
   generalize ((LB^(off+j):Nat):Int)=p
   grind
 |
  f+1,j,c,s,hf,hs,hl,hc=>by
  have hj:j<d.length:=by omega
  have hjs:off+j<s.length:=by omega
  have h1:0<=d.getD j 0/\d.getD j 0<18446744073709551616:=Q2 (B:=LB) (by decide) hd j
  have h2:0<=s.getD (off+j) 0/\s.getD (off+j) 0<18446744073709551616:=Q2 (B:=LB) (by decide) hs (off+j)
  have hg:(d.take n).getD j 0=d.getD j 0:=Qa1 (by omega)
  obtain ⟨x,hx⟩:∃x,s.getD (off+j) 0+d.getD j 0+c=x:=⟨_,rfl⟩
  obtain ⟨low,hlow⟩:∃y,x%18446744073709551616=y:=⟨_,rfl⟩
  obtain ⟨hi,hhi⟩:∃y,x/18446744073709551616=y:=⟨_,rfl⟩
  have hxx:x=18446744073709551616*hi+low:=by rw [<-hlow,<-hhi];exact (Int.mul_ediv_add_emod x _).symm
  have hb1:0<=low/\low<18446744073709551616/\0<=hi/\hi<=1:=by omega
  obtain ⟨c',s',r1,r2,r3,r4,r6,r7,r8⟩:=Qqa (off:=off) hd hn hm hN f (j+1) hi (s.set (off+j) low) (by omega) (Yc hs ⟨hb1.1,hb1.2.1⟩) (by rw [List.length_set];exact hl) ⟨hb1.2.2.1,hb1.2.2.2⟩
  refine ⟨c',s',.step (λrec=>?_) r1,r2,by rw [r3,List.length_set],r4,by rw [r6,Qfd (by omega)],by rw [r7,Qgw (by omega)],?_⟩
  ·unfold z67.l0b4P
   simp only
   rw [bif_t (by omega),if_pos (by omega),Zi,Nat.zero_add,if_pos hj,if_pos (by omega),if_pos hjs,Qcq h2.1 h1.1 hc,hx,hlow,hhi]
   simp only [Zb]
   rw [if_pos (by omega),if_pos hjs,Qc (by omega) (by omega)]
   rfl
  ·rw [r8,Yl hjs,Wb (d.take n) j,hg]
   have e1:((LB^(off+(j+1)):Nat):Int)=18446744073709551616*(LB^(off+j):Nat):=by
    rw [<-Nat.add_assoc,Nat.pow_succ,Nat.mul_comm,Int.natCast_mul];rfl
   have e3:((LB:Nat):Int)=18446744073709551616:=rfl
   rw [e1,e3]
   have hx':low=s.getD (off+j) 0+d.getD j 0+c-18446744073709551616*hi:=by omega
   generalize ((LB^(off+j):Nat):Int)=p at *
   generalize ((LB^(off+n):Nat):Int)=p' at *
   generalize valB LB ((d.take n).drop (j+1))=w at *
   generalize valB LB s=V at *
   generalize s.getD (off+j) 0=y at *
   generalize d.getD j 0=e at *
   clear r1 r2 r3 r4 r6 r7 r8
   subst hx'
   grind
theorem Qeo (a b:Nat):((LB^(a+b):Nat):Int)=(LB^a:Nat)*(LB^b:Nat):=by
 rw [Nat.pow_add,Int.natCast_mul]
theorem Qkj (a:Nat):(0:Int)<(LB^a:Nat):=by exact_mod_cast Nat.pow_pos (by decide)
theorem Qqj {s s':List Int} {i:Nat} (hi:i<=s.length) (hi':i<=s'.length) (ht:s'.take i=s.take i) {v:Int} (hv:valB LB s'=valB LB s+v*(LB^i:Nat)):valB LB (s'.drop i)=valB LB (s.drop i)+v:=by
 rw [Qbt LB hi,Qbt LB hi',ht] at hv
 have hp:=Qkj i
 generalize ((LB^i:Nat):Int)=p at *
 generalize valB LB (s.take i)=w at *
 have:p*valB LB (s'.drop i)=p*(valB LB (s.drop i)+v):=by rw [Int.mul_add,Int.mul_comm p v];omega
 exact Int.eq_of_mul_eq_mul_left (Int.ne_of_gt hp) this
section
variable {n i:Nat} {d:List Int} {U D:Nat} (hn:2<=n) (hdl:n<=d.length) (hd:inB LB d) (hN:n<=800000000) (hD:(D:Int)=valB LB (d.take n)) (hD0:0<D)
include hn hdl hd hN hD hD0
omit hn hN hD0 in
theorem D_lt:(D:Int)<(LB^n:Nat):=by
 rw [hD]
 have:=Yb bL (Wo hd n)
 rwa [List.length_take,Nat.min_eq_left hdl] at this
theorem Q3x {u:List Int} (hu:inB LB u) (hiu:i+n<u.length) (hz:valB LB (u.drop (i+n+1))=0) (hlen:u.length<=900000000)
  (hU:(U:Int)=valB LB (u.drop i)) {k:Nat} (hk1:U/D<=k) (hk2:k<=U/D+1) (hkB:k<18446744073709551616) :
  ∃u',(∀{R:Type} (q:List Int) (rec:(Int×(List Int)×(List Int))->Option R),i<q.length->Qcw n d rec i u q k=rec ((i:Int)-1,u',q.set i ((U/D:Nat):Int)))/\inB LB u'/\u'.length=u.length/\u'.take i=u.take i/\valB LB (u'.drop i)=((U%D:Nat):Int):=by
 have e1:wr .i64 (wr .i64 ((i:Int)+(n:Int))+1)=((i+n+1:Nat):Int):=by
  rw [Qc (n:=(i:Int)+n) (by omega) (by omega),Qc (by omega) (by omega)];omega
 have e2:i+n+1-i=n+1:=by omega
 have hin:i+n<u.length:=hiu
 have hDlt:=D_lt hdl hd hD
 have hdm:=Nat.div_add_mod U D
 have hml:=Nat.mod_lt U hD0
 obtain ⟨Q,hQ⟩:∃Q,U/D=Q:=⟨_,rfl⟩
 obtain ⟨r,hr⟩:∃r,U%D=r:=⟨_,rfl⟩
 rw [hQ] at hk1 hk2 hdm ⊢
 rw [hr] at hdm hml ⊢
 have hUD:(U:Int)=D*Q+r:=by exact_mod_cast hdm.symm
 obtain ⟨c1,b1,s1,r1,r2,r3,r4,r5,r6,r7,r8⟩:=Qrm (off:=i) (m:=n+1) (k:=(k:Int)) ⟨by omega,by omega⟩ hd hdl (by omega) (by omega) n 0 0 0 u (by omega) hu (by omega) (by omega) (by omega)
 have hl1:i+n<s1.length:=by omega
 have er1:z67.l0b3 i (n+1) (k:Int) 0 n (n:Int) d ((0:Int),(0:Int),(0:Int),u)=some (c1,b1,(n:Int),s1):=r1.lfp
 have hx1:0<=s1.getD (i+n) 0/\s1.getD (i+n) 0<18446744073709551616:=Q2 (B:=LB) (by decide) r2 (i+n)
 obtain ⟨b2,hb2⟩:∃y:Int,(if s1.getD (i+n) 0<c1+b1 then (1:Int) else 0)=y:=⟨_,rfl⟩
 obtain ⟨z,hz2⟩:∃y:Int,(s1.getD (i+n) 0-c1-b1)%18446744073709551616=y:=⟨_,rfl⟩
 have hzz:z=s1.getD (i+n) 0-c1-b1+b2*18446744073709551616:=by
  rw [<-hz2,<-hb2];split<;>omega
 have hbb:b2=0\/b2=1:=by rw [<-hb2];split<;>omega
 have hzb:0<=z/\z<18446744073709551616:=by omega
 have hsub:z1.F (s1.getD (i+n) 0) c1 b1=some (z,b2):=by
  unfold z1.F;rw [if_pos (by omega),hz2,hb2]
 obtain ⟨s2,hs2⟩:∃s2,s1.set (i+n) z=s2:=⟨_,rfl⟩
 have g2:inB LB s2:=hs2▸Yc r2 hzb
 have gl2:s2.length=u.length:=by rw [<-hs2,List.length_set,r3]
 have gt2:s2.take i=u.take i:=by rw [<-hs2,Qfd (by omega),r6]
 have gd2:valB LB (s2.drop (i+n+1))=0:=by
  rw [<-hs2,Qgw (by omega),<-List.drop_drop,r7,List.drop_drop];exact hz
 have P1:((LB^(i+n+1):Nat):Int)=(LB^(i+n):Nat)*18446744073709551616:=Qeo (i+n) 1
 have gv2:valB LB s2=valB LB u+(-(k:Int)*D+b2*(LB^(n+1):Nat))*(LB^i:Nat):=by
  rw [<-hs2,Yl hl1,r8,hzz,List.drop_zero,<-hD]
  have e3:=Qeo i n
  have e4:=Qeo n 1
  have e5:((LB^1:Nat):Int)=18446744073709551616:=rfl
  rw [e5] at e4
  rw [Nat.add_zero,e3,e4]
  generalize ((LB^i:Nat):Int)=p
  generalize ((LB^n:Nat):Int)=p'
  grind
 have hv2:valB LB (s2.drop i)=(U:Int)-k*D+b2*(LB^(n+1):Nat):=by
  rw [Qqj (by omega) (by omega) gt2 gv2,<-hU]
  generalize b2*((LB^(n+1):Nat):Int)=y
  rw [Int.neg_mul];omega
 have hlt2:valB LB (s2.drop i)<(LB^(n+1):Nat):=by
  rw [Qd1 LB (l:=s2) (i:=i) (k:=n+1) (by omega),show i+(n+1)=i+n+1 by omega,gd2,Int.mul_zero,Int.add_zero]
  have:=Yb bL (Wo (Jb g2 i) (n+1))
  rwa [List.length_take,List.length_drop,Nat.min_eq_left (by omega)] at this
 have hge2:=Wm (Jb g2 i)
 have key:∃u',z67.l2 0 n i (n+1) d ((k:Int),b2,s2)=some ((Q:Int),(0:Int),u')/\inB LB u'/\u'.length=u.length/\u'.take i=u.take i/\valB LB (u'.drop i)=(r:Int):=by
  have stop:∀(k':Int) (s:List Int),z67.l2 0 n i (n+1) d (k',(0:Int),s)=some (k',(0:Int),s):=λk' s=>
   (Runs.done (F:=λrec x=>z67.l2P 0 n i (n+1) d rec some x) λrec=>by unfold z67.l2P;simp only [decide_true,Zn,Zc]).lfp
  rcases hbb with hb0|hb0
  ·
   subst hb0
   rw [Int.zero_mul,Int.add_zero] at hv2
   have hkQ:k=Q:=by
    have h1:k*D<=U:=by
     have:(k:Int)*D<=U:=by omega
     exact_mod_cast this
    have h2:=(Nat.le_div_iff_mul_le hD0).2 h1
    rw [hQ] at h2;omega
   subst hkQ
   exact ⟨s2,stop _ _,g2,gl2,gt2,by rw [hv2,hUD,Int.mul_comm];omega⟩
  ·subst hb0
   rw [Int.one_mul] at hv2
   have hkQ:k=Q+1:=by
    have h1:¬k*D<=U:=by
     intro h
     have:((k*D:Nat):Int)<=U:=Int.ofNat_le.2 h
     rw [Int.natCast_mul] at this
     omega
    have h2:¬k<=Q:=λh=>h1 (by rw [<-hQ] at h;exact (Nat.le_div_iff_mul_le hD0).1 h)
    omega
   obtain ⟨c3,s3,q1,q2,q3,q4,q5,q6,q7⟩:=Qqa (off:=i) (m:=n+1) hd hdl (by omega) (by omega) n 0 0 s2 (by omega) g2 (by omega) (by omega)
   have er3:z67.l0b4 i (n+1) 0 n (n:Int) d ((0:Int),(0:Int),s2)=some (c3,(n:Int),s3):=q1.lfp
   have hl3:i+n<s3.length:=by omega
   have hx3:0<=s3.getD (i+n) 0/\s3.getD (i+n) 0<18446744073709551616:=Q2 (B:=LB) (by decide) q2 (i+n)
   obtain ⟨e,he⟩:∃y:Int,(s3.getD (i+n) 0+c3)/18446744073709551616=y:=⟨_,rfl⟩
   obtain ⟨y,hy⟩:∃y:Int,wr .u64 (s3.getD (i+n) 0+c3)=y:=⟨_,rfl⟩
   have hyy:y=s3.getD (i+n) 0+c3-18446744073709551616*e:=by
    rw [<-hy,W1,<-he]
    have:=Int.mul_ediv_add_emod (s3.getD (i+n) 0+c3) 18446744073709551616
    omega
   have hyb:0<=y/\y<18446744073709551616:=by
    rw [<-hy,W1];omega
   obtain ⟨s4,hs4⟩:∃s4,s3.set (i+n) y=s4:=⟨_,rfl⟩
   have g4:inB LB s4:=hs4▸Yc q2 hyb
   have gl4:s4.length=u.length:=by rw [<-hs4,List.length_set,q3,gl2]
   have gt4:s4.take i=s2.take i:=by rw [<-hs4,Qfd (by omega),q5]
   have gd4:valB LB (s4.drop (i+n+1))=0:=by
    rw [<-hs4,Qgw (by omega),<-List.drop_drop,q6,List.drop_drop];exact gd2
   have gv4:valB LB s4=valB LB s2+((D:Int)-e*(LB^(n+1):Nat))*(LB^i:Nat):=by
    rw [<-hs4,Yl hl3,q7,hyy,List.drop_zero,<-hD]
    have e3:=Qeo i n
    have e4:=Qeo n 1
    have e5:((LB^1:Nat):Int)=18446744073709551616:=rfl
    rw [e5] at e4
    rw [Nat.add_zero,e3,e4]
    generalize ((LB^i:Nat):Int)=p
    generalize ((LB^n:Nat):Int)=p'
    grind
   have hv4:=Qqj (by omega) (by omega) gt4 gv4
   rw [hv2] at hv4
   have hlt4:valB LB (s4.drop i)<(LB^(n+1):Nat):=by
    rw [Qd1 LB (l:=s4) (i:=i) (k:=n+1) (by omega),show i+(n+1)=i+n+1 by omega,gd4,Int.mul_zero,Int.add_zero]
    have:=Yb bL (Wo (Jb g4 i) (n+1))
    rwa [List.length_take,List.length_drop,Nat.min_eq_left (by omega)] at this
   have hge4:=Wm (Jb g4 i)
   have hkD:(k:Int)*D=D*Q+D:=by rw [hkQ,Int.natCast_add,Int.add_mul,Int.mul_comm];simp
   have hPn:=Qkj (n+1)
   have hval:valB LB (s4.drop i)=(r:Int)+((LB^(n+1):Nat):Int)-e*(LB^(n+1):Nat):=by
    generalize e*((LB^(n+1):Nat):Int)=w at *
    omega
   have heb:e=0\/e=1:=by omega
   have he1:e=1:=by
    rcases heb with h|h
    ·subst h;rw [Int.zero_mul] at hval;omega
    ·exact h
   subst he1
   rw [Int.one_mul] at hval
   have hval':valB LB (s4.drop i)=(r:Int):=by omega
   have htop:s4.getD (i+n) 0=0:=Quq g4 (Qk1 g4 (by omega) (by rw [hval'];omega))
   refine ⟨s4,?_,g4,gl4,by rw [gt4,gt2],hval'⟩
   refine (Runs.step (F:=λrec x=>z67.l2P 0 n i (n+1) d rec some x) (y:=((Q:Int),(0:Int),s4)) (λrec=>?_) (.done λrec=>?_)).lfp
   ·unfold z67.l2P
    simp only
    rw [show (!decide ((1:Int)=0))=true from rfl,er3]
    simp only [Zb,Zd,Zi]
    have hcond:(s3.set (i+n) (wr .u64 (s3.getD (i+n) 0+c3))).getD (i+n) 0=0:=by rw [hy,hs4];exact htop
    rw [if_pos (by omega),if_pos hl3,if_pos (by omega),if_pos hl3,if_pos (by omega),if_pos (by rw [List.length_set];exact hl3),bif_t hcond,hy,hs4,Qq (n:=(k:Int)-1) (by omega) (by omega)]
    congr 2;omega
   ·unfold z67.l2P
    simp only [decide_true,Zn,Zc]
 obtain ⟨u',k1,k2,k3,k4,k5⟩:=key
 refine ⟨u',λ{R} q rec hiq=>?_,k2,k3,k4,k5⟩
 unfold Qcw
 rw [e1]
 simp only [Zi]
 rw [e2,er1]
 simp only [Zb]
 rw [if_pos (by omega),if_pos hl1,hsub]
 simp only [Zb]
 rw [if_pos (by omega),if_pos hl1,hs2,k1]
 simp only [Zb]
 rw [if_pos (by omega),if_pos hiq,Qc (by omega) (by omega)]
end
theorem Qld {R:Type} {n:Nat} {d:List Int} (hn:2<=n) (hdl:n<=d.length) (hN:n<=800000000) {d1 d2 third k r:Nat} (e1:d.getD (n-1) 0=(d1:Int)) (e2:d.getD (n-2) 0=(d2:Int)) (h1:d1<18446744073709551616) (h2:d2<18446744073709551616) (ht:third<18446744073709551616)
  (hk:k<18446744073709551616) (hr:r<18446744073709551616) (K:Int->Option R) (L:Int->Int->Option R) :
  Y8 n d third K L k r=if k*d2<=r*18446744073709551616+third then K k else if r+d1<18446744073709551616 then L ((k-1:Nat):Int) ((r+d1:Nat):Int) else K ((k-1:Nat):Int):=by
 have w1:wr .i64 ((n:Int)-1)=((n-1:Nat):Int):=by rw [Qc (by omega) (by omega)];omega
 have w2:wr .i64 ((n:Int)-2)=((n-2:Nat):Int):=by rw [Qc (by omega) (by omega)];omega
 have hmul:=Qkw (a:=(k:Int)) (b:=(d2:Int)) ⟨by omega,by omega⟩ ⟨by omega,by omega⟩
 have hnext:∀(k r:Nat),0<k->k<18446744073709551616->r<18446744073709551616->Qgn n d K L k r=if r+d1<18446744073709551616 then L ((k-1:Nat):Int) ((r+d1:Nat):Int) else K ((k-1:Nat):Int):=λk r h0 hk hr=>by
  unfold Qgn
  rw [w1,if_pos (by omega),Zi,Nat.zero_add,if_pos (by omega),e1,Qcq (by omega) (by omega) (by omega),Int.add_zero]
  simp only [Zb]
  have ew:wr .u64 ((k:Int)-1)=((k-1:Nat):Int):=by rw [Qq (by omega) (by omega)];omega
  rw [ew]
  by_cases h:r+d1<18446744073709551616
  ·rw [if_pos h,bif_t (by omega)]
   congr 1;omega
  ·rw [if_neg h,Qa (by omega)]
 unfold Y8
 rw [w2,if_pos (by omega),Zi,Nat.zero_add,if_pos (by omega),e2,hmul]
 simp only [Zb]
 have hp:(k:Int)*d2=((k*d2:Nat):Int):=(Int.natCast_mul _ _).symm
 rw [hp]
 obtain ⟨p,hpp⟩:∃p,k*d2=p:=⟨_,rfl⟩
 rw [hpp]
 by_cases hc:p<=r*18446744073709551616+third
 ·rw [if_pos hc]
  by_cases ha:(p:Int)/18446744073709551616<r
  ·rw [bif_t ha]
  ·rw [Qa ha,bif_t (by omega),bif_t (by omega)]
 ·rw [if_neg hc]
  have h0:0<k:=by
   rcases Nat.eq_zero_or_pos k with h|h
   ·subst h;rw [Nat.zero_mul] at hpp;omega
   ·exact h
  rw [Qa (by omega),hnext k r h0 hk hr]
  by_cases ha:(p:Int)/18446744073709551616=r
  ·rw [bif_t ha,Qa (by omega)]
  ·rw [Qa ha]
theorem Qxe {R:Type} {n:Nat} {d:List Int} (hn:2<=n) (hdl:n<=d.length) (hN:n<=800000000) {d1 d2 third U2 q0 r0 Q:Nat} (e1:d.getD (n-1) 0=(d1:Int)) (e2:d.getD (n-2) 0=(d2:Int)) (h1:d1<18446744073709551616) (h2:d2<18446744073709551616)
  (ht:third<18446744073709551616) (hDp:0<d1*18446744073709551616+d2) (hdm:q0*d1+r0=U2) (hml:r0<d1) (g1:q0<=Q+2) (g2:q0<18446744073709551616) (hge:Q<=q0) (hQ:(U2*18446744073709551616+third)/(d1*18446744073709551616+d2)=Q) (K:Int->Option R) (L:Int->Int->Option R) :
  Y8 n d third K (Y8 n d third K (Y8 n d third K L)) (q0:Int) (r0:Int)=K (Q:Int):=by
 have fin:∀{q r:Nat},q*d1+r=U2->Q<=q->q*d2<=r*18446744073709551616+third->q=Q:=λ{q r} a b c=>by
  rw [<-hQ];exact Qwe a hDp (by rw [hQ];exact b) c
 have more:∀{q r:Nat},q*d1+r=U2->¬q*d2<=r*18446744073709551616+third->Q<q:=λ{q r} a c=>by
  rw [<-hQ];exact Qwm a hDp (by omega)
 have next1:∀{q r:Nat},q*d1+r=U2->Q<q->(q-1)*d1+(r+d1)=U2:=λ{q r} a c=>by
  obtain ⟨k,rfl⟩:∃k,q=k+1:=⟨q-1,by omega⟩
  rw [Nat.add_mul,Nat.one_mul] at a
  simp only [Nat.add_sub_cancel]
  omega
 have over:∀{q r:Nat},q*d1+r=U2->Q<=q->q<18446744073709551616->18446744073709551616<=r->q=Q:=λ{q r} a b c e=>by
  refine fin a b ?_
  have m1:q*d2<=18446744073709551615*18446744073709551615:=Nat.mul_le_mul (by omega) (by omega)
  have m2:18446744073709551616*18446744073709551616<=r*18446744073709551616:=Nat.mul_le_mul_right _ e
  omega
 rw [Qld hn hdl hN e1 e2 h1 h2 ht g2 (by omega)]
 by_cases c1:q0*d2<=r0*18446744073709551616+third
 ·rw [if_pos c1,fin hdm hge c1]
 rw [if_neg c1]
 have m1:=more hdm c1
 have n1:=next1 hdm m1
 rcases Nat.lt_or_ge (r0+d1) 18446744073709551616 with o1|o1
 ·rw [if_pos o1,Qld hn hdl hN e1 e2 h1 h2 ht (by omega) o1]
  by_cases c2:(q0-1)*d2<=(r0+d1)*18446744073709551616+third
  ·rw [if_pos c2,fin n1 (by omega) c2]
  ·rw [if_neg c2]
   have m2:=more n1 c2
   have n2:=next1 n1 m2
   rcases Nat.lt_or_ge (r0+d1+d1) 18446744073709551616 with o2|o2
   ·rw [if_pos o2,Qld hn hdl hN e1 e2 h1 h2 ht (by omega) o2]
    by_cases c3:(q0-1-1)*d2<=(r0+d1+d1)*18446744073709551616+third
    ·rw [if_pos c3,fin n2 (by omega) c3]
    ·have m3:=more n2 c3
     omega
   ·rw [if_neg (by omega),over n2 (by omega) (by omega) o2]
 ·rw [if_neg (by omega),over n1 (by omega) (by omega) o1]
theorem Qub {R:Type} {n:Nat} {d:List Int} (hn:2<=n) (hdl:n<=d.length) (hN:n<=800000000) {d1 d2 top next third:Nat} (e1:d.getD (n-1) 0=(d1:Int)) (e2:d.getD (n-2) 0=(d2:Int)) (h1:d1<18446744073709551616) (hd1:18446744073709551616<=2*d1) (h2:d2<18446744073709551616)
  (hnx:next<18446744073709551616) (ht:third<18446744073709551616) (htop:top<d1) (K:Int->Option R) (L:Int->Int->Option R) :
  Y8 n d third K (Y8 n d third K (Y8 n d third K L)) (((top*18446744073709551616+next)/d1:Nat):Int) (((top*18446744073709551616+next)%d1:Nat):Int) =
   K (((((top*18446744073709551616+next)*18446744073709551616+third)/(d1*18446744073709551616+d2):Nat)):Int):=by
 obtain ⟨g1,g2⟩:=Qw0 (B:=18446744073709551616) (third:=third) hd1 h2 htop hnx
 exact Qxe hn hdl hN e1 e2 h1 h2 ht (by omega) (by rw [Nat.mul_comm];exact Nat.div_add_mod _ _) (Nat.mod_lt _ (by omega)) g1 g2 (Qo3 (U3:=top*18446744073709551616+next) (D2:=d1) (P:=18446744073709551616) ht h2 (by omega)) rfl K L
section
variable {n:Nat} {d:List Int} {D:Nat} (hn:2<=n) (hdl:n<=d.length) (hd:inB LB d) (hN:n<=800000000) (hD:(D:Int)=valB LB (d.take n)) (hD1:18446744073709551616<=2*d.getD (n-1) 0)
include hn hdl hd hN hD hD1
set_option maxRecDepth 100000 in
theorem Q1x {i U:Nat} {u:List Int} (hu:inB LB u) (hiu:i+n<u.length) (hz:valB LB (u.drop (i+n+1))=0) (hlen:u.length<=900000000)
  (hU:(U:Int)=valB LB (u.drop i)) (hUD:U<D*18446744073709551616) :
  ∃u',(∀{R:Type} (q:List Int) (rec done:(Int×(List Int)×(List Int))->Option R),i<q.length->z67.l0aaP 0 n d rec done ((i:Int),u,q)=rec ((i:Int)-1,u',q.set i ((U/D:Nat):Int)))/\inB LB u'/\u'.length=u.length/\u'.take i=u.take i/\valB LB (u'.drop i)=((U%D:Nat):Int)/\U/D<18446744073709551616:=by
 have e1:wr .i64 (wr .i64 ((i:Int)+(n:Int))+1)=((i+n+1:Nat):Int):=by
  rw [Qc (n:=(i:Int)+n) (by omega) (by omega),Qc (by omega) (by omega)];omega
 have e2:i+n+1-i=n+1:=by omega
 have w1:wr .i64 ((n:Int)-1)=((n-1:Nat):Int):=by rw [Qc (by omega) (by omega)];omega
 have w2:wr .i64 ((n:Int)-2)=((n-2:Nat):Int):=by rw [Qc (by omega) (by omega)];omega
 obtain ⟨d1,hd1,b1⟩:=limb hd (n-1)
 obtain ⟨d2,hd2,b2⟩:=limb hd (n-2)
 obtain ⟨top,ht,bt⟩:=limb hu (i+n)
 obtain ⟨next,hnx,bn⟩:=limb hu (i+n-1)
 obtain ⟨third,h3,b3⟩:=limb hu (i+n-2)
 rw [hd1] at hD1
 obtain ⟨dl,hdl'⟩:=Wc (Wm (Wo hd (n-2)))
 obtain ⟨ul,hul'⟩:=Wc (Wm (Wo (Jb hu i) (n-2)))
 have hdlt:dl<LB^(n-2):=by
  have:=Yb bL (Wo hd (n-2))
  rw [hdl',List.length_take,Nat.min_eq_left (by omega)] at this
  exact_mod_cast this
 have hult:ul<LB^(n-2):=by
  have:=Yb bL (Wo (Jb hu i) (n-2))
  rw [hul',List.length_take,List.length_drop,Nat.min_eq_left (by omega)] at this
  exact_mod_cast this
 have hDe:D=(d1*18446744073709551616+d2)*LB^(n-2)+dl:=by
  have h:=Qtm (l:=d.take n) hn (by rw [List.length_take];omega)
  rw [<-hD,Qa1 (by omega),Qa1 (by omega),hd1,hd2,List.take_take,Nat.min_eq_left (by omega),hdl'] at h
  refine Int.natCast_inj.1 ?_
  rw [h,Int.natCast_add,Int.natCast_mul,Int.natCast_add,Int.natCast_mul];rfl
 have hUe:U=((top*18446744073709551616+next)*18446744073709551616+third)*LB^(n-2)+ul:=by
  have h:=high hn hiu hz
  rw [<-hU,ht,hnx,h3,hul'] at h
  refine Int.natCast_inj.1 ?_
  rw [h,Int.natCast_add,Int.natCast_mul,Int.natCast_add,Int.natCast_mul,Int.natCast_add,Int.natCast_mul];rfl
 have hP:0<LB^(n-2):=Nat.pow_pos (by decide)
 have hD0:0<D:=by
  have:0<(d1*18446744073709551616+d2)*LB^(n-2):=Nat.mul_pos (by omega) hP
  omega
 have hQB:U/D<18446744073709551616:=Nat.div_lt_of_lt_mul hUD
 have tail:∀{k:Nat},U/D<=k->k<=U/D+1->k<18446744073709551616->_:=λ{k} a b c=>Q3x hn hdl hd hN hD hD0 hu hiu hz hlen hU a b c
 by_cases hc:d1<=top
 ·have g:=Qvp (B:=18446744073709551616) (d1:=d1) (d2:=d2) (top:=top) (next:=next) (third:=third) (P:=LB^(n-2)) (ul:=ul) (dl:=dl) (by omega) b2 hult hdlt hc (by rw [<-hUe,<-hDe];exact hUD)
  rw [<-hUe,<-hDe] at g
  obtain ⟨u',t1,t2,t3,t4,t5⟩:=tail (k:=18446744073709551615) g.1 g.2 (by decide)
  refine ⟨u',λ{R} q rec done hiq=>?_,t2,t3,t4,t5,hQB⟩
  rw [Qo7,bif_t (by omega),e1,if_pos (by omega),Zi i,Zi (i+n+1),Zi n,e2,if_pos (by omega),if_pos hiu,w1,if_pos (by omega),Zi (n-1),if_pos (by omega),w2,if_pos (by omega),Zi (n-2),Nat.zero_add,if_pos (by omega),if_pos (by omega),if_pos (by omega),ht,hd1,bif_t (by omega)]
  exact t1 q rec hiq
 ·have q3:((top*18446744073709551616+next)*18446744073709551616+third)/(d1*18446744073709551616+d2)<18446744073709551616:=by
   refine Nat.div_lt_of_lt_mul ?_
   have h1:(top+1)*18446744073709551616<=d1*18446744073709551616:=Nat.mul_le_mul_right _ (by omega)
   have h2:(top*18446744073709551616+next+1)*18446744073709551616<=(d1*18446744073709551616)*18446744073709551616:=Nat.mul_le_mul_right _ (by omega)
   rw [Nat.mul_comm]
   omega
  have ge:=Qo3 (U3:=(top*18446744073709551616+next)*18446744073709551616+third) (D2:=d1*18446744073709551616+d2) hult hdlt (by omega)
  have le:=Qwr (U3:=(top*18446744073709551616+next)*18446744073709551616+third) (D2:=d1*18446744073709551616+d2) hult hdlt (by omega) (B:=18446744073709551616) (by omega) q3
  rw [<-hUe,<-hDe] at ge le
  obtain ⟨u',t1,t2,t3,t4,t5⟩:=tail ge le q3
  refine ⟨u',λ{R} q rec done hiq=>?_,t2,t3,t4,t5,hQB⟩
  rw [Qo7,bif_t (by omega),e1,if_pos (by omega),Zi i,Zi (i+n+1),Zi n,e2,if_pos (by omega),if_pos hiu,w1,if_pos (by omega),Zi (n-1),if_pos (by omega),w2,if_pos (by omega),Zi (n-2),Nat.zero_add,if_pos (by omega),if_pos (by omega),if_pos (by omega),ht,hd1,Qa (by omega),if_pos (by omega),if_pos (by omega),show i+(n-1)=i+n-1 by omega,hnx,bits_Div64 (by omega) bn b1]
  simp only [Zb]
  rw [show i+(n-2)=i+n-2 by omega,h3,Qub hn hdl hN hd1 hd2 b1 (by omega) b2 bn b3 (by omega)]
  exact t1 q rec hiq
theorem Qn7 {a:List Int} {N:Nat} (ha:inB LB a) (hal:a.length<=900000000) (hNa:(N:Int)=valB LB a) :
  ∀
   (k:Nat),k+n<=a.length->∀(m:Nat) (u q:List Int),(m:Int)=valB LB (a.drop k)->inB LB u->u.length=a.length->u.take k=a.take k->valB LB (u.drop k)=((m%D:Nat):Int) ->
   q.length=a.length-n->inB LB q->valB LB (q.drop k)=((m/D:Nat):Int) ->
   ∃u' q',Runs (λrec x=>z67.l0aaP 0 n d rec some x) ((k:Int)-1,u,q) ((-1:Int),u',q')/\q'.length=a.length-n/\inB LB q'/\valB LB q'=((N/D:Nat):Int)/\inB LB u'/\u'.length=a.length/\valB LB u'=((N%D:Nat):Int)
 |
  0,hk,m,u,q,hm,hu,hul,hut,huv,hq,hqi,hqv=>by
  have:m=N:=by rw [List.drop_zero] at hm;omega
  subst this
  rw [List.drop_zero] at huv hqv
  refine ⟨u,q,.done λrec=>?_,hq,hqi,hqv,hu,hul,huv⟩
  unfold z67.l0aaP
  simp only
  rw [Qa (by omega)];rfl
 |
  k+1,hk,m,u,q,hm,hu,hul,hut,huv,hq,hqi,hqv=>by
  have hD0:0<D:=by
   rcases Nat.eq_zero_or_pos D with h|h
   ·exfalso
    subst h
    have h2:=Qtm (l:=d.take n) hn (by rw [List.length_take];omega)
    rw [<-hD,Qa1 (by omega),Qa1 (by omega)] at h2
    have h3:=Wm (Wo (Wo hd n) (n-2))
    have h4:=Q2 (B:=LB) (by decide) hd (n-2)
    have h5:=Qkj (n-2)
    have h6:=Int.mul_pos (show 0<d.getD (n-1) 0*18446744073709551616+d.getD (n-2) 0 by omega) h5
    omega
   ·exact h
  have hkq:k<q.length:=by omega
  obtain ⟨x,hx,hxb⟩:=limb ha k
  have hux:u.getD k 0=(x:Int):=by
   have h1:(u.take (k+1)).getD k 0=u.getD k 0:=Qa1 (by omega)
   have h2:(a.take (k+1)).getD k 0=a.getD k 0:=Qa1 (by omega)
   rw [<-h1,hut,h2,hx]
  obtain ⟨r,hr⟩:∃r,m%D=r:=⟨_,rfl⟩
  have hrD:r<D:=hr▸Nat.mod_lt m hD0
  obtain ⟨y,hy⟩:∃y,m/D=y:=⟨_,rfl⟩
  rw [hr] at huv;rw [hy] at hqv
  have hDlt:=D_lt hdl hd hD
  have hUv:((x+18446744073709551616*r:Nat):Int)=valB LB (u.drop k):=by
   rw [Wb,hux,huv,Int.natCast_add,Int.natCast_mul]
  have hz:valB LB (u.drop (k+n+1))=0:=by
   rw [show k+n+1=k+1+n by omega]
   exact Qk1 hu (by omega) (by rw [huv];omega)
  have hUD:x+18446744073709551616*r<D*18446744073709551616:=by
   have:(r+1)*18446744073709551616<=D*18446744073709551616:=Nat.mul_le_mul_right _ hrD
   omega
  have hmm:D*y+r=m:=by rw [<-hy,<-hr];exact Nat.div_add_mod m D
  have hm':((x+LB*m:Nat):Int)=valB LB (a.drop k):=by rw [Wb,hx,<-hm,Int.natCast_add,Int.natCast_mul]
  have e:x+LB*m=x+18446744073709551616*r+D*(LB*y):=by
   have h4:D*(LB*y)=LB*(D*y):=by rw [<-Nat.mul_assoc,Nat.mul_comm D LB,Nat.mul_assoc]
   have h5:LB*m=LB*(D*y)+LB*r:=by rw [<-hmm,Nat.mul_add]
   rw [h4,h5]
   have:LB*r=18446744073709551616*r:=rfl
   omega
  have hdiv:(x+LB*m)/D=(x+18446744073709551616*r)/D+LB*y:=by rw [e,Nat.add_mul_div_left _ _ hD0]
  have hmod:(x+LB*m)%D=(x+18446744073709551616*r)%D:=by rw [e,Nat.add_mul_mod_self_left]
  have hQB:(x+18446744073709551616*r)/D<18446744073709551616:=Nat.div_lt_of_lt_mul hUD
  obtain ⟨u0,t1,t2,t3,t4,t5,_⟩:=Q1x hn hdl hd hN hD hD1 hu (show k+n<u.length by omega) hz (by omega) hUv hUD
  have hvq:valB LB ((q.set k (((x+18446744073709551616*r)/D:Nat):Int)).drop k)=(((x+LB*m)/D:Nat):Int):=by
   rw [Wb,Qfj,hqv,hdiv]
   have:(q.set k (((x+18446744073709551616*r)/D:Nat):Int)).getD k 0=(((x+18446744073709551616*r)/D:Nat):Int):=by simp [List.getD,hkq]
   rw [this,Int.natCast_add,Int.natCast_mul]
  obtain ⟨u',q',r1,r2,r3,r4,r5,r6,r7⟩:=Qn7 ha hal hNa k (by omega) (x+LB*m) u0 (q.set k (((x+18446744073709551616*r)/D:Nat):Int)) hm' t2 (by omega) (by
   rw [t4]
   have h1:=congrArg (List.take k) hut
   rw [List.take_take,List.take_take,Nat.min_eq_left (by omega)] at h1
   exact h1) (by rw [t5,hmod]) (by rw [List.length_set];exact hq) (Yc hqi ⟨Int.natCast_nonneg _,Int.ofNat_lt.2 hQB⟩) hvq
  refine ⟨u',q',.step (λrec=>?_) r1,r2,r3,r4,r5,r6,r7⟩
  have ek:((k+1:Nat):Int)-1=(k:Int):=by omega
  rw [ek]
  exact t1 q rec some hkq
end
theorem Qb0 {k:Nat} (hk:k<=64):2^(64-k)*2^k=18446744073709551616:=by rw [<-Nat.pow_add,show 64-k+k=64 by omega]
theorem Qh6 {c w k:Nat} (hk:k<=64) (hc:c<2^k) (hw:w<2^(64-k)):wr .u64 ((BitVec.ofInt (IntKind.bits .u64) (c:Int) ||| BitVec.ofInt (IntKind.bits .u64) ((w*2^k:Nat):Int)).toNat:Int)=((w*2^k+c:Nat):Int)/\w*2^k+c<18446744073709551616:=by
 have h:w*2^k+c<18446744073709551616:=by
  have h1:(w+1)*2^k<=2^(64-k)*2^k:=Nat.mul_le_mul_right _ hw
  rw [Qb0 hk,Nat.add_mul,Nat.one_mul] at h1
  omega
 rw [BitVec.or_comm]
 exact ⟨Ql5 hc h,h⟩
theorem Qin {x k:Nat} (hk:k<=64):x*2^k%18446744073709551616=x%2^(64-k)*2^k:=by
 rw [<-Qb0 hk,Nat.mul_mod_mul_right]
theorem Qmi {a:List Int} {k:Nat} (hk:k<=63) (ha:inB LB a) (hal:a.length<=900000000):∀(f i:Nat) (s:List Int),i+f=a.length->inB LB s->s.length=a.length+1->(∀j,i<j->s.getD j 0=0)->s.getD i 0<(2^k:Nat)->valB LB s=(2^k:Nat)*valB LB (a.take i) ->
  ∃s',Runs (λrec x=>z67.l0P (k:Int) a (a.length:Int) rec some x) ((i:Int),s) ((a.length:Int),s')/\inB LB s'/\s'.length=a.length+1/\valB LB s'=(2^k:Nat)*valB LB a
 |
  0,i,s,hf,hs,hl,hz,hc,hv=>by
  have:i=a.length:=by omega
  subst this
  refine ⟨s,.done λrec=>?_,hs,hl,by rwa [List.take_length] at hv⟩
  unfold z67.l0P
  simp only
  rw [Qa (by omega)]
 |
  f+1,i,s,hf,hs,hl,hz,hc,hv=>by
  have hi:i<a.length:=by omega
  obtain ⟨x,hx,hxb⟩:=limb ha i
  obtain ⟨c,hcs,hcb⟩:=limb hs i
  rw [hcs] at hc
  have hc':c<2^k:=by exact_mod_cast hc
  have hp:=Nat.two_pow_pos k
  have hp':=Nat.two_pow_pos (64-k)
  have hw:=Nat.mod_lt x hp'
  obtain ⟨o1,o2⟩:=Qh6 (by omega) hc' hw
  have hmod:=Qin (x:=x) (show k<=64 by omega)
  have hparts:=Qsl (hi:=0) (lo:=x) (s:=k) (by omega)
  rw [Nat.zero_mul,Nat.zero_mul,Nat.zero_add,Nat.zero_add,hmod] at hparts
  have hxd:x/2^(64-k)<2^k:=by
   refine Nat.div_lt_of_lt_mul ?_
   rw [Qb0 (by omega)];exact hxb
  have hkB:2^k<=9223372036854775808:=Nat.pow_le_pow_right (n:=2) (by decide) hk
  generalize x%2^(64-k)=w at *
  obtain ⟨h,hh⟩:∃h,x/2^(64-k)=h:=⟨_,rfl⟩
  rw [hh] at hxd hparts
  obtain ⟨nw,hnw⟩:∃nw,w*2^k+c=nw:=⟨_,rfl⟩
  rw [hnw] at o1 o2
  have e1:wr .u64 ((x:Int)*2^k)=((w*2^k:Nat):Int):=by
   rw [show (x:Int)*2^k=((x*2^k:Nat):Int) by push_cast;rfl,W1,<-hmod];rfl
  have e2:wr .u64 ((64:Int)-k)=((64-k:Nat):Int):=by rw [Qq (by omega) (by omega)];omega
  have e3:min k 64=k:=by omega
  have e4:min (64-k) 64=64-k:=by omega
  have his:i<s.length:=by omega
  have his':i+1<(s.set i (nw:Int)).length:=by rw [List.length_set];omega
  obtain ⟨s',r1,r2,r3,r4⟩:=Qmi hk ha hal f (i+1) ((s.set i (nw:Int)).set (i+1) (h:Int)) (by omega) (Yc (Yc hs ⟨Int.natCast_nonneg _,Int.ofNat_lt.2 (show nw<18446744073709551616 from o2)⟩) ⟨Int.natCast_nonneg _,Int.ofNat_lt.2 (show h<18446744073709551616 by omega)⟩) (by rw [List.length_set,List.length_set];exact hl)
   (λj hj=>by rw [Qbc (by omega),Qbc (by omega)];exact hz j (by omega))
   (by
    have:((s.set i (nw:Int)).set (i+1) (h:Int)).getD (i+1) 0=(h:Int):=by
     rw [List.length_set] at his'
     simp [List.getD,his']
    rw [this];exact_mod_cast hxd)
   (by
    rw [Yl his',Yl his,Qbc (by omega),hz (i+1) (by omega),hcs,hv,Yp hi,<-Wa hi,hx]
    have e5:((LB^(i+1):Nat):Int)=18446744073709551616*(LB^i:Nat):=by
     rw [Nat.pow_succ,Nat.mul_comm,Int.natCast_mul];rfl
    have e6:(nw:Int)=w*(2^k:Nat)+c:=by rw [<-hnw,Int.natCast_add,Int.natCast_mul]
    have e7:(x:Int)*(2^k:Nat)=h*18446744073709551616+w*(2^k:Nat):=by
     have:=congrArg (λn:Nat=>(n:Int)) hparts
     simp only [Int.natCast_add,Int.natCast_mul] at this
     exact this
    rw [e5,e6]
    generalize ((LB^i:Nat):Int)=p
    generalize ((2^k:Nat):Int)=t at *
    generalize valB LB (a.take i)=v
    grind)
  refine ⟨s',.step (λrec=>?_) r1,r2,r3,r4⟩
  have ek:wr .i64 ((i:Int)+1)=((i+1:Nat):Int):=by rw [Qc (by omega) (by omega)];rfl
  unfold z67.l0P
  simp only [ek,e2]
  rw [bif_t (by omega),if_pos (by omega),if_pos (by omega),Zi i,if_pos his,if_pos (by omega),if_pos (by omega),if_pos his,if_pos (by omega),Zi k,e3,hx,hcs,e1,o1,if_pos (by rw [List.length_set];omega),Zi (i+1),if_pos his',Zi (64-k),e4,Qam,hh]
theorem Qqw {a:List Int} {k:Nat} (hk:k<=63) (ha:inB LB a) (hal:a.length<=900000000):∃s,z67.l0 (k:Int) a (a.length:Int) ((0:Int),List.replicate (a.length+1) (0:Int))=some ((a.length:Int),s)/\z67.l0a (k:Int) a (a.length:Int) ((0:Int),List.replicate (a.length+1) (0:Int))=some ((a.length:Int),s)/\inB LB s/\s.length=a.length+1/\valB LB s=(2^k:Nat)*valB LB a:=by
 have hp:=Nat.two_pow_pos k
 obtain ⟨s,r1,r2,r3,r4⟩:=Qmi hk ha hal a.length 0 (List.replicate (a.length+1) 0) (by omega) (Qa4 (by decide) _) (by simp) (λj _=>Qdx _ j) (by rw [Qdx];omega) (by rw [Qca];simp [valB])
 exact ⟨s,r1.lfp,r1.lfp,r2,r3,r4⟩
def shrL (k:Nat):List Int->List Int
 |[]=>[]
 |[x]=>[x/(2^k:Nat)]
 |x::y::l=>(y*(2^(64-k):Nat)%18446744073709551616+x/(2^k:Nat))::shrL k (y::l)
theorem Qp9 (k:Nat):∀l:List Int,(shrL k l).length=l.length
 |[]=>rfl
 |[x]=>rfl
 |x::y::l=>by simp [shrL,Qp9 k (y::l)]
theorem Qo4 {k:Nat} (hk:k<=63):∀{l:List Int},inB LB l->valB LB (shrL k l)=valB LB l/(2^k:Nat)
 |[],_=>by simp [shrL,valB]
 |[x],h=>by simp [shrL,valB]
 |
  x::y::l,h=>by
  rw [Wt] at h
  have ih:=Qo4 hk h.2
  have hp:(0:Int)<(2^k:Nat):=by exact_mod_cast Nat.two_pow_pos k
  have hp':(0:Int)<(2^(64-k):Nat):=by exact_mod_cast Nat.two_pow_pos (64-k)
  have hB:((2^(64-k):Nat):Int)*(2^k:Nat)=18446744073709551616:=by
   rw [<-Int.natCast_mul,Qb0 (by omega)];rfl
  show y*(2^(64-k):Nat)%18446744073709551616+x/(2^k:Nat)+(LB:Nat)*valB LB (shrL k (y::l))=(x+(LB:Nat)*valB LB (y::l))/(2^k:Nat)
  rw [ih]
  have hW:valB LB (y::l)=y+(LB:Nat)*valB LB l:=rfl
  have e:((LB:Nat):Int)=18446744073709551616:=rfl
  rw [e] at hW ⊢
  generalize valB LB (y::l)=W at *
  generalize valB LB l=W' at *
  generalize ((2^k:Nat):Int)=p at *
  generalize ((2^(64-k):Nat):Int)=p' at *
  have e1:(x+18446744073709551616*W)/p=x/p+p'*W:=by
   rw [<-hB,Int.mul_right_comm,Int.mul_comm (p'*W) p,Int.add_mul_ediv_left _ _ (Int.ne_of_gt hp)]
  have e2:p'*W/18446744073709551616=W/p:=by
   rw [<-hB,Int.mul_ediv_mul_of_pos _ _ hp']
  have e3:p'*W%18446744073709551616=y*p'%18446744073709551616:=by
   rw [hW,Int.mul_add,Int.mul_left_comm p',Int.add_mul_emod_self_left,Int.mul_comm]
  have e4:=Int.mul_ediv_add_emod (p'*W) 18446744073709551616
  rw [e2,e3] at e4
  rw [e1]
  omega
theorem Qmb {k:Nat} (hk:k<=63):∀(l P:List Int),inB LB l->P.length+l.length<=900000000 ->
  Runs (λrec x=>z66.l0P 0 (P.length+l.length) (k:Int) ((P.length+l.length:Nat):Int) rec some x) ((P.length:Int),P++l) (((P.length+l.length:Nat):Int),P++shrL k l)
 |
  [],P,_,_=>by
  refine .done λrec=>?_
  unfold z66.l0P
  simp only [List.length_nil,Nat.add_zero]
  rw [Qa (by omega)];rfl
 |
  x::l,P,h,hl=>by
  rw [Wt] at h
  simp only [List.length_cons] at hl ⊢
  obtain ⟨n,hn⟩:=Wc h.1.1
  have hnb:n<18446744073709551616:=by have:=h.1.2;rw [hn] at this;exact_mod_cast this
  have g1:(P++x::l).getD P.length 0=(n:Int):=by rw [<-hn];simp [List.getD]
  have e0:min k 64=k:=by omega
  have e2:wr .u64 ((64:Int)-k)=((64-k:Nat):Int):=by rw [Qq (by omega) (by omega)];omega
  have e4:min (64-k) 64=64-k:=by omega
  have ek:wr .i64 ((P.length:Int)+1)=((P.length+1:Nat):Int):=by rw [Qc (by omega) (by omega)];rfl
  have hset:∀v:Int,(P++x::l).set P.length v=P++v::l:=λv=>by simp
  have hlen:∀v:Int,(P++v::l).length=P.length+(l.length+1):=λv=>by simp
  have hp:=Nat.two_pow_pos k
  have hnk:n/2^k<2^(64-k):=by
   refine Nat.div_lt_of_lt_mul ?_
   rw [Nat.mul_comm,Qb0 (by omega)];exact hnb
  cases l with
  |
   nil=>
   simp only [List.length_nil,Nat.zero_add] at hl hlen ⊢
   refine .step (y:=(((P.length+1:Nat):Int),P++[x/(2^k:Nat)])) (λrec=>?_) (.done λrec=>?_)
   ·unfold z66.l0P
    simp only [Nat.zero_add,ek]
    rw [bif_t (by omega),if_pos (by omega),Zi P.length,if_pos (by rw [hlen];omega),if_pos (by omega),if_pos (by omega),if_pos (by rw [hlen];omega),Qa (by omega),g1,Zi k,e0,Qam,hset,hn]
    rfl
   ·unfold z66.l0P
    simp only [Nat.zero_add]
    rw [Qa (by omega)];rfl
  |
   cons y l=>
   have hy:=h.2
   rw [Wt] at hy
   obtain ⟨m,hm⟩:=Wc hy.1.1
   have hmb:m<18446744073709551616:=by have:=hy.1.2;rw [hm] at this;exact_mod_cast this
   have ih:=Qmb hk (y::l) (P++[y*(2^(64-k):Nat)%18446744073709551616+x/(2^k:Nat)]) h.2 (by simp only [List.length_append,List.length_cons,List.length_nil] at hl ⊢;omega)
   simp only [List.length_append,List.length_cons,List.length_nil,List.append_assoc,List.singleton_append] at ih
   rw [show P.length+(0+1)+(l.length+1)=P.length+(l.length+1+1) by omega,show P.length+(0+1)=P.length+1 by omega] at ih
   refine .step (λrec=>?_) ih
   have g2:∀v:Int,(P++v::y::l).getD (P.length+1) 0=(m:Int):=λv=>by rw [<-hm];simp [List.getD]
   have g3:∀v:Int,(P++v::y::l).getD P.length 0=v:=λv=>by simp [List.getD]
   have hset2:∀v w:Int,(P++v::y::l).set P.length w=P++w::y::l:=λv w=>by simp
   have hmm:=Qin (x:=m) (k:=64-k) (by omega)
   rw [show 64-(64-k)=k by omega] at hmm
   have hmk:=Nat.mod_lt m hp
   obtain ⟨o1,_⟩:=Qh6 (c:=n/2^k) (w:=m%2^k) (k:=64-k) (by omega) hnk (by rw [show 64-(64-k)=k by omega];exact hmk)
   have e5:wr .u64 ((m:Int)*2^(64-k))=((m%2^k*2^(64-k):Nat):Int):=by
    rw [show (m:Int)*2^(64-k)=((m*2^(64-k):Nat):Int) by push_cast;rfl,W1,<-hmm];rfl
   have e6:y*(2^(64-k):Nat)%18446744073709551616+x/(2^k:Nat)=((m%2^k*2^(64-k)+n/2^k:Nat):Int):=by
    rw [hm,hn,Int.natCast_add,<-hmm];rfl
   simp only [List.length_cons] at hlen
   unfold z66.l0P
   simp only [Nat.zero_add,ek,e2,List.length_cons]
   rw [bif_t (by omega),if_pos (by omega),Zi P.length,if_pos (by rw [hlen];omega),if_pos (by omega),if_pos (by omega),if_pos (by rw [hlen];omega),bif_t (by omega),g1,Zi k,e0,Qam,hset,if_pos (by omega),if_pos (by rw [hlen];omega),if_pos (by omega),Zi (P.length+1),if_pos (by rw [hlen];omega),if_pos (by omega),if_pos (by omega),if_pos (by rw [hlen];omega),g2,g3,hset2,Zi (64-k),e4,e5,o1,e6]
theorem quot_Shr {v k:Nat} (hk:k<=63) (hl:(lb v).length<=800000000):z66.F (lb v) (k:Int)=some (lb (v/2^k),0):=by
 have ht:Int.tdiv (k:Int) 64=0:=by rw [Yd (by omega)];omega
 have hm:Int.tmod (k:Int) 64=(k:Int):=by rw [Yk (by omega)];omega
 have h0:wr .i64 0=0:=by decide
 have hw:wr .u64 (k:Int)=(k:Int):=Qq (by omega) (by omega)
 have hi:(if (((lb v).length:Nat):Int)<0 then (((lb v).length:Nat):Int) else (0:Int))=0:=by rw [if_neg (by omega)]
 have hr:=(Qmb hk (lb v) [] (Qx bL v) (by simp only [List.length_nil];omega)).lfp
 simp only [List.length_nil,Nat.zero_add,List.nil_append] at hr
 have er:z66.l0 0 (lb v).length (k:Int) (((lb v).length:Nat):Int) ((0:Int),lb v)=some ((((lb v).length:Nat):Int),shrL k (lb v)):=hr
 have hv:=Qo4 hk (Qx bL v)
 rw [Q8 bL] at hv
 have hlen:=Qp9 k (lb v)
 have hval:∀i:Nat,(shrL k (lb v)).getD i 0=(shrL k (lb v)).getD i 0:=λ_=>rfl
 have hin:inB LB (shrL k (lb v)):=by
  have key:∀l:List Int,inB LB l->inB LB (shrL k l):=by
   intro l
   induction l with
   |nil=>intro _;exact inB_nil _
   |
    cons x l ih=>
    intro h
    rw [Wt] at h
    obtain ⟨n,hn⟩:=Wc h.1.1
    have hnb:n<18446744073709551616:=by have:=h.1.2;rw [hn] at this;exact_mod_cast this
    have hp:=Nat.two_pow_pos k
    have hnk:n/2^k<2^(64-k):=by
     refine Nat.div_lt_of_lt_mul ?_
     rw [Nat.mul_comm,Qb0 (by omega)];exact hnb
    cases l with
    |
     nil=>
     refine Wt.2 ⟨⟨?_,?_⟩,inB_nil _⟩
     ·rw [hn];exact Int.natCast_nonneg (n/2^k)
     ·rw [hn]
      have:=Nat.div_le_self n (2^k)
      exact Int.ofNat_lt.2 (show n/2^k<18446744073709551616 by omega)
    |
     cons y l=>
     have hy:=h.2
     rw [Wt] at hy
     obtain ⟨m,hm⟩:=Wc hy.1.1
     have hmm:=Qin (x:=m) (k:=64-k) (by omega)
     rw [show 64-(64-k)=k by omega] at hmm
     have hmk:=Nat.mod_lt m hp
     obtain ⟨_,o2⟩:=Qh6 (c:=n/2^k) (w:=m%2^k) (k:=64-k) (by omega) hnk (by rw [show 64-(64-k)=k by omega];exact hmk)
     have e6:y*(2^(64-k):Nat)%18446744073709551616+x/(2^k:Nat)=((m%2^k*2^(64-k)+n/2^k:Nat):Int):=by
      rw [hm,hn,Int.natCast_add,<-hmm];rfl
     refine Wt.2 ⟨?_,ih h.2⟩
     rw [e6]
     exact ⟨Int.natCast_nonneg _,Int.ofNat_lt.2 o2⟩
  exact key _ (Qx bL v)
 unfold z66.F z65.F
 rw [Qa (by omega),Zf (by omega)]
 simp only [Zb,Zc]
 rw [ht,hm,h0,hw,hi,if_pos (by omega),if_pos (by omega)]
 simp only [Int.toNat_zero,Nat.sub_zero]
 rw [er]
 simp only [Zb,List.drop_zero]
 rw [List.take_of_length_le (by omega),Qdl hin (by show List.length _<=_;omega),hv]
 simp only [Zb]
 congr 3
theorem Qew (n:Nat):inB LB (lb n):=Qx bL n
theorem Qw1 {x s:Nat} (hs:s<=63) (h:x*2^s<18446744073709551616):(x+1)*2^s<=18446744073709551616:=by
 rw [<-Qb0 (show s<=64 by omega)] at h ⊢
 have:=Nat.lt_of_mul_lt_mul_right h
 exact Nat.mul_le_mul_right _ (by omega)
theorem Qwh {a b:Nat} (hb:2<=(lb b).length) (hab:(lb b).length<=(lb a).length) (hl:(lb a).length<=700000000) :
  ∃q,z67.F (lb a) (lb b)=some (q,lb (a%b))/\inB LB q/\q.length<=900000000/\valB LB q=((a/b:Nat):Int):=by
 obtain ⟨n,hn⟩:∃n,(lb b).length=n:=⟨_,rfl⟩
 obtain ⟨la,hla⟩:∃n,(lb a).length=n:=⟨_,rfl⟩
 have hb0:0<b:=by
  rcases Nat.eq_zero_or_pos b with h|h
  ·subst h;rw [lb_zero] at hb;simp at hb
  ·exact h
 obtain ⟨x,hx,hxb⟩:=limb (Qew b) (n-1)
 have hsplit:=Qbt LB (l:=lb b) (k:=n-1) (by omega)
 have hd1:=Wb (B:=LB) (lb b) (n-1)
 rw [show n-1+1=n by omega,show List.drop n (lb b)=[] from List.drop_eq_nil_of_le (by omega),show valB LB []=0 from rfl,Int.mul_zero,Int.add_zero,hx] at hd1
 rw [Q8 bL,hd1] at hsplit
 have hlow:=Yb bL (Wo (Qew b) (n-1))
 rw [List.length_take,Nat.min_eq_left (by omega)] at hlow
 have hlow0:=Wm (Wo (Qew b) (n-1))
 obtain ⟨bl,hbl⟩:=Wc hlow0
 rw [hbl] at hsplit hlow
 have hbe:b=LB^(n-1)*x+bl:=by
  have:(b:Int)=((LB^(n-1)*x+bl:Nat):Int):=by rw [hsplit,Int.natCast_add,Int.natCast_mul];omega
  exact_mod_cast this
 have hblt:bl<LB^(n-1):=by exact_mod_cast hlow
 have hx0:0<x:=by
  have hne:lb b≠[]:=λe=>by rw [e] at hb;simp at hb
  have h1:(lb b).getLast hne≠0:=Qi4 bL b hne
  rw [List.getLast_eq_getElem] at h1
  have e:(lb b).getD ((lb b).length-1) 0=(lb b)[(lb b).length-1]'(by omega):=by simp [List.getD,show (lb b).length-1<(lb b).length by omega]
  have hx':(lb b).getD ((lb b).length-1) 0=(x:Int):=by rw [hn];exact hx
  rw [hx'] at e
  rcases Nat.eq_zero_or_pos x with h|h
  ·subst h;exact absurd e.symm h1
  ·exact h
 obtain ⟨s,hs,s1,s2,hlead⟩:=Qpw hx0 hxb
 have hp:=Nat.two_pow_pos s
 obtain ⟨u0,mu,_,iu,lu,vu⟩:=Qqw hs (Qew a) (by omega)
 obtain ⟨d0,_,md,id,ld,vd⟩:=Qqw hs (Qew b) (by omega)
 rw [Q8 bL] at vu vd
 rw [hla] at mu lu
 rw [hn] at md ld
 obtain ⟨P,hP⟩:∃P,LB^(n-1)=P:=⟨_,rfl⟩
 have hPp:0<P:=hP▸Nat.pow_pos (by decide)
 have hPn:LB^n=P*18446744073709551616:=by
  rw [<-hP,show n=n-1+1 by omega,Nat.pow_succ];simp
 rw [hP] at hbe hblt
 have hDlt:b*2^s<LB^n:=by
  have h1:b<P*(x+1):=by rw [Nat.mul_add,Nat.mul_one];omega
  have h2:b*2^s<P*(x+1)*2^s:=Nat.mul_lt_mul_of_pos_right h1 hp
  have h3:P*((x+1)*2^s)<=P*18446744073709551616:=Nat.mul_le_mul_left _ (Qw1 hs s2)
  rw [Nat.mul_assoc] at h2
  omega
 have hDge:P*9223372036854775808<=b*2^s:=by
  have h1:P*x*2^s<=b*2^s:=Nat.mul_le_mul_right _ (by omega)
  have h2:P*9223372036854775808<=P*(x*2^s):=Nat.mul_le_mul_left _ s1
  rw [Nat.mul_assoc] at h1
  omega
 have hvd:valB LB d0=((b*2^s:Nat):Int):=by rw [vd,Int.natCast_mul,Int.mul_comm]
 have hvu:valB LB u0=((a*2^s:Nat):Int):=by rw [vu,Int.natCast_mul,Int.mul_comm]
 have hd0z:valB LB (d0.drop n)=0:=by
  have:=Qk1 id (i:=0) (n:=n) (by omega) (by rw [List.drop_zero,hvd];exact Int.ofNat_lt.2 hDlt)
  rwa [Nat.zero_add] at this
 have hD:((b*2^s:Nat):Int)=valB LB (d0.take n):=by
  rw [<-hvd,Qbt LB (l:=d0) (k:=n) (by omega),hd0z,Int.mul_zero,Int.add_zero]
 have hD1:18446744073709551616<=2*d0.getD (n-1) 0:=by
  obtain ⟨t,ht,htb⟩:=limb id (n-1)
  have h1:=Qbt LB (l:=d0) (k:=n-1) (by omega)
  have h2:=Wb (B:=LB) d0 (n-1)
  rw [show n-1+1=n by omega,hd0z,Int.mul_zero,Int.add_zero,ht] at h2
  rw [hvd,h2] at h1
  have h3:=Yb bL (Wo id (n-1))
  rw [List.length_take,Nat.min_eq_left (by omega)] at h3
  obtain ⟨w,hw⟩:=Wc (Wm (Wo id (n-1)))
  rw [hw,hP] at h1 h3
  have h4:b*2^s=P*t+w:=by
   have:((b*2^s:Nat):Int)=((P*t+w:Nat):Int):=by rw [h1,Int.natCast_add,Int.natCast_mul];omega
   exact Int.natCast_inj.1 this
  have h5:w<P:=by exact_mod_cast h3
  have h6:P*9223372036854775808<P*(t+1):=by rw [Nat.mul_add,Nat.mul_one];omega
  have h7:=Nat.lt_of_mul_lt_mul_left h6
  rw [ht];omega
 have hD0:0<b*2^s:=Nat.mul_pos hb0 hp
 obtain ⟨m,hm⟩:=Wc (Wm (Jb iu (la+1-n)))
 have hmD:m<b*2^s:=by
  have h1:=Qbt LB (l:=u0) (k:=la+1-n) (by omega)
  rw [hvu,hm] at h1
  obtain ⟨w,hw⟩:=Wc (Wm (Wo iu (la+1-n)))
  rw [hw] at h1
  have h2:a*2^s=w+LB^(la+1-n)*m:=by
   have:((a*2^s:Nat):Int)=((w+LB^(la+1-n)*m:Nat):Int):=by rw [h1,Int.natCast_add,Int.natCast_mul]
   exact Int.natCast_inj.1 this
  have h3:a<LB^la:=hla▸Qbx bL
  have h4:LB^la=LB^(la+1-n)*P:=by rw [<-hP,<-Nat.pow_add];congr 1;omega
  have h5:a*2^s<LB^(la+1-n)*P*2^s:=by rw [<-h4];exact Nat.mul_lt_mul_of_pos_right h3 hp
  rw [Nat.mul_assoc] at h5
  have h6:LB^(la+1-n)*m<LB^(la+1-n)*(P*2^s):=by omega
  have h7:=Nat.lt_of_mul_lt_mul_left h6
  have h8:P*2^s<=P*9223372036854775808:=Nat.mul_le_mul_left _ (Nat.pow_le_pow_right (n:=2) (by decide) hs)
  omega
 obtain ⟨u',q',r1,r2,r3,r4,r5,r6,r7⟩:=Qn7 (n:=n) (d:=d0) (D:=b*2^s) (by omega) (by omega) id (by omega) hD hD1 (a:=u0) (N:=a*2^s) iu (by omega) hvu.symm (la+1-n) (by omega) m u0 (List.replicate (la+1-n) 0) hm.symm iu rfl rfl (by rw [Nat.mod_eq_of_lt hmD];exact hm) (by rw [List.length_replicate];omega) (Qa4 (by decide) _)
  (by rw [List.drop_eq_nil_of_le (by rw [List.length_replicate];omega),Nat.div_eq_of_lt hmD];rfl)
 have hq:a*2^s/(b*2^s)=a/b:=Nat.mul_div_mul_right _ _ hp
 have hr:a*2^s%(b*2^s)=a%b*2^s:=Nat.mul_mod_mul_right _ _ _
 rw [hq] at r4
 rw [hr] at r7
 have er:z67.l0aa 0 n d0 (((la+1-n:Nat):Int)-1,u0,List.replicate (la+1-n) 0)=some ((-1:Int),u',q'):=r1.lfp
 refine ⟨q',?_,r3,by omega,r4⟩
 have hml:a%b<=a:=Nat.mod_le a b
 have w1:wr .i64 ((n:Int)-1)=((n-1:Nat):Int):=by rw [Qc (by omega) (by omega)];omega
 have w2:wr .i64 ((la:Int)+1)=((la+1:Nat):Int):=by rw [Qc (by omega) (by omega)];rfl
 have w3:wr .i64 ((n:Int)+1)=((n+1:Nat):Int):=by rw [Qc (by omega) (by omega)];rfl
 have w4:wr .i64 (((la+1:Nat):Int)-(n:Int))=((la+1-n:Nat):Int):=by rw [Qc (by omega) (by omega)];omega
 have w5:wr .i64 (((la+1-n:Nat):Int)-1)=((la+1-n:Nat):Int)-1:=Qc (by omega) (by omega)
 have w6:wr .u64 (s:Int)=(s:Int):=Qq (by omega) (by omega)
 have w7:wr .i64 (s:Int)=(s:Int):=Qc (by omega) (by omega)
 have hu':u'.length=la+1:=by omega
 have hlr:(lb (a%b*2^s)).length<=la+1:=by
  have h1:=Yb bL r5
  rw [r7,hu'] at h1
  exact Yj bL (Int.ofNat_lt.1 h1)
 unfold z67.F
 rw [hn,w1,if_pos (by omega),Zi (n-1),hx,hlead]
 simp only [Zb]
 rw [hla,w2,if_pos (by omega),w6,Zi (la+1),mu]
 simp only [Zb]
 rw [w3,if_pos (by omega),Zi (n+1),md]
 simp only [Zb]
 rw [if_pos (by omega),lu,Zi n,w4,if_pos (by omega),Zi (la+1-n),List.length_replicate,w5,er]
 simp only [Zb]
 rw [Qdl r5 (by show List.length _<=_;omega),r7,Zi]
 simp only [Zb]
 rw [w7,quot_Shr hs (by omega),Nat.mul_div_cancel _ hp]
 simp only [Zb]
 have hlm:(lb (a%b)).length<=la:=by
  have:=Yj bL (B:=LB) (n:=a%b) (k:=la) (Nat.lt_of_le_of_lt hml (hla▸Qbx bL))
  exact this
 rw [J1 (by show List.length _<=_;omega)]
 rfl
theorem Qk0 {a b:Nat} (hb:0<b) (ha:(lb a).length<=700000000):Ym a b:=by
 rcases Nat.lt_or_ge a b with h|h
 ·exact Qiz h (by omega)
 rcases Nat.lt_or_ge b 18446744073709551616 with hs|hs
 ·exact Qng hb hs (by omega)
 have hab:(lb b).length<=(lb a).length:=by
  rcases Nat.lt_or_ge (lb a).length (lb b).length with h'|h'
  ·have:=Qb1 bL h';omega
  ·exact h'
 have hb2:2<=(lb b).length:=by
  rcases Nat.lt_or_ge (lb b).length 2 with h'|h'
  ·exfalso
   have h1:b<LB^(lb b).length:=Qbx bL
   have h2:LB^(lb b).length<=LB^1:=Nat.pow_le_pow_right (by decide) (by omega)
   have h3:LB^1=18446744073709551616:=rfl
   omega
  ·exact h'
 obtain ⟨q,q1,q2,q3,q4⟩:=Qwh hb2 hab ha
 unfold Ym z68.F
 rw [Wy]
 simp only [Zb]
 rw [Qa (by omega),Qcb (by omega)]
 simp only [Zb]
 have:¬cmpI (a:Int) b<0:=by unfold cmpI;rw [if_neg (by omega)];split<;>omega
 rw [Qa this,J1 (by show List.length _<=_;omega),J1 (by show List.length _<=_;omega)]
 simp only [Zb]
 rw [Qa (by omega),q1]
 simp only [Zb]
 have hml:=Nat.mod_le a b
 have hlm:(lb (a%b)).length<=(lb a).length:=Yj bL (Nat.lt_of_le_of_lt hml (Qbx bL))
 rw [Qdl q2 (by show List.length _<=_;omega),q4,Quk (by show List.length _<=_;omega)]
 rfl
theorem Qkp {M:Nat} (h:sz M<=700000000):Qbg M:=λx y hx _ hy=>Qk0 hy (Nat.le_trans (Qj x) (Nat.le_trans (Qu hx) h))
theorem Y7 (m n:Nat):sz (m+n)<=max (sz m) (sz n)+1:=sz_le (by
 have h1:m<10^max (sz m) (sz n):=Nat.lt_of_lt_of_le (J6 m) (Nat.pow_le_pow_right (by decide) (by omega))
 have h2:n<10^max (sz m) (sz n):=Nat.lt_of_lt_of_le (J6 n) (Nat.pow_le_pow_right (by decide) (by omega))
 rw [Nat.pow_succ];omega)
theorem Qae (a b:Int):sz (a+b).natAbs<=max (sz a.natAbs) (sz b.natAbs)+1:=Nat.le_trans (Qu (Int.natAbs_add_le a b)) (Y7 _ _)
theorem Yg (a b:Int):sz (a*b).natAbs<=sz a.natAbs+sz b.natAbs:=by rw [Int.natAbs_mul];exact Q7 _ _
def Sq (k:Nat) (q:Rat):Prop:=sz q.num.natAbs<=2*k/\sz q.den<=k
theorem Sq.mono {k j:Nat} {q:Rat} (h:Sq k q) (hj:k<=j):Sq j q:=⟨Nat.le_trans h.1 (by omega),Nat.le_trans h.2 hj⟩
theorem Sq.mk {k d:Nat} {n:Int} (h0:0<d) (hn:sz n.natAbs<=2*k) (hd:sz d<=k):Sq k (mkRat n d):=
 ⟨Nat.le_trans (Qu (Qbb n h0)) hn,Nat.le_trans (Qu (Qbf n h0)) hd⟩
theorem Sq.div {k:Nat} {n d:Int} (h0:0<d) (hn:sz n.natAbs<=2*k) (hd:sz d.natAbs<=k):Sq k (Rat.divInt n d):=by
 obtain ⟨e,rfl⟩:∃e:Nat,d=e:=⟨d.toNat,by omega⟩
 rw [Rat.divInt_ofNat]
 exact Sq.mk (by omega) hn hd
theorem Sq.cross {k j:Nat} {q r:Rat} (h:Sq k q) (h':Sq j r):sz (q.num*r.den).natAbs<=2*k+j:=by
 have:=Yg q.num r.den
 have e:(r.den:Int).natAbs=r.den:=rfl
 rw [e] at this
 have:=h.1;have:=h'.2;omega
theorem Sq.dens {k j:Nat} {q r:Rat} (h:Sq k q) (h':Sq j r):sz (q.den*r.den)<=k+j:=by
 have:=Q7 q.den r.den
 have:=h.2;have:=h'.2;omega
theorem Sq.add {k j:Nat} {q r:Rat} (h:Sq k q) (h':Sq j r):Sq (k+j+1) (q+r):=by
 rw [Rat.add_def']
 have h1:=h.cross h'
 have h2:=h'.cross h
 have h3:=h.dens h'
 have h4:=Qae (q.num*r.den) (r.num*q.den)
 exact Sq.mk (Nat.mul_pos q.den_pos r.den_pos) (by omega) (by omega)
theorem Sq.mul {k j:Nat} {q r:Rat} (h:Sq k q) (h':Sq j r):Sq (k+j) (q*r):=by
 rw [Rat.mul_def']
 have h1:=Yg q.num r.num
 have h3:=h.dens h'
 have:=h.1;have:=h'.1
 exact Sq.mk (Nat.mul_pos q.den_pos r.den_pos) (by omega) h3
theorem Sq.neg {k:Nat} {q:Rat} (h:Sq k q):Sq k (-q):=by
 refine ⟨?_,h.2⟩
 show sz (-q.num).natAbs<=_
 rw [Int.natAbs_neg];exact h.1
theorem Sq.int {k:Nat} {z:Int} (h:sz z.natAbs<=2*k) (h1:1<=k):Sq k (z:Rat):=⟨h,Nat.le_trans (sz_le (show 1<10^1 by decide)) h1⟩
theorem Sq.zero {k:Nat} (h1:1<=k):Sq k 0:=Sq.int (z:=0) (by simp [Qai]) h1
theorem Qu6 (z:Int):fr (z:Rat)=(lb z.natAbs,neg z,[]):=by
 show (lb z.natAbs,neg z,lb (1-1))=_
 rw [lb_zero]
theorem Qn1 {num:Int} {den:Nat} (h0:0<den) (hn:sz num.natAbs<=700000000) (hd:sz den<=700000000) :
  z70.F (lb num.natAbs) (neg num) (lb den)=some (fr (mkRat num den)):=by
 have hm:sz (max num.natAbs den)<=700000000:=by
  rcases Nat.le_total num.natAbs den with h|h
  ·rw [Nat.max_eq_right h];exact hd
  ·rw [Nat.max_eq_left h];exact hn
 exact frac_made (Qkp hm) h0 (Nat.le_max_left _ _) (Nat.le_max_right _ _) hd
theorem Qek {num den:Int} (h0:den≠0) (hn:sz num.natAbs<=700000000) (hd:sz den.natAbs<=700000000) :
  z71.F (lb num.natAbs) (neg num) (lb den.natAbs) (neg den)=some ((fr (Rat.divInt num den)).1,(fr (Rat.divInt num den)).2.1,(fr (Rat.divInt num den)).2.2,0):=by
 have hm:sz (max num.natAbs den.natAbs)<=700000000:=by
  rcases Nat.le_total num.natAbs den.natAbs with h|h
  ·rw [Nat.max_eq_right h];exact hd
  ·rw [Nat.max_eq_left h];exact hn
 exact frac_Of (Qkp hm) h0 (Nat.le_max_left _ _) (Nat.le_max_right _ _) hd
theorem Qby {k j:Nat} {q r:Rat} (hq:Sq k q) (hr:Sq j r) (hs:k+j<=100000000) :
  z152.F (fr q).1 (fr q).2.1 (fr q).2.2 (fr r).1 (fr r).2.1 (fr r).2.2=some (fr (q*r)):=by
 have h1:=hq.dens hr
 have h2:=Yg q.num r.num
 have q1:=hq.1;have q2:=hq.2;have r1:=hr.1;have r2:=hr.2
 have l1:=Qj q.num.natAbs;have l2:=Qj r.num.natAbs;have l3:=Qj q.den;have l4:=Qj r.den
 unfold z152.F
 rw [Yi (by omega)]
 simp only [Zb]
 rw [Yy q _ _ (by omega)]
 simp only [Zb]
 rw [Yy r _ _ (by omega)]
 simp only [Zb]
 rw [Yv (by omega)]
 simp only [Zb]
 rw [Qn1 (Nat.mul_pos q.den_pos r.den_pos) (by omega) (by omega),<-Rat.mul_def']
 rfl
theorem Qa6 {k j:Nat} {q r:Rat} (hq:Sq k q) (hr:Sq j r) (hs:k+j<=100000000) :
  z151.F (fr q).1 (fr q).2.1 (fr q).2.2 (fr r).1 (fr r).2.1 (fr r).2.2=some (fr (q+r)):=by
 have h1:=hq.dens hr
 have h2:=hq.cross hr;have h2':=hr.cross hq
 have h3:=Qae (q.num*r.den) (r.num*q.den)
 have q1:=hq.1;have q2:=hq.2;have r1:=hr.1;have r2:=hr.2
 have l1:=Qj q.num.natAbs;have l2:=Qj r.num.natAbs;have l3:=Qj q.den;have l4:=Qj r.den
 have l3':(lb (q.den:Int).natAbs).length<=sz q.den:=l3
 have l4':(lb (r.den:Int).natAbs).length<=sz r.den:=l4
 have l5:=Qj (q.num*r.den).natAbs;have l6:=Qj (r.num*q.den).natAbs
 unfold z151.F
 rw [Qct r _ _ (by omega)]
 simp only [Zb]
 rw [Yi (by omega)]
 simp only [Zb]
 rw [Qct q _ _ (by omega)]
 simp only [Zb]
 rw [Yi (by omega)]
 simp only [Zb]
 rw [Qbd (by omega)]
 simp only [Zb]
 rw [Yy q _ _ (by omega)]
 simp only [Zb]
 rw [Yy r _ _ (by omega)]
 simp only [Zb]
 rw [Yv (by omega)]
 simp only [Zb]
 rw [Qn1 (Nat.mul_pos q.den_pos r.den_pos) (by omega) (by omega),<-Rat.add_def']
 rfl
theorem frac_From (z:Int):z47.F (lb z.natAbs) (neg z)=some (fr (z:Rat)):=by
 rw [Qu6];rfl
def upN (m:Int) (low rest d:Nat):Prop:=rest≠0/\(m=1\/m=2/\d<=2*rest\/m=3/\d<2*rest\/m=4/\(d<2*rest\/d=2*rest/\low%2=1))
instance (m:Int) (low rest d:Nat):Decidable (upN m low rest d):=by unfold upN;infer_instance
abbrev ysz (y:Int):Int:=if leap y then 366 else 365
theorem Qra (y:Int):cumD y 13=ysz y:=by
 unfold cumD ysz;split<;>(try split)<;>omega
def inY (y k:Int):Rat:=(y:Rat)+Rat.divInt (k-aheadY y-1) (ysz y)
def yAt (y m d:Int):Rat:=inY y (num y m d)
theorem Qss (y:Int):0<ysz y:=by unfold ysz;split<;>omega
theorem Qtc (y:Int):ysz y≠0:=Int.ne_of_gt (Qss y)
theorem Qwo {a b c:Int} (h:c≠0):Rat.divInt a c-Rat.divInt b c=Rat.divInt (a-b) c:=by
 have hc:(c:Rat)≠0:=λe=>h (Rat.intCast_eq_zero_iff.1 e)
 rw [Rat.divInt_eq_div,Rat.divInt_eq_div,Rat.divInt_eq_div,Rat.intCast_sub]
 grind
theorem Qd7 (y k j:Int):inY y k-inY y j=Rat.divInt (k-j) (ysz y):=by
 have h:=Qwo (a:=k-aheadY y-1) (b:=j-aheadY y-1) (Qtc y)
 rw [show k-aheadY y-1-(j-aheadY y-1)=k-j by omega] at h
 unfold inY
 rw [<-h]
 grind
theorem Qjx (y:Int):inY y (aheadY y+1)=y:=by
 unfold inY
 rw [show aheadY y+1-aheadY y-1=0 by omega,Rat.zero_divInt,Rat.add_zero]
theorem Qh8 (y:Int):inY y (aheadY (y+1)+1)=((y+1:Int):Rat):=by
 unfold inY
 rw [Qan,Qra,show aheadY y+ysz y+1-aheadY y-1=ysz y by omega,Rat.divInt_self' (Qtc y),Rat.intCast_add]
 rfl
def Wd (y m d y' m' d':Int):Int:=360*(y'-y)+30*(m'-m)+(if d'>30/\30<=d then 30 else d')-(if d>30 then 30 else d)
def yf (b y m d y' m' d':Int):Rat:=
 if b=0 then Rat.divInt (Wd y m d y' m' d') 360 else if b=1 then Rat.divInt (num y' m' d'-num y m d) 365 else yAt y' m' d'-yAt y m d
structure Lg where
 f:D3
 t:D3
 op:List UInt8
 rt:List UInt8
def lgv (x:Lg):List V:=[.int .i64 x.f.1,.int .i64 x.f.2.1,.int .i64 x.f.2.2,.int .i64 x.t.1,.int .i64 x.t.2.1,.int .i64 x.t.2.2,.str x.op,.str x.rt]
theorem asL0 {R:Type} (x:Lg) (K:Int->Option R):V.asInt .i64 ((lgv x).getD 0 .undef) K=K x.f.1:=by simp [lgv,V.asInt]
theorem asL1 {R:Type} (x:Lg) (K:Int->Option R):V.asInt .i64 ((lgv x).getD 1 .undef) K=K x.f.2.1:=by simp [lgv,V.asInt]
theorem asL2 {R:Type} (x:Lg) (K:Int->Option R):V.asInt .i64 ((lgv x).getD 2 .undef) K=K x.f.2.2:=by simp [lgv,V.asInt]
theorem asL3 {R:Type} (x:Lg) (K:Int->Option R):V.asInt .i64 ((lgv x).getD 3 .undef) K=K x.t.1:=by simp [lgv,V.asInt]
theorem asL4 {R:Type} (x:Lg) (K:Int->Option R):V.asInt .i64 ((lgv x).getD 4 .undef) K=K x.t.2.1:=by simp [lgv,V.asInt]
theorem asL5 {R:Type} (x:Lg) (K:Int->Option R):V.asInt .i64 ((lgv x).getD 5 .undef) K=K x.t.2.2:=by simp [lgv,V.asInt]
theorem asL6 {R:Type} (x:Lg) (K:List UInt8->Option R):V.asStr ((lgv x).getD 6 .undef) K=K x.op:=by simp [lgv,V.asStr]
theorem asL7 {R:Type} (x:Lg) (K:List UInt8->Option R):V.asStr ((lgv x).getD 7 .undef) K=K x.rt:=by simp [lgv,V.asStr]
def mLeg (a:Option D3) (x:Lg):Int:=
 if ¬(rightD x.f/\rightD x.t) then 11 else if cmpD x.f x.t>0\/a.all (λd=>decide (x.f=d))=false then 12 else if (mMoney x.op).2≠0 then (mMoney x.op).2 else (mRate x.rt).2
def mLegs:Option D3->List Lg->Int
 |_,[]=>0
 |a,x::l=>if mLeg a x≠0 then mLeg a x else mLegs (some x.t) l
theorem Qak {a:Option D3} {x:Lg} (h:mLeg a x=0):rightD x.f/\rightD x.t/\numD x.f<=numD x.t/\(∀d,a=some d->x.f=d)/\(mMoney x.op).2=0/\(mRate x.rt).2=0:=by
 unfold mLeg at h
 split at h
 ·simp at h
 rename_i h1
 have h1:rightD x.f/\rightD x.t:=Classical.not_not.1 h1
 split at h
 ·simp at h
 rename_i h2
 split at h
 ·rename_i h3;exact absurd h h3
 rename_i h3
 have h4:¬cmpD x.f x.t>0:=λe=>h2 (.inl e)
 rw [Q9 h1.1 h1.2,Wh] at h4
 refine ⟨h1.1,h1.2,by omega,λd e=>?_,by omega,h⟩
 subst e
 have h5:¬(decide (x.f=d)=false):=λe=>h2 (.inr e)
 simpa using h5
def minD (t to:D3):D3:=if cmpD t to<0 then t else to
def term (b:Int) (to:D3) (x:Lg):Rat:=((mMoney x.op).1:Rat)*(mRate x.rt).1*yf b x.f.1 x.f.2.1 x.f.2.2 (minD x.t to).1 (minD x.t to).2.1 (minD x.t to).2.2
def exL (b:Int) (to:D3):Rat->List Lg->Rat
 |s,[]=>s
 |s,x::l=>if cmpD x.f to>=0 then s else exL b to (s+term b to x) l
theorem Qc7:∀(l:List Lg) (a:Option D3),mLegs a l=0->∀(h:l≠[]),∀x∈l,rightD x.f/\rightD x.t/\numD x.f<=numD x.t/\numD x.t<=numD (l.getLast h).t
 |[],_,_,h=>absurd rfl h
 |
  x::l,a,h,hne=>by
  unfold mLegs at h
  split at h
  ·rename_i h1;exact absurd h h1
  rename_i h1
  obtain ⟨r1,r2,r3,r4,_,_⟩:=Qak (by omega:mLeg a x=0)
  intro y hy
  by_cases hl:l=[]
  ·subst hl
   rw [List.mem_singleton] at hy
   subst hy
   exact ⟨r1,r2,r3,Int.le_refl _⟩
  ·rw [List.getLast_cons hl]
   have ih:=Qc7 l (some x.t) h hl
   rcases List.mem_cons.1 hy with rfl|hy
   ·refine ⟨r1,r2,r3,?_⟩
    obtain ⟨z,l',rfl⟩:=List.exists_cons_of_ne_nil hl
    have hz:=ih z (List.mem_cons_self ..)
    unfold mLegs at h
    split at h
    ·rename_i h2;exact absurd h h2
    rename_i h2
    have:=(Qak (by omega:mLeg (some y.t) z=0)).2.2.2.1 y.t rfl
    rw [<-this]
    omega
   ·exact ih y hy
theorem Qj7 {y m d:Int} (h:right y m d):aheadY y+1<=num y m d/\num y m d<=aheadY (y+1):=by
 have g:=Q3 h
 have s1:=Jj g.1 ⟨g.2.1,g.2.2.1⟩
 have s2:=Qcu (y:=y) (m:=m+1) (m':=13) (by omega) (by omega)
 have s3:=Qcu (y:=y) (m:=1) (m':=m) (by omega) (by omega)
 have s4:=Qan y
 rw [Jm] at s3
 have h1:=h.1;have h2:=h.2
 unfold num
 omega
theorem Qa9 {t to:D3} (h:rightD t) (h':rightD to):rightD (minD t to)/\numD (minD t to)=min (numD t) (numD to):=by
 unfold minD
 by_cases hc:cmpD t to<0
 ·rw [if_pos hc]
  rw [Q9 h h',Q6] at hc
  exact ⟨h,by omega⟩
 ·rw [if_neg hc]
  rw [Q9 h h',Q6] at hc
  exact ⟨h',by omega⟩
theorem Qjq (b:Int):z82.F b=some (decide (0<=b/\b<=2)):=by
 unfold z82.F
 by_cases h:b>=0
 ·rw [bif_t h];congr 1;apply decide_eq_decide.2;omega
 ·rw [Qa h];congr 1;symm;apply Zf;omega
theorem Qi0 {z:Int} (h:-9223372036854775808<=z/\z<=9223372036854775808):sz z.natAbs<=20:=sz_le (by omega)
theorem count_part {n d:Int} (hn:-9223372036854775808<=n/\n<9223372036854775808) (hd:0<d/\d<9223372036854775808):z153.F n d=some (fr (Rat.divInt n d)):=by
 have s1:=Qi0 (z:=n) (by omega);have s2:=Qi0 (z:=d) (by omega)
 unfold z153.F
 rw [whole_From hn]
 simp only [Zb]
 rw [whole_From (by omega)]
 simp only [Zb]
 rw [Qek (by omega) (by omega) (by omega)]
 rfl
theorem Qm7 {y m y' m' j k:Int} (hy:1<=y/\y<=9999) (hm:1<=m/\m<=12) (hy':1<=y'/\y'<=9999) (hm':1<=m'/\m'<=12) (hj:0<=j/\j<=31) (hk:0<=k/\k<=31) :
  wr .i64 (wr .i64 (wr .i64 (wr .i64 (360*wr .i64 (y'-y))+wr .i64 (30*wr .i64 (m'-m)))+j)-k)=360*(y'-y)+30*(m'-m)+j-k:=by
 rw [Qc (n:=y'-y) (by omega) (by omega),Qc (n:=m'-m) (by omega) (by omega),Qc (n:=360*(y'-y)) (by omega) (by omega),Qc (n:=30*(m'-m)) (by omega) (by omega),Qc (n:=360*(y'-y)+30*(m'-m)) (by omega) (by omega),Qc (n:=360*(y'-y)+30*(m'-m)+j) (by omega) (by omega),Qc (by omega) (by omega)]
theorem count_thirty {a b:D3} (ha:rightD a) (hb:rightD b):z154.F a.1 a.2.1 a.2.2 b.1 b.2.1 b.2.2=some (fr (Rat.divInt (Wd a.1 a.2.1 a.2.2 b.1 b.2.1 b.2.2) 360)):=by
 have ga:=Q3 ha
 have gb:=Q3 hb
 obtain ⟨y,m,d⟩:=a
 obtain ⟨y',m',d'⟩:=b
 simp only at ga gb ⊢
 have key:∀{j k:Int},0<=j/\j<=31->0<=k/\k<=31->Wd y m d y' m' d'=360*(y'-y)+30*(m'-m)+j-k->z153.F (wr .i64 (wr .i64 (wr .i64 (wr .i64 (360*wr .i64 (y'-y))+wr .i64 (30*wr .i64 (m'-m)))+j)-k)) 360=some (fr (Rat.divInt (Wd y m d y' m' d') 360)):=λ{j k} hj hk e=>by
  rw [Qm7 ga.1 ⟨ga.2.1,ga.2.2.1⟩ gb.1 ⟨gb.2.1,gb.2.2.1⟩ hj hk,e,count_part (by omega) (by omega)]
 unfold z154.F
 by_cases h1:d>30
 ·rw [bif_t h1]
  by_cases h2:d'>30
  ·rw [bif_t h2];unfold z154.j6
   rw [key (by omega) (by omega) (by unfold Wd;rw [if_pos (by omega),if_pos h1])];rfl
  ·rw [Qa h2];unfold z154.j6
   rw [key (by omega) (by omega) (by unfold Wd;rw [if_neg (by omega),if_pos h1])];rfl
 ·rw [Qa h1]
  by_cases h2:d'>30
  ·rw [bif_t h2]
   by_cases h3:d=30
   ·rw [bif_t h3];unfold z154.j9
    rw [key (by omega) (by omega) (by unfold Wd;rw [if_pos (by omega),if_neg h1])];rfl
   ·rw [Qa h3];unfold z154.j9
    rw [key (by omega) (by omega) (by unfold Wd;rw [if_neg (by omega),if_neg h1])];rfl
  ·rw [Qa h2];unfold z154.j9
   rw [key (by omega) (by omega) (by unfold Wd;rw [if_neg (by omega),if_neg h1])];rfl
theorem Qy {a:D3} (h:rightD a):1<=numD a/\numD a<=3652059:=Qh7 h
theorem Jo {a:D3} (h:rightD a):aheadY a.1+1<=numD a/\numD a<=aheadY (a.1+1):=Qj7 h
theorem count_days {a b:D3} (ha:rightD a) (hb:rightD b):z156.F a.1 a.2.1 a.2.2 b.1 b.2.1 b.2.2=some (numD b-numD a):=by
 have b1:=Qy ha;have b2:=Qy hb
 have en1:numD a=num a.1 a.2.1 a.2.2:=rfl
 have en2:numD b=num b.1 b.2.1 b.2.2:=rfl
 unfold z156.F z155.F
 rw [date_Number,if_pos ha]
 simp only [Zb,decide_true,Zn,Zc]
 rw [date_Number,if_pos hb]
 simp only [Zb,decide_true,Zn,Zc]
 rw [Qc (by omega) (by omega)]
theorem count_year {y:Int} (hy:goodY y):z157.F y=some (ysz y):=by
 unfold z157.F ysz
 rw [date_Leap]
 simp only [Zb]
 by_cases h:leap y
 ·rw [bif_t ⟨hy,h⟩,if_pos h]
 ·rw [Qa (λe=>h e.2),if_neg h]
theorem Qrg {y:Int} (hy:goodY y):right y 1 1:=⟨by decide,by have:=Qbn hy (m:=1) ⟨by decide,by decide⟩;omega⟩
theorem Qyf {y:Int} (hy:goodY y):right y 12 31:=⟨by decide,by
 unfold dDays;rw [if_neg (by omega),if_neg (by decide),if_neg (by decide)];exact Int.le_refl _⟩
theorem Qqo (y:Int):num y 1 1=aheadY y+1:=by unfold num;rw [Jm];omega
theorem Qws {y:Int} (hy:goodY y):num y 12 31=aheadY (y+1):=by
 have h1:=Qan y
 have h2:=Jj hy (m:=12) ⟨by decide,by decide⟩
 have h3:dDays y 12=31:=by unfold dDays;rw [if_neg (by omega),if_neg (by decide),if_neg (by decide)]
 rw [h3,show (12:Int)+1=13 from rfl] at h2
 unfold num;omega
theorem Qen (y:Int):365<=ysz y/\ysz y<=366:=by unfold ysz;split<;>omega
theorem Qb3 {n d:Int} (hn:-9223372036854775808<=n/\n<=9223372036854775808) (hd:0<d/\d<10000):Sq 10 (Rat.divInt n d):=
 Sq.div hd.1 (Nat.le_trans (Qi0 hn) (by decide)) (Nat.le_trans (sz_le (k:=4) (by omega)) (by decide))
theorem count_actual {a b:D3} (ha:rightD a) (hb:rightD b) (h:numD a<=numD b):z158.F a.1 a.2.1 a.2.2 b.1 b.2.1 b.2.2=some (fr (yAt b.1 b.2.1 b.2.2-yAt a.1 a.2.1 a.2.2)):=by
 have ga:=Q3 ha
 have gb:=Q3 hb
 have b1:=Qy ha;have b2:=Qy hb
 have en1:numD a=num a.1 a.2.1 a.2.2:=rfl
 have en2:numD b=num b.1 b.2.1 b.2.2:=rfl
 have y1:=Jo ha;have y2:=Jo hb
 have z1:=Qen a.1;have z2:=Qen b.1
 unfold z158.F
 by_cases hy:a.1=b.1
 ·rw [bif_t hy,count_days ha hb]
  simp only [Zb]
  rw [count_year ga.1]
  simp only [Zb]
  rw [count_part (by omega) (by omega)]
  have:yAt b.1 b.2.1 b.2.2-yAt a.1 a.2.1 a.2.2=Rat.divInt (numD b-numD a) (ysz a.1):=by
   show inY b.1 (numD b)-inY a.1 (numD a)=_
   rw [<-hy,Qd7]
  rw [this];rfl
 ·rw [Qa hy]
  have hlt:a.1<b.1:=by
   rcases Int.lt_trichotomy a.1 b.1 with h1|h1|h1
   ·exact h1
   ·exact (hy h1).elim
   ·have:=Qaj (y:=b.1+1) (y':=a.1) (by omega)
    unfold numD at h;omega
  have hdl:rightD (a.1,12,31):=Qyf ga.1
  have hdf:rightD (b.1,1,1):=Qrg gb.1
  have d1:=count_days ha hdl
  have d2:=count_days hdf hb
  simp only at d1 d2
  rw [d1]
  simp only [Zb]
  rw [d2]
  simp only [Zb]
  rw [count_year ga.1]
  simp only [Zb]
  have n1:numD (a.1,12,31)=aheadY (a.1+1):=Qws ga.1
  have n2:numD (b.1,1,1)=aheadY b.1+1:=Qqo b.1
  rw [n1,n2]
  have m1:=Jy (y:=a.1+1) (by omega)
  have m2:=Jy (y:=b.1) (by omega)
  rw [Qc (n:=aheadY (a.1+1)-numD a+1) (by omega) (by omega),Qc (n:=b.1-a.1) (by omega) (by omega),Qc (n:=b.1-a.1-1) (by omega) (by omega),count_part (by omega) (by omega)]
  simp only [Zb]
  rw [count_part (by omega) (by omega)]
  simp only [Zb]
  have s1:=Qb3 (n:=aheadY (a.1+1)-numD a+1) (d:=ysz a.1) (by omega) (by omega)
  have s2:=Qb3 (n:=b.1-a.1-1) (d:=1) (by omega) (by omega)
  have s3:=Qb3 (n:=numD b-(aheadY b.1+1)) (d:=ysz b.1) (by omega) (by omega)
  rw [Qa6 s1 s2 (by decide)]
  simp only [Zb]
  rw [count_year gb.1]
  simp only [Zb]
  rw [count_part (by omega) (by omega)]
  simp only [Zb]
  rw [Qa6 (s1.add s2) s3 (by decide)]
  have e1:=Qd7 a.1 (aheadY (a.1+1)+1) (numD a)
  have e3:=Qd7 b.1 (numD b) (aheadY b.1+1)
  rw [Qh8,show aheadY (a.1+1)+1-numD a=aheadY (a.1+1)-numD a+1 by omega] at e1
  rw [Qjx] at e3
  have e2:Rat.divInt (b.1-a.1-1) 1=(b.1:Rat)-((a.1+1:Int):Rat):=by
   rw [Rat.divInt_eq_div,show ((1:Int):Rat)=1 from rfl,show b.1-a.1-1=b.1-(a.1+1) by omega,Rat.intCast_sub]
   grind
  have:Rat.divInt (aheadY (a.1+1)-numD a+1) (ysz a.1)+Rat.divInt (b.1-a.1-1) 1+Rat.divInt (numD b-(aheadY b.1+1)) (ysz b.1)=yAt b.1 b.2.1 b.2.2-yAt a.1 a.2.1 a.2.2:=by
   rw [<-e1,<-e3,e2]
   unfold yAt
   show _=inY b.1 (numD b)-inY a.1 (numD a)
   grind
  rw [this];rfl
theorem count_Year {bs:Int} {a b:D3} (hbs:0<=bs/\bs<=2) (ha:rightD a) (hb:rightD b) (h:numD a<=numD b) :
  z159.F bs a.1 a.2.1 a.2.2 b.1 b.2.1 b.2.2=some ((fr (yf bs a.1 a.2.1 a.2.2 b.1 b.2.1 b.2.2)).1,(fr (yf bs a.1 a.2.1 a.2.2 b.1 b.2.1 b.2.2)).2.1,(fr (yf bs a.1 a.2.1 a.2.2 b.1 b.2.1 b.2.2)).2.2,0):=by
 have b1:=Qy ha;have b2:=Qy hb
 have en1:numD a=num a.1 a.2.1 a.2.2:=rfl
 have en2:numD b=num b.1 b.2.1 b.2.2:=rfl
 unfold z159.F
 rw [Qjq,Zt hbs]
 simp only [Zb,Zn,Zc]
 rw [date_Check,if_pos ha]
 simp only [Zb,decide_true,Zn,Zc]
 rw [date_Check,if_pos hb]
 simp only [Zb,decide_true,Zn]
 unfold z159.j4
 rw [Zc,date_Cmp]
 simp only [Zb]
 have hc:=Q9 ha hb
 rw [show dcmp a.1 a.2.1 a.2.2 b.1 b.2.1 b.2.2=cmpD a b from rfl,hc,Qa (by rw [Wh];omega)]
 unfold yf
 by_cases h0:bs=0
 ·rw [bif_t h0,if_pos h0,count_thirty ha hb];rfl
 ·rw [Qa h0,if_neg h0]
  by_cases h1:bs=1
  ·rw [bif_t h1,if_pos h1,count_days ha hb]
   simp only [Zb]
   rw [count_part (by omega) (by omega)];rfl
  ·rw [Qa h1,if_neg h1,count_actual ha hb h];rfl
theorem Qix (y k:Int) (hy:goodY y) (hk:-9223372036854775808<=k-aheadY y-1/\k-aheadY y-1<=9223372036854775808):Sq 15 (inY y k):=by
 unfold inY
 have z:=Qen y
 have s1:=Qb3 (n:=k-aheadY y-1) (d:=ysz y) hk (by omega)
 have s2:Sq 4 (y:Rat):=Sq.int (Nat.le_trans (sz_le (k:=4) (by omega)) (by decide)) (by decide)
 exact s2.add s1
theorem Qa0 (bs:Int) {a b:D3} (ha:rightD a) (hb:rightD b):Sq 32 (yf bs a.1 a.2.1 a.2.2 b.1 b.2.1 b.2.2):=by
 have ga:=Q3 ha;have gb:=Q3 hb
 have b1:=Qy ha;have b2:=Qy hb
 have en1:numD a=num a.1 a.2.1 a.2.2:=rfl
 have en2:numD b=num b.1 b.2.1 b.2.2:=rfl
 have y1:=Jo ha;have y2:=Jo hb
 have m1:=Jy (y:=a.1) (by omega)
 have m2:=Jy (y:=b.1) (by omega)
 unfold yf
 split
 ·refine (Qb3 ?_ ?_).mono (by decide)
  ·unfold Wd;split<;>split<;>omega
  ·omega
 ·split
  ·exact (Qb3 (by omega) (by omega)).mono (by decide)
  ·unfold yAt
   rw [Rat.sub_eq_add_neg]
   exact (((Qix b.1 _ gb.1 (by omega)).add (Qix a.1 _ ga.1 (by omega)).neg)).mono (by decide)
abbrev lgT (x:Lg) (i:Int):Int×Int×Int×Int×Int×Int×(List UInt8)×(List UInt8)×Int:=(x.f.1,x.f.2.1,x.f.2.2,x.t.1,x.t.2.1,x.t.2.2,x.op,x.rt,i)
theorem Qg2 {α:Type} (a b:D3) (x y:α):(bif (!(decide (a.1=b.1)&&(decide (a.2.1=b.2.1)&&decide (a.2.2=b.2.2)))) then x else y)=if a=b then y else x:=by
 by_cases h:a=b
 ·subst h;simp
 ·rw [if_neg h]
  have:¬(a.1=b.1/\a.2.1=b.2.1/\a.2.2=b.2.2):=λe=>h (by
   obtain ⟨a1,a2,a3⟩:=a
   obtain ⟨b1,b2,b3⟩:=b
   obtain ⟨rfl,rfl,rfl⟩:=e;rfl)
  by_cases h1:a.1=b.1
  ·by_cases h2:a.2.1=b.2.1
   ·have h3:¬a.2.2=b.2.2:=λe=>this ⟨h1,h2,e⟩
    rw [Zt h1,Zt h2,Zf h3];rfl
   ·rw [Zt h1,Zf h2];rfl
  ·rw [Zf h1];rfl
theorem Qbi (d:D3) (x:Lg):mLeg (some d) x=if ¬(rightD x.f/\rightD x.t) then 11 else if cmpD x.f x.t>0 then 12 else if x.f=d then (if (mMoney x.op).2≠0 then (mMoney x.op).2 else (mRate x.rt).2) else 12:=by
 unfold mLeg
 split
 ·rfl
 ·by_cases h:cmpD x.f x.t>0
  ·rw [if_pos (.inl h),if_pos h]
  ·rw [if_neg h]
   by_cases h':x.f=d
   ·rw [if_pos h',if_neg (λe=>e.elim h (by simp [h']))]
   ·rw [if_neg h',if_pos (.inr (by simp [h']))]
theorem Qes (x:Lg):mLeg none x=if ¬(rightD x.f/\rightD x.t) then 11 else if cmpD x.f x.t>0 then 12 else (if (mMoney x.op).2≠0 then (mMoney x.op).2 else (mRate x.rt).2):=by
 unfold mLeg
 split
 ·rfl
 ·by_cases h:cmpD x.f x.t>0
  ·rw [if_pos (.inl h),if_pos h]
  ·rw [if_neg h,if_neg (λe=>e.elim h (by simp))]
theorem Qok {R:Type} {l:List Lg} {i:Nat} (hi:i<l.length) (hl:l.length<=1000000000) (a:Lg) (rec:(Int×Int×Int×Int×Int×Int×(List UInt8)×(List UInt8)×Int)->Option R) (done:((Int×Int×Int×Int×Int×Int×(List UInt8)×(List UInt8)×Int)⊕(Int))->Option R) :
  z145.l0P (l.map lgv) (l.map lgv) (l.length:Int) rec done (lgT a i)=if mLeg (some a.t) l[i]≠0 then done (.inr (mLeg (some a.t) l[i])) else rec (lgT l[i] ((i+1:Nat):Int)):=by
 have ek:wr .i64 ((i:Int)+1)=((i+1:Nat):Int):=by rw [Qc (by omega) (by omega)];rfl
 have hb:(0:Int)<=(i:Int)/\(i:Int)<((l.map lgv).length:Int):=by rw [List.length_map];omega
 have hj2:z145.j1026a rec done l[i].op i (l.map lgv) l[i].rt=bif !decide ((mMoney l[i].op).2=0) then done (.inr (mMoney l[i].op).2) else bif !decide ((mRate l[i].rt).2=0) then done (.inr (mRate l[i].rt).2) else rec (lgT l[i] ((i+1:Nat):Int)):=by
  unfold z145.j1026a
  rw [terms_Money]
  simp only [Zb]
  by_cases h:(mMoney l[i].op).2=0
  ·rw [Zt h,Zn,Zc,Zc,terms_Rate]
   simp only [Zb]
   rw [if_pos hb,Zi]
   simp only [Q1 lgv hi,asL0,asL1,asL2,asL3,asL4,asL5,asL6,asL7,ek]
  ·rw [Zf h,Zo,Zd,Zd,Zd]
 have hj:∀b:Bool,z145.j1024a rec done b l[i].f.1 l[i].f.2.1 l[i].f.2.2 l[i].t.1 l[i].t.2.1 l[i].t.2.2 a.t.1 a.t.2.1 a.t.2.2 l[i].op i (l.map lgv) l[i].rt=bif b then done (.inr 11) else bif decide (cmpD l[i].f l[i].t>0) then done (.inr 12) else if l[i].f=a.t then z145.j1026a rec done l[i].op i (l.map lgv) l[i].rt else done (.inr 12):=λb=>by
  unfold z145.j1024a
  cases b with
  |true=>rfl
  |
   false=>
   rw [Zc,Zc,date_Cmp]
   simp only [Zb]
   rw [Qg2 l[i].f a.t]
 unfold z145.l0P
 simp only
 rw [bif_t (by omega),if_pos hb,Zi]
 simp only [Q1 lgv hi,asL0,asL1,asL2,asL3,asL4,asL5,asL6,asL7]
 rw [date_Check]
 simp only [Zb]
 by_cases h1:rightD l[i].f
 ·rw [if_pos h1,Zt rfl,Zn,Zc,date_Check]
  simp only [Zb]
  by_cases h2:rightD l[i].t
  ·rw [if_pos h2,Zt rfl,Zn,hj,Zc]
   by_cases h3:cmpD l[i].f l[i].t>0
   ·have hm:mLeg (some a.t) l[i]=12:=by rw [Qbi,if_neg (λe=>e ⟨h1,h2⟩),if_pos h3]
    rw [bif_t h3,hm];rfl
   ·rw [Qa h3]
    by_cases h4:l[i].f=a.t
    ·have hm:mLeg (some a.t) l[i]=if (mMoney l[i].op).2≠0 then (mMoney l[i].op).2 else (mRate l[i].rt).2:=by rw [Qbi,if_neg (λe=>e ⟨h1,h2⟩),if_neg h3,if_pos h4]
     rw [if_pos h4,hj2,hm]
     by_cases h5:(mMoney l[i].op).2=0
     ·rw [Zt h5,Zn,Zc,if_neg (show ¬((mMoney l[i].op).2≠0) from λe=>e h5)]
      by_cases h6:(mRate l[i].rt).2=0
      ·rw [Zt h6,Zn,Zc,if_neg (λe=>e h6)]
      ·rw [Zf h6,Zo,Zd,if_pos h6]
     ·rw [Zf h5,Zo,Zd,if_pos (show (mMoney l[i].op).2≠0 from h5),if_pos h5]
    ·have hm:mLeg (some a.t) l[i]=12:=by rw [Qbi,if_neg (λe=>e ⟨h1,h2⟩),if_neg h3,if_neg h4]
     rw [if_neg h4,hm];rfl
  ·have hm:mLeg (some a.t) l[i]=11:=by rw [Qbi,if_pos (λe=>h2 e.2)]
   rw [if_neg h2,Zf (by decide),Zo,hj,Zd,hm];rfl
 ·have hm:mLeg (some a.t) l[i]=11:=by rw [Qbi,if_pos (λe=>h1 e.1)]
  rw [if_neg h1,Zf (by decide),Zo,Zd,hj,Zd,hm];rfl
theorem Qr5 {l:List Lg} (hl:l.length<=1000000000):∀(f i:Nat) (a:Lg),i+f=l.length->∃o,Runs (λrec x=>z145.l0P (l.map lgv) (l.map lgv) (l.length:Int) rec some x) (lgT a i) o/\(match o with | .inl _=>(0:Int) | .inr e=>e)=mLegs (some a.t) (l.drop i)
 |
  0,i,a,hf=>by
  refine ⟨.inl (lgT a i),.done λrec=>?_,?_⟩
  ·unfold z145.l0P
   simp only
   rw [Qa (by omega)]
  ·rw [List.drop_eq_nil_of_le (by omega)];rfl
 |
  f+1,i,a,hf=>by
  have hi:i<l.length:=by omega
  rw [List.drop_eq_getElem_cons hi]
  by_cases h:mLeg (some a.t) l[i]≠0
  ·refine ⟨.inr (mLeg (some a.t) l[i]),.done λrec=>?_,?_⟩
   ·rw [Qok hi hl,if_pos h]
   ·unfold mLegs;rw [if_pos h]
  ·obtain ⟨o,r1,r2⟩:=Qr5 hl f (i+1) l[i] (by omega)
   refine ⟨o,.step (λrec=>?_) r1,?_⟩
   ·rw [Qok hi hl,if_neg h]
   ·unfold mLegs;rw [if_neg h];exact r2
theorem accrue_Check {l:List Lg} (hl:l.length<=1000000000):z145.F (l.map lgv)=some (mLegs none l):=by
 cases l with
 |nil=>rfl
 |
  cons x l=>
  have hi:0<(x::l).length:=by simp
  have hb:(0:Int)<=0/\(0:Int)<(((x::l).map lgv).length:Int):=by rw [List.length_map];simp only [List.length_cons];omega
  obtain ⟨o,r1,r2⟩:=Qr5 hl l.length 1 x (by simp only [List.length_cons];omega)
  have e1:z145.l0 ((x::l).map lgv) ((x::l).map lgv) ((x::l).length:Int) (x.f.1,x.f.2.1,x.f.2.2,x.t.1,x.t.2.1,x.t.2.2,x.op,x.rt,(1:Int))=some o:=r1.lfp
  have e2:z145.l0a ((x::l).map lgv) ((x::l).map lgv) ((x::l).length:Int) (x.f.1,x.f.2.1,x.f.2.2,x.t.1,x.t.2.1,x.t.2.2,x.op,x.rt,(1:Int))=some o:=r1.lfp
  have g0:((x::l).map lgv).getD 0 []=lgv x:=rfl
  have hj2:z145.j13 x.op ((x::l).map lgv) x.rt=bif !decide ((mMoney x.op).2=0) then some (mMoney x.op).2 else bif !decide ((mRate x.rt).2=0) then some (mRate x.rt).2 else some (mLegs (some x.t) l):=by
   unfold z145.j13
   rw [terms_Money]
   simp only [Zb]
   by_cases h:(mMoney x.op).2=0
   ·rw [Zt h,Zn,Zc,Zc,terms_Rate]
    simp only [Zb]
    rw [if_pos hb]
    simp only [g0,asL0,asL1,asL2,asL3,asL4,asL5,asL6,asL7]
    rw [List.length_map,e2]
    simp only [Zb]
    rw [List.drop_one,List.tail_cons] at r2
    rw [<-r2]
    cases o<;>rfl
   ·rw [Zf h,Zo,Zd,Zd,Zd]
  have hj:∀b:Bool,z145.j11 b x.f.1 x.f.2.1 x.f.2.2 x.t.1 x.t.2.1 x.t.2.2 x.op ((x::l).map lgv) x.rt=bif b then some 11 else bif decide (cmpD x.f x.t>0) then some 12 else z145.j13 x.op ((x::l).map lgv) x.rt:=λb=>by
   unfold z145.j11
   cases b with
   |true=>rfl
   |
    false=>
    rw [Zc,Zc,date_Cmp]
    simp only [Zb]
  have em:mLegs none (x::l)=if mLeg none x≠0 then mLeg none x else mLegs (some x.t) l:=rfl
  unfold z145.F
  rw [bif_t hb.2,if_pos hb]
  simp only [g0,asL0,asL1,asL2,asL3,asL4,asL5,asL6,asL7]
  rw [date_Check]
  simp only [Zb]
  rw [em]
  by_cases h1:rightD x.f
  ·rw [if_pos h1,Zt rfl,Zn,Zc,date_Check]
   simp only [Zb]
   by_cases h2:rightD x.t
   ·rw [if_pos h2,Zt rfl,Zn,hj,Zc]
    by_cases h3:cmpD x.f x.t>0
    ·have hm:mLeg none x=12:=by rw [Qes,if_neg (λe=>e ⟨h1,h2⟩),if_pos h3]
     rw [bif_t h3,hm];rfl
    ·have hm:mLeg none x=if (mMoney x.op).2≠0 then (mMoney x.op).2 else (mRate x.rt).2:=by rw [Qes,if_neg (λe=>e ⟨h1,h2⟩),if_neg h3]
     rw [Qa h3,hj2,hm]
     by_cases h5:(mMoney x.op).2=0
     ·rw [Zt h5,Zn,Zc,if_neg (show ¬((mMoney x.op).2≠0) from λe=>e h5)]
      by_cases h6:(mRate x.rt).2=0
      ·rw [Zt h6,Zn,Zc,if_neg (λe=>e h6)]
      ·rw [Zf h6,Zo,Zd,if_pos h6]
     ·rw [Zf h5,Zo,Zd,if_pos (show (mMoney x.op).2≠0 from h5),if_pos h5]
   ·have hm:mLeg none x=11:=by rw [Qes,if_pos (λe=>h2 e.2)]
    rw [if_neg h2,Zf (by decide),Zo,hj,Zd,hm];rfl
  ·have hm:mLeg none x=11:=by rw [Qes,if_pos (λe=>h1 e.1)]
   rw [if_neg h1,Zf (by decide),Zo,Zd,hj,Zd,hm];rfl
def okL (l:List Lg):Prop:=∀x∈l,rightD x.f/\rightD x.t/\numD x.f<=numD x.t
theorem W2 {l:List Lg} {a:Option D3} (h:mLegs a l=0):okL l:=λx hx=>by
 have:=Qc7 l a h (List.ne_nil_of_mem hx) x hx
 exact ⟨this.1,this.2.1,this.2.2.1⟩
theorem Qbr (s:List UInt8):Sq 16 ((mMoney s).1:Rat):=Sq.int (Nat.le_trans (Qaa s) (by decide)) (by decide)
theorem W9 (s:List UInt8):Sq 100 (mRate s).1:=⟨Nat.le_trans (Qhj s).1 (by decide),(Qhj s).2⟩
theorem Qj5 {b:Int} {to:D3} {x:Lg} (h1:rightD x.f) (h2:rightD x.t) (hr:rightD to):Sq 148 (term b to x):=
 ((Qbr x.op).mul (W9 x.rt)).mul (Qa0 b h1 (Qa9 h2 hr).1)
theorem Qow {to:D3} {x:Lg} (h1:rightD x.f) (h2:rightD x.t) (h3:numD x.f<=numD x.t) (hr:rightD to) (hc:¬cmpD x.f to>=0):numD x.f<=numD (minD x.t to):=by
 rw [Q9 h1 hr,W7] at hc
 rw [(Qa9 h2 hr).2];omega
theorem Qo2 {l:List Lg} {b:Int} {to:D3} (hb:0<=b/\b<=2) (hr:rightD to) (hk:okL l) (hl:l.length<=20000):∀(f i:Nat) (s:Rat),i+f=l.length->Sq (1+149*i) s ->
  ∃t,Runs (λrec x=>z161.l0P b (l.map lgv) (l.length:Int) to.1 to.2.1 to.2.2 rec some x) ((i:Int),(fr s).1,(fr s).2.1,(fr s).2.2) (t,(fr (exL b to s (l.drop i))).1,(fr (exL b to s (l.drop i))).2.1,(fr (exL b to s (l.drop i))).2.2)
 |
  0,i,s,hf,hs=>by
  refine ⟨(i:Int),.done λrec=>?_⟩
  rw [List.drop_eq_nil_of_le (by omega)]
  unfold z161.l0P
  simp only
  rw [Qa (by omega)];rfl
 |
  f+1,i,s,hf,hs=>by
  have hi:i<l.length:=by omega
  obtain ⟨h1,h2,h3⟩:=hk l[i] (List.getElem_mem hi)
  have ek:wr .i64 ((i:Int)+1)=((i+1:Nat):Int):=by rw [Qc (by omega) (by omega)];rfl
  rw [List.drop_eq_getElem_cons hi]
  have hd:∀{R:Type} (rec done:(Int×(List Int)×Bool×(List Int))->Option R),z161.l0P b (l.map lgv) (l.length:Int) to.1 to.2.1 to.2.2 rec done ((i:Int),(fr s).1,(fr s).2.1,(fr s).2.2) =
    bif decide (cmpD l[i].f to>=0) then done ((i:Int),(fr s).1,(fr s).2.1,(fr s).2.2) else rec (((i+1:Nat):Int),(fr (s+term b to l[i])).1,(fr (s+term b to l[i])).2.1,(fr (s+term b to l[i])).2.2):=λrec done=>by
   unfold z161.l0P
   simp only
   rw [bif_t (by omega),if_pos (by rw [List.length_map];omega),Zi]
   simp only [Q1 lgv hi,asL0,asL1,asL2,asL3,asL4,asL5,asL6,asL7]
   rw [date_Cmp]
   simp only [Zb]
   by_cases hc:cmpD l[i].f to>=0
   ·rw [bif_t hc,bif_t hc]
   ·rw [Qa hc,Qa hc,terms_Money]
    simp only [Zb]
    rw [terms_Rate]
    simp only [Zb]
    have he:z160.F l[i].t.1 l[i].t.2.1 l[i].t.2.2 to.1 to.2.1 to.2.2=some (minD l[i].t to):=by
     unfold z160.F minD
     rw [date_Cmp]
     simp only [Zb]
     by_cases h:cmpD l[i].t to<0
     ·rw [bif_t h,if_pos h]
     ·rw [Qa h,if_neg h]
    rw [he]
    simp only [Zb]
    obtain ⟨m1,m2⟩:=Qa9 h2 hr
    rw [count_Year hb h1 m1 (Qow h1 h2 h3 hr hc)]
    simp only [Zb]
    rw [frac_From]
    simp only [Zb]
    rw [Qby (Qbr _) (W9 _) (by decide)]
    simp only [Zb]
    rw [Qby ((Qbr _).mul (W9 _)) (Qa0 b h1 m1) (by decide)]
    simp only [Zb]
    rw [Qa6 hs (((Qbr _).mul (W9 _)).mul (Qa0 b h1 m1)) (by omega)]
    simp only [Zb]
    rw [ek]
    rfl
  by_cases hc:cmpD l[i].f to>=0
  ·refine ⟨(i:Int),.done λrec=>?_⟩
   rw [hd,bif_t hc]
   unfold exL;rw [if_pos hc]
  ·obtain ⟨t,r1⟩:=Qo2 hb hr hk hl f (i+1) (s+term b to l[i]) (by omega) ((hs.add (Qj5 h1 h2 hr)).mono (by omega))
   refine ⟨t,?_⟩
   have e:exL b to s (l[i]::l.drop (i+1))=exL b to (s+term b to l[i]) (l.drop (i+1)):=by
    rw [exL,if_neg hc]
   rw [e]
   exact .step (λrec=>by rw [hd,Qa hc]) r1
theorem Qo0:fr 0=([],false,[]):=Qn0
theorem accrue_exact {l:List Lg} {b:Int} {to:D3} (hb:0<=b/\b<=2) (hr:rightD to) (hk:okL l) (hl:l.length<=20000):z161.F b (l.map lgv) to.1 to.2.1 to.2.2=some (fr (exL b to 0 l)):=by
 obtain ⟨t,r⟩:=Qo2 hb hr hk hl l.length 0 0 (by omega) (Sq.zero (by decide))
 rw [List.drop_zero] at r
 have e:z161.l0 b (l.map lgv) (l.length:Int) to.1 to.2.1 to.2.2 ((0:Int),[],false,[])=some (t,(fr (exL b to 0 l)).1,(fr (exL b to 0 l)).2.1,(fr (exL b to 0 l)).2.2):=by
  have h:=r.lfp
  rw [Qo0] at h
  exact h
 unfold z161.F
 rw [List.length_map,e]
 rfl
def mExact (b:Int) (l:List Lg) (to:D3):Int:=if mLegs none l≠0 then mLegs none l else if ¬rightD to then 11 else if ¬(0<=b/\b<=2) then 2 else 0
theorem accrue_good (b:Int):z146.F b=some (decide (0<=b/\b<=2)):=by
 obtain ⟨w,e,hw⟩:=Qmd b
 unfold z146.F
 rw [e]
 simp only [Zb]
 rw [hw]
 congr 1
 by_cases h:0<=b/\b<=2
 ·rw [Zf (λe=>e h),Zt h];rfl
 ·rw [Zt h,Zf h];rfl
theorem accrue_Exact {l:List Lg} {b:Int} {to:D3} (hl:l.length<=20000):z171.F b (l.map lgv) to.1 to.2.1 to.2.2 =
  some (if mExact b l to=0 then ((fr (exL b to 0 l)).1,(fr (exL b to 0 l)).2.1,(fr (exL b to 0 l)).2.2,0) else ([],false,[],mExact b l to)):=by
 unfold z171.F mExact
 rw [accrue_Check (by omega)]
 simp only [Zb]
 by_cases h:mLegs none l=0
 ·rw [Zt h,Zn,Zc,date_Check,if_neg (show ¬(mLegs none l≠0) from λe=>e h)]
  simp only [Zb]
  by_cases h2:rightD to
  ·rw [if_pos h2,Zt rfl,Zn,Zc,accrue_good,if_neg (show ¬¬rightD to from λe=>e h2)]
   simp only [Zb]
   by_cases h3:0<=b/\b<=2
   ·rw [Zt h3,Zn,Zc,accrue_exact h3 h2 (W2 h) hl,if_neg (show ¬¬(0<=b/\b<=2) from λe=>e h3)]
    rfl
   ·rw [Zf h3,Zo,Zd,if_pos (show ¬(0<=b/\b<=2) from h3)]
    rfl
  ·rw [if_neg h2,Zf (by decide),Zo,Zd,if_pos (show ¬rightD to from h2)]
   rfl
 ·rw [Zf h,Zo,Zd,if_pos (show mLegs none l≠0 from h),if_neg h]
structure Made (l:List Lg):Prop where
 len:l.length<=6
 good:mLegs none l=0
 nums:∀x∈l,∃n r:Nat,x.op=txt n/\n<=5000000000/\x.rt=txt r/\r<1000
theorem Qd4 {l:List Lg} {b:Int} {to:D3} (hb:0<=b/\b<=2) (hr:rightD to) (hg:mLegs none l=0):mExact b l to=0:=by
 unfold mExact
 rw [if_neg (λe=>e hg),if_neg (λe=>e hr),if_neg (λe=>e hb)]
def Ll (l:List Lg):Prop:=l.length<=20000/\∀x∈l,x.op.length<=1000000
theorem Ll.put {l:List Lg} (h:Ll l) (k:Nat) {x:Lg} (hx:x.op.length<=1000000):Ll (l.set k x):=
 ⟨by rw [List.length_set];exact h.1,λy hy=>by
  rcases List.mem_or_eq_of_mem_set hy with hy|rfl
  ·exact h.2 y hy
  ·exact hx⟩
theorem month_Between {x y:D3} (h:rightD x) (h':rightD y):z155.F x.1 x.2.1 x.2.2 y.1 y.2.1 y.2.2=some (numD y-numD x,0):=by
 have b1:=Qy h;have b2:=Qy h'
 have h1:right x.1 x.2.1 x.2.2:=h
 have h2:right y.1 y.2.1 y.2.2:=h'
 unfold z155.F
 rw [date_Number,if_pos h1]
 simp only [Zb,decide_true,Zn,Zc]
 rw [date_Number,if_pos h2]
 simp only [Zb,decide_true,Zn,Zc]
 have e:wr .i64 (num y.1 y.2.1 y.2.2-num x.1 x.2.1 x.2.2)=numD y-numD x:=Qc (by have:numD y=num y.1 y.2.1 y.2.2:=rfl;have:numD x=num x.1 x.2.1 x.2.2:=rfl;omega) (by have:numD y=num y.1 y.2.1 y.2.2:=rfl;have:numD x=num x.1 x.2.1 x.2.2:=rfl;omega)
 rw [e]
structure Rt (l:List Lg):Prop where
 good:mLegs none l=0
 len:l.length<=20000
theorem Rt.exact {l:List Lg} (h:Rt l) {b:Int} (hb:0<=b/\b<=2) {to:D3} (hr:rightD to):z171.F b (l.map lgv) to.1 to.2.1 to.2.2=some ((fr (exL b to 0 l)).1,(fr (exL b to 0 l)).2.1,(fr (exL b to 0 l)).2.2,0):=by
 rw [accrue_Exact h.len,if_pos (Qd4 hb hr h.good)]
def halfR (x:Lg):Nat:=(tv 0 x.rt).toNat/2
def hf (x:Lg):Lg:={x with rt:=txt (halfR x)}
def hr2 (x:Lg):Lg:={x with rt:=txt (halfR x+halfR x)}
def g2 (y:Lg):Lg:={y with rt:=txt ((tv 0 y.rt).toNat+(tv 0 y.rt).toNat)}
def o2 (y:Lg):Lg:={y with op:=txt ((tv 0 y.op).toNat+(tv 0 y.op).toNat)}
theorem Sq.one:Sq 1 1:=Sq.int (z:=1) (by have:=sz_le (show Int.natAbs 1<10^1 by decide);omega) (Nat.le_refl _)
end Go.Proofs.YtgjncgiekniniaaGreatDoor.A
end
