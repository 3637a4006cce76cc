/- Part 4 of the proof of ReplanWhole.card. -/
import Derived.Test.YtihfdjkjpncjfaaGreatDoorDc3
set_option linter.unusedVariables false
set_option linter.unusedSimpArgs false
section
namespace Go.Proofs.YtihfdjkjpncjfaaGreatDoor.A
open Go
def sz (n:Nat):Nat:=(toB 10 n).length
theorem Jo (n:Nat):n<10^sz n:=Qbm b10
theorem sz_le {n k:Nat} (h:n<10^k):sz n<=k:=Yf b10 h
theorem Q5 {m n:Nat} (h:m<=n):sz m<=sz n:=sz_le (Nat.lt_of_le_of_lt h (Jo n))
theorem Qk (n:Nat):(lb n).length<=sz n:=Yf bL (Z16 (Jo n) (Nat.pow_le_pow_left (by decide) _))
theorem Qdv (n:Nat):(dg n).length<=sz n:=Yf b4 (Z16 (Jo n) (Nat.pow_le_pow_left (by decide) _))
theorem W3 (m n:Nat):sz (m*n)<=sz m+sz n:=sz_le (by rw [Z101];exact Nat.mul_lt_mul_of_lt_of_le (Jo m) (Z72 (Jo n)) (Z109 (by decide)))
theorem Js:sz 0=0:=by simp [sz,toB_zero]
theorem lb_zero:lb 0=[]:=toB_zero LB
def isD (b:UInt8):Bool:=decide (48<=b.toNat)&&decide (b.toNat<=57)
def digs (s:J1):Bool:=s.all isD
theorem Jt {s:J1}:digs s=true↔Q1 s:=by simp [digs,Q1,digit,isD]
theorem Qvl (b c:UInt8):(b == c)=decide (b.toNat=c.toNat):=by
 rw [Bool.eq_iff_iff];simp [UInt8.toNat_inj]
theorem Qup (b:UInt8):([48,49,50,51,52,53,54,55,56,57]:J1).contains b=isD b:=by
 rw [Bool.eq_iff_iff]
 simp only [List.contains_cons,List.contains_nil,Qvl,isD]
 simp
 omega
theorem Qgb {α:Type} {p:α->Bool}:∀{l:List α},l.dropWhile p=[]↔∀x∈l,p x=true
 |[]=>by simp
 |
  a::l=>by
  by_cases h:p a=true
  ·rw [List.dropWhile_cons_of_pos h,Qgb (l:=l)];simp [h]
  ·rw [List.dropWhile_cons_of_neg h];simp [h]
theorem Qok (s cs:J1):Lib.trimS s cs=[]↔∀b∈s,cs.contains b=true:=by
 unfold Lib.trimS Lib.trimLeftS Lib.trimRightS
 rw [Qgb]
 constructor
 ·intro h
  cases he:s.reverse.dropWhile (cs.contains ·) with
  |
   nil=>
   rw [Qgb] at he
   exact λb hb=>he b (List.mem_reverse.2 hb)
  |
   cons x l=>
   have h1:=List.head?_dropWhile_not (cs.contains ·) s.reverse
   rw [he] at h1
   have h2:=h x (by rw [he];simp)
   simp only [List.head?_cons] at h1
   rw [h2] at h1;simp at h1
 ·intro h
  have he:s.reverse.dropWhile (cs.contains ·)=[]:=Qgb.2 λb hb=>h b (List.mem_reverse.1 hb)
  rw [he];simp
theorem Qlj (s:J1) (hs:s.length<=9223372036854775807):∃r,z3.F s [48,49,50,51,52,53,54,55,56,57]=some r/\decide (r=[])=digs s:=by
 unfold z3.F
 rw [if_pos ⟨hs,by decide,by decide⟩]
 refine ⟨_,rfl,?_⟩
 rw [Bool.eq_iff_iff,decide_eq_true_iff,Qok,digs,Z23]
 simp only [Qup]
def numOK (s:J1):Bool:=!decide (s=[])&&digs s && !(decide (1<s.length)&&decide ((s.getD 0 0).toNat=48))
def mDigits (s:J1):Nat×Int:=if 4096<s.length then (0,7) else if numOK s then ((tv 0 s).toNat,0) else (0,5)
theorem Qrd {s:J1} {i:Nat} (hi:i<s.length) (h:(s.getD i 0).toNat<128):Utf8.decode ⟨s.toArray⟩ i=((s.getD i 0).toNat,1):=by
 have e:(ByteArray.mk s.toArray).get! (i+0)=s.getD i 0:=by
  show s.toArray[i+0]! = _
  simp [List.getD,hi]
 unfold Utf8.decode
 simp only [e]
 rw [if_pos h]
theorem Qya {n:Int} (h1:-2147483648<=n) (h2:n<2147483648):wr .i32 n=n:=by
 simp only [wr,IntKind.wrap,IntKind.signed,IntKind.bits]
 simp;omega
theorem Qoe {s:J1} (hs:Q1 s) (hl:s.length<=18):∀(f i:Nat) (d:Int),i+f=s.length->0<=d/\d<(10^i:Nat) ->
  Runs (λrec x=>z59.l2P s rec some x) (d,i) (tv d (s.drop i),s.length)
 |
  0,i,d,hf,_=>by
  have:i=s.length:=by omega
  subst this
  refine .done λrec=>?_
  unfold z59.l2P
  simp only
  rw [if_neg (by omega),Z26 (Z4 _)]
  rfl
 |
  f+1,i,d,hf,hd=>by
  have hi:i<s.length:=by omega
  have hb:=hs s[i] (Z15 hi)
  unfold digit at hb
  have eg:s.getD i 0=s[i]:=by simp [List.getD,hi]
  have hp:(10^i:Nat)<=10^17:=Z33 (by decide) (by omega)
  have hp':((10^i:Nat):Int)<=100000000000000000:=Int.ofNat_le.2 hp
  have ih:=Qoe hs hl f (i+1) (10*d+(s[i].toNat:Int)-48) (by omega) ⟨by omega,by rw [Z44,Z14];omega⟩
  rw [Z30 hi]
  refine .step (λrec=>?_) ih
  unfold z59.l2P
  simp only
  rw [if_pos hi,Qrd hi (by rw [eg];omega),eg]
  simp only
  rw [Qya (by omega) (by omega),Qo (n:=(s[i].toNat:Int)-48) (by omega) (by omega),Qo (n:=10*d) (by omega) (by omega),Qo (by omega) (by omega)]
  congr 2;omega
theorem Qwa {s:J1} {n j k:Nat} (hs:Q1 s) (hk:k<=s.length) (hk':k<=18) (hn:n<10^j) (hj:j<=8192) {R:Type} (rec done:(J1×Bool×J0)->Option R) :
  z59.j1011a rec done (k:Int) s (lb n)=rec (s.drop k,false,lb (n*1000000000000000000+(tv 0 (s.take k)).toNat)):=by
 have hds:Q1 (s.take k):=λb hb=>hs b (Z56 hb)
 have hlen:(s.take k).length=k:=by rw [Z8];omega
 have htb:=Qbj hds
 rw [hlen] at htb
 have hp:(10^k:Nat)<=10^18:=Z33 (by decide) hk'
 have hp':((10^k:Nat):Int)<=1000000000000000000:=Int.ofNat_le.2 hp
 have r:=Qoe hds (by omega) (s.take k).length 0 0 (by omega) ⟨Z99 0,by decide⟩
 have er:z59.l2a (s.take k) ((0:Int),0)=some (tv 0 (s.take k),(s.take k).length):=r.lfp
 obtain ⟨U,hU⟩:∃U:Nat,1000000000000000000=U:=⟨_,rfl⟩
 have hU':Int.toNat 1000000000000000000=U:=by omega
 have hUs:sz U<=19:=sz_le (by omega)
 have hsn:=Z11 (Qk n) (sz_le hn)
 have hsu:=Z11 (Qk U) hUs
 have hsm:=Z11 (Qk (n*U)) (Z11 (W3 n U) (Nat.add_le_add (sz_le hn) hUs))
 have hst:=Z11 (Qk (tv 0 (s.take k)).toNat) (sz_le (k:=18) (by omega))
 have e1:z27.F [(1000000000000000000:Int)]=some (lb U):=by rw [Yd (by omega),hU']
 have e2:z27.F [tv 0 (s.take k)]=some (lb (tv 0 (s.take k)).toNat):=Yd (by omega)
 have e3:z50.F (lb n) (lb U)=some (lb (n*U)):=Je (by omega)
 have e4:z52.F (lb (n*U)) (lb (tv 0 (s.take k)).toNat)=some (lb (n*U+(tv 0 (s.take k)).toNat)):=Qcc (by omega)
 have e5:(0:Int)<=(k:Int)/\(k:Int)<=((s.length:Nat):Int):=by omega
 rw [hU]
 unfold z59.j1011a
 rw [if_pos e5,Zi,er]
 simp only [Zb]
 rw [e1]
 simp only [Zb]
 rw [e3]
 simp only [Zb]
 rw [e2]
 simp only [Zb]
 rw [e4]
 simp only [Zb]
 rw [if_pos e5]
theorem Qm5:∀(m:Nat) (s:J1),s.length<=m->Q1 s->∀(n j:Nat) (first:Bool),n<10^j->j+s.length<=8192->((first=true/\n=0)\/(first=false/\s.length%18=0)) ->
  ∃f',Runs (λrec x=>z59.l0P rec some x) (s,first,lb n) ([],f',lb (tv n s).toNat)
 |
  0,s,hm,hs,n,j,first,hn,hj,hf=>by
  have:s=[]:=List.length_eq_zero_iff.1 (by omega)
  subst this
  refine ⟨first,.done λrec=>?_⟩
  simp [z59.l0P,tv]
 |
  m+1,s,hm,hs,n,j,first,hn,hj,hf=>by
  by_cases hne:s=[]
  ·subst hne
   refine ⟨first,.done λrec=>?_⟩
   simp [z59.l0P,tv]
  ·have hpos:0<s.length:=List.length_pos_iff.2 hne
   have key:∃k:Nat,0<k/\k<=s.length/\k<=18/\(n=0\/k=18)/\(s.length-k)%18=0 /\
     ∀rec,z59.l0P rec some (s,first,lb n)=z59.j1011a rec some (k:Int) s (lb n):=by
    have hd:(!decide (s=([]:J1)))=true:=by rw [Zf hne];rfl
    rcases hf with ⟨rfl,hn0⟩|⟨rfl,h18⟩
    ·have em:Int.tmod (s.length:Int) 18=((s.length%18:Nat):Int):=by rw [Jf (by omega)];rfl
     by_cases h0:s.length%18=0
     ·refine ⟨18,by omega,by omega,by omega,.inr rfl,by omega,λrec=>?_⟩
      unfold z59.l0P
      simp only [hd,Zn,Zd,Zc]
      rw [em,bif_t (by omega)];rfl
     ·refine ⟨s.length%18,by omega,Nat.mod_le _ _,by omega,.inl hn0,by omega,λrec=>?_⟩
      unfold z59.l0P
      simp only [hd,Zn,Zd,Zc]
      rw [em,Qb (by omega)]
    ·refine ⟨18,by omega,by omega,by omega,.inr rfl,by omega,λrec=>?_⟩
     unfold z59.l0P
     simp only [hd,Zo,Zd]
     rfl
   obtain ⟨k,k0,k1,k2,k3,k4,k5⟩:=key
   have hds:Q1 (s.take k):=λb hb=>hs b (Z56 hb)
   have hdd:Q1 (s.drop k):=λb hb=>hs b (Z67 hb)
   have hlen:(s.take k).length=k:=by rw [Z8];omega
   have htb:=Qbj hds
   rw [hlen] at htb
   have htv:tv n (s.take k)=((n*1000000000000000000+(tv 0 (s.take k)).toNat:Nat):Int):=by
    rw [Qfm,hlen]
    rcases k3 with h|h
    ·subst h;simp;omega
    ·subst h
     have:((10^18:Nat):Int)=1000000000000000000:=rfl
     rw [this];omega
   have hn':n*1000000000000000000+(tv 0 (s.take k)).toNat<10^(j+k):=by
    have hp0:0<10^j:=Z109 (by decide)
    rcases k3 with h|h
    ·subst h
     have:10^k<=10^(j+k):=Z33 (by decide) (by omega)
     omega
    ·subst h
     have e18:(10^(j+18):Nat)=10^j*1000000000000000000:=by rw [Z101]
     have e18':((10^18:Nat):Int)=1000000000000000000:=rfl
     rw [e18]
     have:(n+1)*1000000000000000000<=10^j*1000000000000000000:=Z3 _ hn
     omega
   obtain ⟨f',r⟩:=Qm5 m (s.drop k) (by rw [Z35];omega) hdd (n*1000000000000000000+(tv 0 (s.take k)).toNat) (j+k) false hn' (by rw [Z35];omega) (.inr ⟨rfl,by rw [Z35];exact k4⟩)
   refine ⟨f',.step (y:=(s.drop k,false,lb (n*1000000000000000000+(tv 0 (s.take k)).toNat))) (λrec=>?_) ?_⟩
   ·rw [k5,Qwa hs k1 k2 hn (by omega)]
   ·have e:tv n s=tv ((n*1000000000000000000+(tv 0 (s.take k)).toNat:Nat):Int) (s.drop k):=by
     conv=>lhs;rw [<-List.take_append_drop k s]
     rw [Qht,htv]
    rw [e];exact r
theorem digits_Parse (s:J1):z59.F s=some (lb (mDigits s).1,(mDigits s).2):=by
 unfold z59.F mDigits
 by_cases h1:4096<s.length
 ·rw [bif_t (by omega),if_pos h1,lb_zero]
 ·rw [Qb (by omega),if_neg h1]
  by_cases h2:s=[]
  ·subst h2;rw [bif_t rfl];simp [numOK,lb_zero]
  ·rw [Qb h2]
   obtain ⟨r,t1,t2⟩:=Qlj s (by omega)
   rw [t1]
   simp only [Zb]
   rw [t2]
   cases hd:digs s with
   |false=>simp [numOK,hd,lb_zero]
   |
    true=>
    have hds:=Jt.1 hd
    obtain ⟨f',r⟩:=Qm5 s.length s (Z4 _) hds 0 0 true (by decide) (by omega) (.inl ⟨rfl,rfl⟩)
    rw [lb_zero] at r
    have er:z59.l0 (s,true,[])=some ([],f',lb (tv ((0:Nat):Int) s).toNat):=r.lfp
    simp only [Zn,Zc]
    rw [er]
    have hpos:0<s.length:=List.length_pos_iff.2 h2
    by_cases h3:1<s.length
    ·rw [bif_t (by omega),if_pos (by omega)]
     by_cases h4:(s.getD 0 0).toNat=48
     ·rw [bif_t (by omega)]
      have:numOK s=false:=by simp [numOK,h3];intro _ _ ;simpa [List.getD] using h4
      rw [this];simp [lb_zero]
     ·rw [Qb (by omega)]
      have:numOK s=true:=by simp only [numOK,Zf h2,hd,Zf h4];simp
      rw [this];rfl
    ·rw [Qb (by omega)]
     have:numOK s=true:=by simp only [numOK,Zf h2,hd,Zf h3];simp
     rw [this];rfl
theorem Qh9 (a:Int) (h0:0<=a) (h1:a<9223372036854775808):wr .i64 ((BitVec.ofInt (IntKind.bits .i64) a &&& BitVec.ofInt (IntKind.bits .i64) (1:Int)).toNat:Int)=a%2:=by
 have e:(BitVec.ofInt (IntKind.bits .i64) a &&& BitVec.ofInt (IntKind.bits .i64) (1:Int)).toNat=(a%2).toNat:=by
  rw [BitVec.toNat_and]
  have e1:(BitVec.ofInt (IntKind.bits .i64) (1:Int)).toNat=2^1-1:=rfl
  have e2:(BitVec.ofInt (IntKind.bits .i64) a).toNat=(a%18446744073709551616).toNat:=by
   rw [BitVec.toNat_ofInt];rfl
  rw [e1,Nat.and_two_pow_sub_one_eq_mod,e2]
  omega
 rw [e,Qc (by omega) (by omega)];omega
theorem shr1 (a:Int):Int.fdiv a (2^(min 1 (64:Nat)))=a/2:=by
 rw [Z89 _ (by decide)];rfl
theorem Qfn:∀(f t n out:Nat),t<=f->t<9223372036854775808->sz out+t*sz n<=800000000 ->
  ∃n',Runs (λrec x=>z68.l0P rec some x) ((t:Int),lb n,lb out) ((0:Int),n',lb (out*n^t))
 |
  0,t,n,out,hf,ht,hb=>by
  have:t=0:=by omega
  subst this
  refine ⟨lb n,.done λrec=>?_⟩
  simp [z68.l0P]
 |
  f+1,t,n,out,hf,ht,hb=>by
  rcases Z12 t with h0|h0
  ·subst h0
   refine ⟨lb n,.done λrec=>?_⟩
   simp [z68.l0P]
  ·have hn:=Qk n
   have ho:=Qk out
   have hsq:=W3 n n
   have hon:=W3 out n
   have e2:(t:Int)/2=((t/2:Nat):Int):=by omega
   have em:(t:Int)%2=((t%2:Nat):Int):=by omega
   have hq:t*sz n=2*(t/2*sz n)+t%2*sz n:=by
    conv=>lhs;rw [<-Z65 t 2]
    rw [Z19,Z46]
   have hq2:t/2*sz (n*n)<=2*(t/2*sz n):=by
    have:=Z43 (t/2) hsq
    have e:t/2*(sz n+sz n)=2*(t/2*sz n):=by rw [Z117];omega
    omega
   have hpow:n^t=n^(t%2)*(n*n)^(t/2):=by
    rw [<-Nat.pow_two,<-Nat.pow_mul,<-Z101];congr 1;omega
   by_cases hodd:t%2=1
   ·rw [hodd,Z70] at hq
    by_cases h1:1<t
    ·have hge:1<=t/2:=by omega
     have hge':sz n<=t/2*sz n:=Nat.le_mul_of_pos_left _ hge
     obtain ⟨n',r⟩:=Qfn f (t/2) (n*n) (out*n) (by omega) (by omega) (by omega)
     refine ⟨n',.step (λrec=>?_) (by rw [hpow,hodd,Nat.pow_one,<-Z46];exact r)⟩
     unfold z68.l0P
     simp only
     rw [bif_t (by omega),Qh9 _ (by omega) (by omega),em,hodd,bif_t (by omega),Je (by omega)]
     simp only [Zb]
     rw [bif_t (by omega),Je (by omega),shr1,e2]
     rfl
    ·have ht1:t=1:=by omega
     subst ht1
     obtain ⟨n',r⟩:=Qfn f 0 n (out*n) (by omega) (by omega) (by omega)
     refine ⟨n',.step (λrec=>?_) (by simpa using r)⟩
     unfold z68.l0P
     simp only
     rw [bif_t (by omega),Qh9 _ (by omega) (by omega),bif_t (by decide),Je (by omega)]
     simp only [Zb]
     rw [Qb (by omega),shr1]
     rfl
   ·have h2:t%2=0:=by omega
    rw [h2,Nat.zero_mul,Z77] at hq
    have hge:1<=t/2:=by omega
    have hge':sz n<=t/2*sz n:=Nat.le_mul_of_pos_left _ hge
    obtain ⟨n',r⟩:=Qfn f (t/2) (n*n) out (by omega) (by omega) (by omega)
    refine ⟨n',.step (λrec=>?_) (by rw [hpow,h2,Nat.pow_zero,Z70];exact r)⟩
    unfold z68.l0P
    simp only
    rw [bif_t (by omega),Qh9 _ (by omega) (by omega),em,h2,Qb (by omega),bif_t (by omega),Je (by omega)]
    simp only [Zb]
    rw [shr1,e2]
theorem digits_power {n t:Nat} (ht:t<9223372036854775808) (h:t*sz n<=700000000):z68.F (lb n) (t:Int)=some (lb (n^t)):=by
 have h1:sz 1<=1:=sz_le (by decide)
 obtain ⟨n',r⟩:=Qfn t t n 1 (Z4 _) ht (by omega)
 have e:z68.l0 ((t:Int),lb n,lb 1)=some ((0:Int),n',lb (1*n^t)):=r.lfp
 unfold z68.F
 rw [Yd (by omega)]
 simp only [Zb]
 rw [show Int.toNat 1=1 from rfl,e,Z70]
 rfl
theorem digits_Ten {t:Nat} (ht:t<=4096):z69.F (t:Int)=some (lb (10^t),0):=by
 have h1:sz 10<=2:=sz_le (by decide)
 have h2:=Z43 t h1
 unfold z69.F
 rw [Qb (by omega),Qb (by omega),Yd (by omega)]
 simp only [Zb]
 rw [show Int.toNat 10=10 from rfl,digits_power (by omega) (by omega)]
 rfl
def Yu (a b:Nat):Prop:=z46.F (lb a) (lb b)=some (lb (a/b),lb (a%b),0)
def Qaz (M:Nat):Prop:=∀x y,x<=M->y<=M->0<y->Yu x y
theorem Wm {m n:Int}:cmpI m n<0↔m<n:=by unfold cmpI;split<;>(try split)<;>omega
theorem Qbd {m n:Int}:cmpI m n>0↔n<m:=by unfold cmpI;split<;>(try split)<;>omega
theorem Qa9 {m n:Int}:cmpI m n=0↔m=n:=by unfold cmpI;split<;>(try split)<;>omega
theorem Qef {a:Nat} (h0:0<a) (h:a<18446744073709551616):lb a=[(a:Int)]:=by
 show toB LB a=_
 rw [W5 bL h0,Z110 h,Nat.div_eq_of_lt h,toB_zero]
theorem Qm8 {a b:Int} (ha:0<=a/\a<18446744073709551616) (hb:0<b):z40.F 0 a b=some (a/b,a%b):=by
 unfold z40.F
 rw [Qb (by omega),Qb (by omega),bif_t rfl,if_neg (by omega),if_neg (by omega),Y1 ha.1,Jf ha.1]
 have h1:=Int.ediv_nonneg ha.1 (Int.le_of_lt hb)
 have h2:=Int.ediv_le_self b ha.1
 rw [Qo h1 (by omega)]
theorem Qy0 {a b:Int} (ha:0<=a/\a<18446744073709551616) (hb:0<b):z41.F [a] b=some ([a/b],a%b):=by
 have h0:z41.l0 [a] b ((0:Int),(0:Int),[(0:Int)])=some (a%b,(-1:Int),[a/b]):=by
  refine (Runs.step (y:=(a%b,(-1:Int),[a/b])) (λrec=>?_) (Runs.done λrec=>?_):Runs (λrec x=>z41.l0P [a] b rec some x) _ _).lfp
  ·unfold z41.l0P
   simp only [Z38]
   rw [bif_t (by omega),if_pos (by omega),show [a].getD (Int.toNat 0) 0=a from rfl,Qm8 ha hb]
   rfl
  ·unfold z41.l0P
   simp only
   rw [Qb (by omega)]
 unfold z41.F
 simp only [Z38]
 rw [if_pos (by omega)]
 show ((z41.l0 [a] b ((0:Int),wr .i64 0,[(0:Int)])).bind _)=_
 rw [Qc (by omega) (by omega),h0]
 rfl
theorem Qhl {a b:Nat} (h:a<b) (hs:(lb a).length<=900000000):Yu a b:=by
 unfold Yu z46.F
 rw [Ws]
 simp only [Zb]
 rw [Qb (by omega),Qb3 hs]
 simp only [Zb]
 have:cmpI (a:Int) b<0:=by unfold cmpI;rw [if_pos (by omega)];decide
 rw [bif_t this,Nat.div_eq_of_lt h,Z110 h,lb_zero]
theorem Qri {a b:Nat} (ha:a<18446744073709551616) (hb:0<b):Yu a b:=by
 have hl:(lb a).length<=1:=Yf bL (by simpa using ha)
 rcases Z39 a b with h|h
 ·exact Qhl h (by omega)
 ·unfold Yu z46.F
  rw [Ws]
  simp only [Zb]
  rw [Qb (by omega),Qb3 (by omega)]
  simp only [Zb]
  have:¬cmpI (a:Int) b<0:=by unfold cmpI;rw [if_neg (by omega)];split<;>omega
  rw [Qb this,Qef (by omega) ha,Qef hb (by omega),Jm (by show List.length _<=_;simp),Jm (by show List.length _<=_;simp)]
  simp only [Zb,Z38]
  rw [bif_t (by omega),if_pos (by omega),show [(b:Int)].getD 0 0=b from rfl,Qy0 (by omega) (by omega)]
  simp only [Zb]
  have b1:a/b<=a:=Z98 a b
  have b2:a%b<=a:=Nat.mod_le a b
  obtain ⟨q,hq⟩:∃q,a/b=q:=⟨_,rfl⟩
  obtain ⟨m,hm⟩:∃m,a%b=m:=⟨_,rfl⟩
  have e1:((a:Int)/b)=(q:Int):=by rw [<-hq];rfl
  have e2:((a:Int)%b)=(m:Int):=by rw [<-hm];rfl
  rw [hq] at b1 ⊢
  rw [hm] at b2 ⊢
  rw [e1,e2,Yd (by omega)]
  simp only [Zb]
  rw [Yd (by omega)]
  rfl
theorem quot_Gcd {M:Nat} (hD:Qaz M) {a b:Nat} (ha:a<=M) (hb:b<=M):z47.F (lb a) (lb b)=some (lb (Nat.gcd a b)):=by
 have key:∀(f a b:Nat),b<f->a<=M->b<=M->Runs (λrec x=>z47.l0P rec some x) (lb a,lb b) (lb (Nat.gcd a b),[]):=by
  intro f
  induction f with
  |zero=>intro a b h;omega
  |
   succ f ih=>
   intro a b h ha hb
   rcases Z12 b with h0|h0
   ·subst h0
    refine .done λrec=>?_
    unfold z47.l0P
    simp only [Ws,Zb]
    rw [Nat.gcd_zero_right,lb_zero];rfl
   ·have hm:=Z79 a h0
    have hmm:=Nat.mod_le a b
    have e:Nat.gcd a b=Nat.gcd b (a%b):=by rw [Nat.gcd_comm,Nat.gcd_rec,Nat.gcd_comm]
    rw [e]
    refine .step (λrec=>?_) (ih b (a%b) (by omega) hb (by omega))
    unfold z47.l0P
    simp only [Ws,Zb]
    rw [Zf (by omega),Zo,Zd,hD a b ha hb h0]
    rfl
 unfold z47.F
 have e:z47.l0 (lb a,lb b)=some (lb (Nat.gcd a b),[]):=(key (b+1) a b (by omega) ha hb).lfp
 rw [e];rfl
theorem Qm6 (z:Int):decide (cmpI z 0<0)=neg z:=by
 unfold cmpI;apply decide_eq_decide.2;split<;>(try split)<;>omega
theorem Qqd {z:Int} {g:Nat} (h:g∣z.natAbs) (h0:0<g):(z/(g:Int)).natAbs=z.natAbs/g/\(z/(g:Int)<0↔z<0):=by
 obtain ⟨k,hk⟩:=Int.ofNat_dvd_left.2 h
 subst hk
 have hg:(g:Int)≠0:=by omega
 rw [Int.mul_ediv_cancel_left _ hg,Z106,Z48,Nat.mul_div_cancel_left _ h0]
 refine ⟨rfl,?_⟩
 constructor
 ·intro h;exact Int.mul_neg_of_pos_of_neg (by omega) h
 ·intro h
  rcases Int.lt_or_le k 0 with h'|h'
  ·exact h'
  ·have:=Z42 (show (0:Int)<=g by omega) h';omega
theorem frac_made {M:Nat} (hD:Qaz M) {num:Int} {den:Nat} (h0:0<den) (hn:num.natAbs<=M) (hd:den<=M) (hs:sz den<=700000000) :
  z48.F (lb num.natAbs) (neg num) (lb den)=some (lb (mkRat num den).num.natAbs,neg (mkRat num den).num,lb ((mkRat num den).den-1)):=by
 have hg:0<Nat.gcd num.natAbs den:=Nat.gcd_pos_of_pos_right _ h0
 have hgd:Nat.gcd num.natAbs den<=den:=Nat.gcd_le_right _ h0
 have hdv:=Nat.gcd_dvd_right num.natAbs den
 have hdv2:=Nat.gcd_dvd_left num.natAbs den
 have hp:0<den/Nat.gcd num.natAbs den:=Nat.div_pos hgd hg
 have hle:den/Nat.gcd num.natAbs den<=den:=Z98 _ _
 have hsz:=Z11 (Qk _) (Z11 (Q5 hle) hs)
 obtain ⟨q1,q2⟩:=Qqd hdv2 hg
 unfold z48.F z31.F
 simp only [Zb]
 rw [quot_Gcd hD hn hd]
 simp only [Zb]
 rw [Rat.num_mkRat,Rat.den_mkRat,if_neg (by omega),if_neg (by omega),Nat.gcd_comm den]
 generalize Nat.gcd num.natAbs den=g at *
 have d1:z46.F (lb num.natAbs) (lb g)=_:=hD _ _ hn (by omega) hg
 have d2:z46.F (lb den) (lb g)=_:=hD _ _ hd (by omega) hg
 rw [d1]
 simp only [Zb]
 rw [d2]
 simp only [Zb]
 rw [Yd (by omega)]
 simp only [Zb]
 rw [show Int.toNat 1=1 from rfl,Qgi (by omega),if_pos (by omega)]
 simp only [Zb]
 rw [W6]
 simp only [Zb]
 rw [Qm6,Yp (z:=num/(g:Int)) q1.symm (by
  have hz:num/(g:Int)<0↔num<0:=q2
  by_cases h:num<0
  ·exact .inl ⟨Zt h,by omega⟩
  ·exact .inr ⟨Zf h,by omega⟩)]
 rfl
abbrev fr (q:Rat):J0×Bool×J0:=(lb q.num.natAbs,neg q.num,lb (q.den-1))
theorem frac_Of {M:Nat} (hD:Qaz M) {num den:Int} (h0:den≠0) (hn:num.natAbs<=M) (hd:den.natAbs<=M) (hs:sz den.natAbs<=700000000) :
  z49.F (lb num.natAbs) (neg num) (lb den.natAbs) (neg den)=some ((fr (Rat.divInt num den)).1,(fr (Rat.divInt num den)).2.1,(fr (Rat.divInt num den)).2.2,0):=by
 have hc:cmpI den 0=if den<0 then -1 else 1:=by
  unfold cmpI
  by_cases h:den<0
  ·rw [if_pos h,if_pos h]
  ·rw [if_neg h,if_neg h,if_neg h0]
 unfold z49.F
 rw [W6]
 simp only [Zb]
 rw [hc]
 by_cases h:den<0
 ·have e:Rat.divInt num den=mkRat (-num) den.natAbs:=by
   have:den = -((den.natAbs:Nat):Int):=by omega
   conv=>lhs;rw [this]
   rw [Rat.divInt_neg',Rat.divInt_ofNat]
  rw [if_pos h,Qb (by decide),bif_t rfl,Qps]
  simp only [Zb]
  unfold z49.j4 z31.F
  simp only [Zb]
  rw [frac_made hD (by omega) (by omega) hd hs,e]
  rfl
 ·have e:Rat.divInt num den=mkRat num den.natAbs:=by
   have:den=((den.natAbs:Nat):Int):=by omega
   conv=>lhs;rw [this]
   rw [Rat.divInt_ofNat]
  rw [if_neg h,Qb (by decide),Qb (by decide)]
  unfold z49.j4 z31.F
  simp only [Zb]
  rw [frac_made hD (by omega) hn hd hs,e]
  rfl
theorem J5 (q:Rat) (a:J0) (b:Bool) (hs:sz q.den<=700000000):z53.F a b (lb (q.den-1))=some (lb q.den):=by
 have h1:sz 1<=1:=sz_le (by decide)
 have h2:=Z11 (Qk (q.den-1)) (Z11 (Q5 (Nat.sub_le _ _)) hs)
 have h3:=Z11 (Qk 1) h1
 unfold z53.F
 rw [Yd (by omega)]
 simp only [Zb]
 rw [show Int.toNat 1=1 from rfl,Qcc (by omega),Nat.sub_add_cancel q.den_pos]
 rfl
theorem Qf3 (q:Rat) (a:J0) (b:Bool) (hs:sz q.den<=700000000):z54.F a b (lb (q.den-1))=some (lb (q.den:Int).natAbs,neg (q.den:Int)):=by
 unfold z54.F
 rw [J5 q a b hs]
 simp only [Zb]
 rw [Yp (z:=(q.den:Int)) (by omega) (.inr ⟨rfl,by omega⟩)]
 rfl
theorem Qqq (q r:Rat):q/r=Rat.divInt (q.num*r.den) (q.den*r.num):=by
 rw [Rat.div_def,Rat.inv_def]
 conv=>lhs;rw [<-Rat.num_divInt_den q,Rat.divInt_mul_divInt]
theorem Qo4 {M:Nat} (hD:Qaz M) {q r:Rat} (h0:r≠0) (hn:(q.num*r.den).natAbs<=M) (hd:(q.den*r.num).natAbs<=M) (hs:sz q.num.natAbs+sz r.den<=600000000) (hs':sz r.num.natAbs+sz q.den<=600000000) :
  z55.F (lb q.num.natAbs) (neg q.num) (lb (q.den-1)) (lb r.num.natAbs) (neg r.num) (lb (r.den-1))=some ((fr (q/r)).1,(fr (q/r)).2.1,(fr (q/r)).2.2,0):=by
 have e1:sz (r.den:Int).natAbs=sz r.den:=rfl
 have e2:sz (q.den:Int).natAbs=sz q.den:=rfl
 have l1:=Qk q.num.natAbs
 have l2:=Qk (r.den:Int).natAbs
 have l3:=Qk (q.den:Int).natAbs
 have l4:=Qk r.num.natAbs
 have hr:r.num≠0:=λh=>h0 (Rat.num_eq_zero.1 h)
 have hqd:=q.den_nz
 have m1:=W3 (q.den:Int).natAbs r.num.natAbs
 rw [<-Z106] at m1
 unfold z55.F
 rw [Qf3 r _ _ (by omega)]
 simp only [Zb]
 rw [Qaa (by omega)]
 simp only [Zb]
 rw [Qf3 q _ _ (by omega)]
 simp only [Zb]
 rw [Qaa (by omega)]
 simp only [Zb]
 rw [frac_Of hD (Int.mul_ne_zero (by omega) hr) hn hd (by show sz _<=_;omega),Qqq]
 rfl
def cutNeg (s:J1):J1×Bool:=match s with|[]=>([],false)|b::t=>if b=45 then (t,true) else (b::t,false)
theorem Qmn (s:J1):(cutNeg s).1.length<=s.length:=by
 unfold cutNeg;split
 ·simp
 ·split<;>simp
theorem Qkj (s:J1):z58.F s [45]=some (cutNeg s):=by
 unfold z58.F z57.F z56.F cutNeg
 cases s with
 |nil=>rfl
 |
  cons b t=>
  have e1:([45]:J1).length=1:=rfl
  have e2:Int.toNat ((1:Nat):Int)=1:=rfl
  simp only [e1,e2]
  rw [bif_t (by simp;omega),if_pos (by simp;omega)]
  simp only [Zb,List.take_succ_cons,List.take_zero,List.drop_succ_cons,Z34,List.cons.injEq,and_true]
  by_cases h:b=45
  ·rw [Zt h,if_pos h,if_pos (by simp;omega)];rfl
  ·rw [Zf h,if_neg h];rfl
def mWhole (s:J1):Int×Int:=
 if (mDigits (cutNeg s).1).2≠0 then (0,(mDigits (cutNeg s).1).2)
 else if (cutNeg s).2&&decide ((mDigits (cutNeg s).1).1=0) then (0,5)
 else (if (cutNeg s).2 then -((mDigits (cutNeg s).1).1:Int) else (mDigits (cutNeg s).1).1,0)
theorem whole_Parse (s:J1):z76.F s=some (lb (mWhole s).1.natAbs,neg (mWhole s).1,(mWhole s).2):=by
 unfold z76.F mWhole
 rw [Qkj]
 simp only [Zb]
 rw [digits_Parse]
 simp only [Zb]
 generalize mDigits (cutNeg s).1=d
 generalize (cutNeg s).2=below
 by_cases h:d.2=0
 ·have h':¬(d.2≠0):=λhh=>hh h
  rw [Zt h,if_neg h']
  simp only [Zn,Zc]
  cases below with
  |
   true=>
   simp only [Zd,Z81,if_true]
   rw [Ws]
   simp only [Zb]
   by_cases h0:d.1=0
   ·rw [Zt h0]
    simp only [if_true,Zd]
    rw [show Int.natAbs 0=0 from rfl,lb_zero];rfl
   ·rw [Zf h0]
    simp only [Zc]
    rw [Yp (z:=-(d.1:Int)) (by omega) (.inl ⟨rfl,by omega⟩)]
    simp
  |
   false=>
   simp only [Zc,Z59]
   rw [Yp (z:=(d.1:Int)) (by omega) (.inr ⟨rfl,by omega⟩)]
   simp
 ·rw [Zf h,if_pos h]
  simp only [Zo,Zd]
  rw [show Int.natAbs 0=0 from rfl,lb_zero];rfl
def cutDot:J1->J1×Option J1
 |[]=>([],none)
 |b::t=>if b=46 then ([],some t) else (b::(cutDot t).1,(cutDot t).2)
theorem Qhc:∀{t:J1},(cutDot t).2=none->(cutDot t).1=t
 |[],_=>rfl
 |
  b::t,h=>by
  unfold cutDot at h ⊢
  split at h
  ·simp at h
  ·rename_i hb
   rw [if_neg hb]
   simp only at h ⊢
   rw [Qhc h]
theorem Qjl:∀{t r:J1},(cutDot t).2=some r->t=(cutDot t).1++46::r
 |[],r,h=>by simp [cutDot] at h
 |
  b::t,r,h=>by
  unfold cutDot at h ⊢
  split at h
  ·rename_i hb
   rw [if_pos hb,hb]
   simp only [Zs] at h
   rw [h];rfl
  ·rename_i hb
   rw [if_neg hb]
   simp only at h ⊢
   conv=>lhs;rw [Qjl h]
   rfl
theorem Qtd (b:UInt8) (t:J1) (c:UInt8):Jk (b::t) c=if b=c then 0 else if Jk t c<0 then -1 else Jk t c+1:=by
 unfold Jk
 rw [Z9,List.range_succ_eq_map,List.find?_cons]
 by_cases h:b=c
 ·simp [h]
 ·have h1:((b::t).getD 0 0 == c)=false:=by simp [h]
  rw [h1,if_neg h]
  simp only
  rw [List.find?_map]
  have e:((λi=>(b::t).getD i 0 == c)∘Nat.succ)=λi=>t.getD i 0 == c:=by funext i;simp [List.getD]
  rw [e]
  cases (List.range t.length).find? λi=>t.getD i 0 == c with
  |none=>simp
  |some i=>simp;omega
theorem Qm9:∀t:J1,Jk t 46=if (cutDot t).2=none then -1 else ((cutDot t).1.length:Int)
 |[]=>by simp [Jk,cutDot]
 |
  b::t=>by
  have e:cutDot (b::t)=if b=46 then ([],some t) else (b::(cutDot t).1,(cutDot t).2):=by rw [cutDot]
  rw [Qtd,Qm9 t,e]
  by_cases h:b=46
  ·simp [h]
  ·rw [if_neg h,if_neg h]
   by_cases h2:(cutDot t).2=none
   ·simp [h2]
   ·simp [h2];omega
def plainB (s:J1):Bool:=!decide (s=[])&&digs s
def zeros (s:J1):Bool:=s.all (· == 48)
theorem dec_plain (s:J1) (h:s.length<=9223372036854775807):z60.F s=some (plainB s):=by
 unfold z60.F plainB
 by_cases h0:s=[]
 ·rw [Zt h0];rfl
 ·rw [Zf h0]
  obtain ⟨r,t1,t2⟩:=Qlj s h
  simp only [Zo,Zd]
  rw [t1]
  simp only [Zb]
  rw [t2];simp
theorem Qvw (b:UInt8):([48]:J1).contains b=(b == 48):=by
 simp only [List.contains_cons,List.contains_nil,Bool.or_false]
theorem Qpe (s:J1) (hs:s.length<=9223372036854775807):∃r,z3.F s [48]=some r/\decide (r=[])=zeros s:=by
 unfold z3.F
 rw [if_pos ⟨hs,by decide,by decide⟩]
 refine ⟨_,rfl,?_⟩
 rw [Bool.eq_iff_iff,decide_eq_true_iff,Qok,zeros,Z23]
 simp only [Qvw]
theorem Qnt:∀{s:J1},Q1 s->tv 0 (trimL s [48])=tv 0 s/\Q1 (trimL s [48])/\(trimL s [48]).length<=s.length/\(trimL s [48]≠[]->((trimL s [48]).getD 0 0).toNat≠48)
 |[],h=>by simp [trimL,tv,Q1]
 |
  b::s,h=>by
  have ih:=Qnt (s:=s) λx hx=>h x (by simp [hx])
  by_cases hb:b=48
  ·have e:trimL (b::s) [48]=trimL s [48]:=by unfold trimL;exact List.dropWhile_cons_of_pos (by rw [hb];decide)
   rw [e]
   refine ⟨?_,ih.2.1,by rw [Z9];omega,ih.2.2.2⟩
   rw [ih.1,hb];rfl
  ·have e:trimL (b::s) [48]=b::s:=by unfold trimL;exact List.dropWhile_cons_of_neg (by simp [hb])
   rw [e]
   refine ⟨rfl,h,Z4 _,λ_ hh=>hb (UInt8.toNat_inj.1 hh)⟩
theorem Qkt {s:J1} (hd:Q1 s) (hl:s.length<=4096):z59.F (if trimL s [48]=[] then [48] else trimL s [48])=some (lb (tv 0 s).toNat,0):=by
 obtain ⟨h1,h2,h3,h4⟩:=Qnt hd
 rw [digits_Parse]
 by_cases h:trimL s [48]=[]
 ·rw [if_pos h]
  rw [h] at h1
  rw [<-h1];rfl
 ·rw [if_neg h,<-h1]
  unfold mDigits
  have:numOK (trimL s [48])=true:=by
   unfold numOK
   rw [Zf h,Jt.2 h2,Zf (h4 h)];simp
  rw [if_neg (by omega),this];rfl
def Qat (below:Bool) (a:J1) (o:Option J1):Int×Nat×Int:=
 if !plainB a||(o.isSome && !plainB (o.getD []))||(decide (1<a.length)&&decide ((a.getD 0 0).toNat=48)) then (0,0,5)
 else if below&&zeros (a++o.getD []) then (0,0,5)
 else if 64<(o.getD []).length then (0,0,10)
 else (if below then -tv 0 (a++o.getD []) else tv 0 (a++o.getD []),(o.getD []).length,0)
def mDec (s:J1):Int×Nat×Int:=if 4096<s.length then (0,0,7) else Qat (cutNeg s).2 (cutDot (cutNeg s).1).1 (cutDot (cutNeg s).1).2
abbrev decR (m:Int×Nat×Int):J0×Bool×Int×Int:=(lb m.1.natAbs,neg m.1,(m.2.1:Int),m.2.2)
theorem Jc (e:Int):decR (0,0,e)=([],false,0,e):=by unfold decR;simp [lb_zero]
theorem Qkq (n:Int) (h:0<=n) (below:Bool):z25.F (lb n.toNat) below=some (lb (if below then -n else n).natAbs,neg (if below then -n else n)):=by
 cases below
 ·rw [Yp (z:=n) (by omega) (.inr ⟨rfl,h⟩)];rfl
 ·rw [Yp (z:=-n) (by omega) (.inl ⟨rfl,by omega⟩)];rfl
theorem Qx1 {rest a b:J1} {below lead:Bool} (h1:rest.take a.length=a) (h2:rest.drop (a.length+1)=b) (ha:Q1 a) (hb:Q1 b) (hl:a.length+b.length<=4096) :
  z61.j14 lead (rest,below) (a.length:Int)=some (decR (if lead then (0,0,5) else if below&&zeros (a++b) then (0,0,5) else if 64<b.length then (0,0,10) else (if below then -tv 0 (a++b) else tv 0 (a++b),b.length,0))):=by
 have e1:(wr .i64 ((a.length:Int)+1)).toNat=a.length+1:=by rw [Qc (by omega) (by omega)];omega
 have hab:Q1 (a++b):=λx hx=>(Z50.1 hx).elim (ha x) (hb x)
 have hln:(a++b).length<=4096:=by rw [Z10];exact hl
 have key:z61.j16 false (rest,below) (a.length:Int)=some (decR (if 64<b.length then (0,0,10) else (if below then -tv 0 (a++b) else tv 0 (a++b),b.length,0))):=by
  unfold z61.j16
  simp only [e1,Zi,h1,h2,Zc]
  by_cases h64:64<b.length
  ·rw [bif_t (by omega),if_pos h64,Jc]
  ·rw [Qb (by omega),if_neg h64,if_pos (by omega)]
   have et:z4.F (a++b) [48]=some (trimL (a++b) [48]):=by unfold z4.F;rw [if_pos ⟨by decide,by decide⟩]
   rw [et]
   simp only [Zb]
   have ep:=Qkt hab hln
   have fin:∀x,z59.F x=some (lb (tv 0 (a++b)).toNat,0)->z61.j18 x (rest,below) (a.length:Int)=some (decR (if below then -tv 0 (a++b) else tv 0 (a++b),b.length,0)):=λx hx=>by
    unfold z61.j18
    rw [hx]
    simp only [Zb,e1,h2]
    rw [Qkq _ (Qbj hab).1]
    rfl
   by_cases ht:trimL (a++b) [48]=[]
   ·rw [if_pos ht] at ep
    rw [bif_t ht];exact fin _ ep
   ·rw [if_neg ht] at ep
    rw [Qb ht];exact fin _ ep
 unfold z61.j14
 simp only [e1,Zi,h1,h2]
 cases lead with
 |true=>simp only [Zd,if_true];rw [Jc]
 |
  false=>
  simp only [Zc]
  rw [if_neg Bool.false_ne_true]
  cases below with
  |false=>simp only [Zc,Z59];rw [key];rfl
  |
   true=>
   obtain ⟨r,t1,t2⟩:=Qpe (a++b) (by omega)
   simp only [Zd,Z81]
   rw [if_pos (by omega),t1]
   simp only [Zb]
   rw [t2]
   cases hz:zeros (a++b) with
   |true=>unfold z61.j16;simp only [Zd,if_true];rw [Jc]
   |false=>rw [key];rfl
theorem Qvz {a:J1} {below lead:Bool} (ha:Q1 a) (hl:a.length<=4096) :
  z61.j22 lead (a,below)=some (decR (if lead then (0,0,5) else if below&&zeros a then (0,0,5) else (if below then -tv 0 a else tv 0 a,0,0))):=by
 have key:z61.j24 (a,below)=some (decR (if below then -tv 0 a else tv 0 a,0,0)):=by
  unfold z61.j24
  simp only [Z45]
  rw [if_pos (by simp;omega)]
  have et:z4.F a [48]=some (trimL a [48]):=by unfold z4.F;rw [if_pos ⟨by decide,by decide⟩]
  rw [et]
  simp only [Zb]
  have ep:=Qkt ha hl
  have fin:∀x,z59.F x=some (lb (tv 0 a).toNat,0)->z61.j26 x (a,below)=some (decR (if below then -tv 0 a else tv 0 a,0,0)):=λx hx=>by
   unfold z61.j26
   rw [hx]
   simp only [Zb]
   rw [Qkq _ (Qbj ha).1]
   rfl
  by_cases ht:trimL a [48]=[]
  ·rw [if_pos ht] at ep
   rw [bif_t ht];exact fin _ ep
  ·rw [if_neg ht] at ep
   rw [Qb ht];exact fin _ ep
 unfold z61.j22
 simp only [Z45]
 cases lead with
 |true=>simp only [Zd,if_true];rw [Jc]
 |
  false=>
  simp only [Zc]
  rw [if_neg Bool.false_ne_true]
  cases below with
  |false=>simp only [Zc,Z59];rw [key];rfl
  |
   true=>
   obtain ⟨r,t1,t2⟩:=Qpe a (by omega)
   simp only [Zd,Z81]
   rw [if_pos (by simp;omega),t1]
   simp only [Zb]
   rw [t2]
   cases hz:zeros a with
   |true=>simp only [Zd,if_true];rw [Jc]
   |false=>simp only [Zc];rw [key];rfl
theorem Qda {s:J1} (h:plainB s=true):Q1 s/\s≠[]:=by
 unfold plainB at h
 rw [Z7] at h
 exact ⟨Jt.1 h.2,by simpa using h.1⟩
theorem Qkz {a:J1} (hne:a≠[]) {α:Type} (f:Bool->Option α) :
  (bif decide ((a.length:Int)>1) then (if (0:Int)<=(0:Int)/\(0:Int)<(a.length:Int) then f (decide (((a.getD 0 0).toNat:Int)=(48:Int))) else none) else f false)=f (decide (1<a.length)&&decide ((a.getD 0 0).toNat=48)):=by
 have hpos:=List.length_pos_iff.2 hne
 by_cases h:1<a.length
 ·rw [bif_t (by omega),if_pos (by omega),Zt h,Z81]
  congr 1;exact decide_eq_decide.2 (by omega)
 ·rw [Qb (by omega),Zf h,Z59]
theorem dec_Parse (s:J1):z61.F s=some (decR (mDec s)):=by
 unfold z61.F mDec
 by_cases h0:4096<s.length
 ·rw [bif_t (by omega),if_pos h0,Jc]
 ·rw [Qb (by omega),if_neg h0,Qkj]
  simp only [Zb]
  have hlen:=Qmn s
  generalize cutNeg s=c at *
  obtain ⟨rest,below⟩:=c
  simp only at hlen ⊢
  have hp0:z60.F ([]:J1)=some false:=rfl
  by_cases hdot:([46]:J1)=rest
  ·subst hdot
   rw [bif_t rfl]
   simp only [Z38,List.take_zero,hp0,Zb]
   unfold z61.j4
   simp only [Zo,Zd]
   have:Qat below (cutDot [46]).1 (cutDot [46]).2=(0,0,5):=by simp [cutDot,Qat,plainB]
   rw [this,Jc]
   rfl
  ·rw [Qb hdot,if_pos (by simp)]
   have hi:z2.F rest ((([46]:J1).getD 0 0).toNat:Int)=some (Jk rest 46):=rfl
   rw [hi]
   simp only [Zb]
   rw [Qm9]
   cases ho:(cutDot rest).2 with
   |
    none=>
    have ha:=Qhc ho
    rw [if_pos rfl,Qb (by omega),ha,dec_plain _ (by omega)]
    simp only [Zb]
    unfold Qat
    simp only [Option.isSome_none,Z59,Bool.or_false,Option.getD_none,Z45,Z54]
    cases hpl:plainB rest with
    |false=>unfold z61.j22;simp only [Zo,Zd,Bool.true_or,if_true];rw [Jc]
    |
     true=>
     obtain ⟨hd,hne⟩:=Qda hpl
     simp only [Zn,Zc,Bool.false_or]
     rw [Qkz hne λb=>z61.j22 b (rest,below),Qvz hd (by omega)]
     rfl
   |
    some b=>
    have hab:=Qjl ho
    generalize (cutDot rest).1=a at *
    have hl:rest.length=a.length+(b.length+1):=by rw [hab];simp
    have t1:rest.take a.length=a:=by rw [hab];simp
    have t2:rest.drop (a.length+1)=b:=by
     rw [hab,<-Z104];simp
    have e1:(wr .i64 ((a.length:Int)+1))=((a.length+1:Nat):Int):=by rw [Qc (by omega) (by omega)];omega
    rw [if_neg (by simp),bif_t (by omega),if_pos (by omega)]
    simp only [e1,Zi,t1,t2]
    rw [if_pos (by omega),dec_plain a (by omega)]
    simp only [Zb]
    unfold Qat
    simp only [Option.isSome_some,Z81,Z52]
    cases hpl:plainB a with
    |false=>unfold z61.j14;simp only [Zo,Zd,Bool.true_or,if_true];rw [Jc]
    |
     true=>
     obtain ⟨hd,hne⟩:=Qda hpl
     simp only [Zn,Zc,Bool.false_or]
     rw [dec_plain b (by omega)]
     simp only [Zb]
     cases hpb:plainB b with
     |false=>unfold z61.j14;simp only [Zo,Zd,Bool.true_or,if_true];rw [Jc]
     |
      true=>
      obtain ⟨hdb,hneb⟩:=Qda hpb
      simp only [Zn,Zc,Bool.false_or]
      rw [Qkz hne λx=>z61.j14 x (rest,below) (a.length:Int),Qx1 t1 t2 hd hdb (by omega)]
abbrev leap (y:Int):Prop:=y%4=0/\¬y%100=0\/y%400=0
abbrev goodY (y:Int):Prop:=1<=y/\y<=9999
def dDays (y m:Int):Int:=if ¬goodY y\/m<1\/12<m then 0 else if m=2 then (if leap y then 29 else 28) else if m=4\/m=6\/m=9\/m=11 then 30 else 31
abbrev right (y m d:Int):Prop:=1<=d/\d<=dDays y m
theorem Qce {a b:Int} (hb:0<b):Int.tmod a b=0↔a%b=0:=by
 rw [<-Int.dvd_iff_tmod_eq_zero,<-Int.dvd_iff_emod_eq_zero]
theorem date_good (y:Int):z19.F y=some (decide (goodY y)):=by
 unfold z19.F
 by_cases h:y>=1
 ·rw [bif_t h];congr 1;exact decide_eq_decide.2 (by omega)
 ·rw [Qb h];congr 1;symm;exact Zf (by omega)
theorem date_Leap (y:Int):z20.F y=some (decide (goodY y/\leap y)):=by
 unfold z20.F
 rw [date_good]
 simp only [Zb,Qce (show (0:Int)<4 by decide),Qce (show (0:Int)<100 by decide),Qce (show (0:Int)<400 by decide)]
 by_cases h:goodY y
 ·rw [bif_t h]
  by_cases h4:y%4=0
  ·rw [bif_t h4]
   by_cases h1:y%100=0
   ·rw [Zt h1];simp only [Zn,Zc];congr 1;exact decide_eq_decide.2 (by omega)
   ·rw [Zf h1];simp only [Zo,Zd];congr 1;symm;exact Zt (by omega)
  ·rw [Qb h4];congr 1;exact decide_eq_decide.2 (by omega)
 ·rw [Qb h];congr 1;symm;exact Zf (λhh=>h hh.1)
theorem date_Days (y m:Int):z21.F y m=some (dDays y m):=by
 unfold z21.F dDays
 rw [date_good]
 simp only [Zb]
 by_cases hy:goodY y
 ·rw [Zt hy]
  simp only [Zn,Zc]
  by_cases h1:m<1
  ·rw [bif_t h1,if_pos (by omega)]
  ·rw [Qb h1]
   by_cases h12:m>12
   ·rw [bif_t h12,if_pos (by omega)]
   ·rw [Qb h12,if_neg (by omega)]
    by_cases h2:m=2
    ·subst h2
     rw [bif_t rfl,if_pos rfl,date_Leap]
     simp only [Zb]
     by_cases hl:leap y
     ·rw [Zt ⟨hy,hl⟩,if_pos hl];rfl
     ·rw [Zf (λhh=>hl hh.2),if_neg hl];rfl
    ·rw [Qb h2,if_neg h2]
     have:m=1\/m=3\/m=4\/m=5\/m=6\/m=7\/m=8\/m=9\/m=10\/m=11\/m=12:=by omega
     rcases this with rfl|rfl|rfl|rfl|rfl|rfl|rfl|rfl|rfl|rfl|rfl<;>rfl
 ·rw [Zf hy,if_pos (.inl hy)];rfl
theorem Qyg (y:Int):z7.F y=some (decide (goodY y/\leap y)):=by
 unfold z7.F z7.j1
 simp only [Qce (show (0:Int)<4 by decide),Qce (show (0:Int)<100 by decide),Qce (show (0:Int)<400 by decide)]
 by_cases h1:y<1
 ·rw [bif_t h1];congr 1;symm;exact Zf (by omega)
 ·rw [Qb h1]
  by_cases h2:y>9999
  ·rw [bif_t h2];congr 1;symm;exact Zf (by omega)
  ·rw [Qb h2]
   by_cases h4:y%400=0
   ·rw [bif_t h4];congr 1;symm;exact Zt (by omega)
   ·rw [Qb h4]
    by_cases h3:y%4=0
    ·rw [bif_t h3];congr 1
     by_cases h5:y%100=0
     ·rw [Zt h5];symm;exact Zf (by omega)
     ·rw [Zf h5];symm;exact Zt (by omega)
    ·rw [Qb h3];congr 1;symm;exact Zf (by omega)
theorem Qhb (y m:Int):z8.F y m=some (dDays y m):=by
 unfold z8.F z8.j1 dDays
 by_cases h0:y<1
 ·rw [bif_t h0,if_pos (by omega)]
 ·rw [Qb h0]
  by_cases h9:y>9999
  ·rw [bif_t h9,if_pos (by omega)]
  ·rw [Qb h9]
   by_cases h1:m<1
   ·rw [bif_t h1,if_pos (by omega)]
   ·rw [Qb h1]
    by_cases h12:m>12
    ·rw [bif_t h12,if_pos (by omega)]
    ·rw [Qb h12,if_neg (by omega)]
     by_cases h2:m=2
     ·rw [bif_t h2,if_pos h2,Qyg]
      simp only [Zb]
      by_cases hl:leap y
      ·rw [Zt ⟨by omega,hl⟩,if_pos hl];rfl
      ·rw [Zf (λhh=>hl hh.2),if_neg hl];rfl
     ·rw [Qb h2,if_neg h2]
      by_cases g4:m=4
      ·rw [bif_t g4,if_pos (.inl g4)]
      ·rw [Qb g4]
       by_cases g6:m=6
       ·rw [bif_t g6,if_pos (by omega)]
       ·rw [Qb g6]
        by_cases g9:m=9
        ·rw [bif_t g9,if_pos (by omega)]
        ·rw [Qb g9]
         by_cases g11:m=11
         ·rw [bif_t g11,if_pos (by omega)]
         ·rw [Qb g11,if_neg (by omega)]
theorem Qjd (y m:Int):0<=dDays y m/\dDays y m<=31:=by
 unfold dDays;split
 ·omega
 ·split
  ·split<;>omega
  ·split<;>omega
theorem Qdp {y m:Int} (hy:goodY y) (hm:1<=m/\m<=12):28<=dDays y m:=by
 unfold dDays;rw [if_neg (by omega)];split
 ·split<;>omega
 ·split<;>omega
theorem Q6 {y m d:Int} (h:right y m d):goodY y/\1<=m/\m<=12/\1<=d/\d<=31:=by
 have h1:=h.2
 have h2:=Qjd y m
 unfold dDays at h1
 split at h1
 ·have:=h.1;omega
 ·rename_i hn
  have:=h.1
  refine ⟨by omega,by omega,by omega,by omega,by omega⟩
theorem date_Check (y m d:Int):z22.F y m d=some (if right y m d then 0 else 11):=by
 unfold z22.F
 rw [date_Days]
 simp only [Zb]
 by_cases h:d<1
 ·rw [bif_t h,if_neg (by omega)]
 ·rw [Qb h]
  by_cases h':d>dDays y m
  ·rw [bif_t h',if_neg (by omega)]
  ·rw [Qb h',if_pos (by omega)]
def addM (y m d k:Int):Int×Int×Int:=(((12*y+m-1)+k)/12,((12*y+m-1)+k)%12+1,min d (dDays (((12*y+m-1)+k)/12) (((12*y+m-1)+k)%12+1)))
abbrev okM (y m k:Int):Prop:=12<=(12*y+m-1)+k/\(12*y+m-1)+k<120000
theorem Qig {y m d k:Int} (h:right y m d) (ho:okM y m k):right (addM y m d k).1 (addM y m d k).2.1 (addM y m d k).2.2:=by
 have h1:=Q6 h
 have h2:=Qdp (y:=((12*y+m-1)+k)/12) (m:=((12*y+m-1)+k)%12+1) (by omega) (by omega)
 show 1<=min d _/\min d _<=dDays _ _
 simp only [addM]
 omega
theorem Qwx (a b:Int):(if a<b then a else b)=min b a:=by omega
theorem month_Add {y m d k:Int}:z128.F y m d k=some (if right y m d/\okM y m k then ((addM y m d k).1,(addM y m d k).2.1,(addM y m d k).2.2,0) else (0,0,0,11)):=by
 unfold z128.F
 rw [date_Check]
 simp only [Zb]
 by_cases h:right y m d
 ·have hg:=Q6 h
  rw [if_pos h]
  simp only [decide_true,Zn,Zc]
  by_cases h1:k < -119988
  ·rw [bif_t h1,if_neg (by omega)]
  ·rw [Qb h1]
   by_cases h2:k>119988
   ·rw [bif_t h2,if_neg (by omega)]
   ·rw [Qb h2]
    unfold z128.j2 z128.j3
    rw [Qc (n:=12*y) (by omega) (by omega),Qc (n:=12*y+m) (by omega) (by omega),Qc (n:=12*y+m-1) (by omega) (by omega),Qc (n:=12*y+m-1+k) (by omega) (by omega)]
    by_cases h3:12*y+m-1+k<12
    ·rw [bif_t h3,if_neg (by omega)]
    ·rw [Qb h3,Y1 (by omega),Qc (n:=(12*y+m-1+k)/12) (by omega) (by omega)]
     by_cases h4:(12*y+m-1+k)/12>9999
     ·rw [bif_t h4,if_neg (by omega)]
     ·rw [Qb h4,Jf (by omega),Qc (n:=(12*y+m-1+k)%12+1) (by omega) (by omega),date_Days,if_pos (by exact ⟨h,by omega⟩)]
      simp only [Zb,Qwx]
      rfl
 ·rw [if_neg h,if_neg (λhh=>h hh.1)];rfl
def aheadY (y:Int):Int:=365*(y-1)+(y-1)/4-(y-1)/100+(y-1)/400
def cumD (y m:Int):Int:=(367*m-362)/12-(if m<=2 then 0 else if leap y then 1 else 2)
def num (y m d:Int):Int:=aheadY y+cumD y m+d
theorem Qed (y:Int):cumD y 1=0:=rfl
theorem Qby {y m:Int} (hy:goodY y) (hm:1<=m/\m<=12):cumD y (m+1)=cumD y m+dDays y m:=by
 unfold cumD dDays
 rw [if_neg (show ¬(¬goodY y\/m<1\/12<m) by omega)]
 have:m=1\/m=2\/m=3\/m=4\/m=5\/m=6\/m=7\/m=8\/m=9\/m=10\/m=11\/m=12:=by omega
 by_cases hl:leap y
 ·simp only [if_pos hl];rcases this with rfl|rfl|rfl|rfl|rfl|rfl|rfl|rfl|rfl|rfl|rfl|rfl<;>rfl
 ·simp only [if_neg hl];rcases this with rfl|rfl|rfl|rfl|rfl|rfl|rfl|rfl|rfl|rfl|rfl|rfl<;>rfl
theorem Qd4 (y:Int):aheadY (y+1)=aheadY y+cumD y 13:=by
 unfold aheadY cumD
 rw [if_neg (by decide)]
 by_cases hl:leap y
 ·rw [if_pos hl];omega
 ·rw [if_neg hl];omega
theorem Qf1 {y y':Int} (h:y<=y'):aheadY y<=aheadY y':=by unfold aheadY;omega
theorem Qbw {y m m':Int} (h:m<=m') (h1:1<=m):cumD y m<=cumD y m':=by
 unfold cumD
 split<;>split<;>(try split)<;>omega
theorem Qep {y m d y' m' d':Int} (h:right y m d) (h':right y' m' d') (hl:y<y'\/y=y'/\(m<m'\/m=m'/\d<d')):num y m d<num y' m' d':=by
 have g:=Q6 h
 have g':=Q6 h'
 unfold num
 rcases hl with hl|⟨rfl,hl|⟨rfl,hl⟩⟩
 ·have s1:=Qby g.1 ⟨g.2.1,g.2.2.1⟩
  have s2:=Qbw (y:=y) (m:=m+1) (m':=13) (by omega) (by omega)
  have s3:=Qd4 y
  have s4:=Qf1 (y:=y+1) (y':=y') (by omega)
  have s5:=Qbw (y:=y') (m:=1) (m':=m') (by omega) (by omega)
  rw [Qed] at s5
  omega
 ·have s1:=Qby g.1 ⟨g.2.1,g.2.2.1⟩
  have s2:=Qbw (y:=y) (m:=m+1) (m':=m') (by omega) (by omega)
  omega
 ·omega
theorem Qv9 {y:Int} (h:-20000<=y/\y<=20000) (h1:1<=y):z110.F y=some (aheadY y):=by
 unfold z110.F aheadY
 rw [Qc (n:=y-1) (by omega) (by omega),Y1 (by omega),Y1 (by omega),Y1 (by omega)]
 rw [Qc (n:=365*(y-1)) (by omega) (by omega),Qc (n:=(y-1)/4) (by omega) (by omega),Qc (n:=(y-1)/100) (by omega) (by omega),Qc (n:=(y-1)/400) (by omega) (by omega)]
 rw [Qc (n:=365*(y-1)+(y-1)/4) (by omega) (by omega),Qc (n:=365*(y-1)+(y-1)/4-(y-1)/100) (by omega) (by omega),Qc (by omega) (by omega)]
theorem Qcz {y:Int} (h:1<=y/\y<=20000):0<=aheadY y/\aheadY y<=8000000:=by unfold aheadY;omega
theorem Qto {y m:Int} (h:1<=m/\m<=13):0<=cumD y m/\cumD y m<=366:=by
 unfold cumD;split
 ·omega
 ·split<;>omega
theorem Qn4 {y:Int} (hy:goodY y):∀(f:Nat) (n k m:Int),1<=k->k+f=m->m<=12->0<=n/\n<=10000000-40*f ->
  Runs (λrec x=>z111.l0P y m rec some x) (n,k) (n+cumD y m-cumD y k,m)
 |
  0,n,k,m,h1,hk,hm,hn=>by
  have:k=m:=by omega
  subst this
  refine .done λrec=>?_
  unfold z111.l0P
  simp only
  rw [Qb (by omega)];congr 2;omega
 |
  f+1,n,k,m,h1,hk,hm,hn=>by
  have hd:=Qjd y k
  have ih:=Qn4 hy f (n+dDays y k) (k+1) m (by omega) (by omega) hm (by omega)
  have e:n+dDays y k+cumD y m-cumD y (k+1)=n+cumD y m-cumD y k:=by rw [Qby hy (by omega)];omega
  rw [e] at ih
  refine .step (λrec=>?_) ih
  unfold z111.l0P
  simp only
  rw [bif_t (by omega),date_Days]
  simp only [Zb]
  rw [Qc (by omega) (by omega),Qc (by omega) (by omega)]
theorem Qol {y m d:Int} (h:right y m d):1<=num y m d/\num y m d<=3652059:=by
 have g:=Q6 h
 have s1:=Qby g.1 ⟨g.2.1,g.2.2.1⟩
 have s2:=Qbw (y:=y) (m:=m+1) (m':=13) (by omega) (by omega)
 have s3:=Qd4 y
 have s4:=Qf1 (y:=y+1) (y':=10000) (by omega)
 have s5:=Qcz (y:=y) (by omega)
 have s6:=Qto (y:=y) (m:=m) (by omega)
 have s7:aheadY 10000=3652059:=by decide
 unfold num;omega
theorem date_Number (y m d:Int):z111.F y m d=some (if right y m d then (num y m d,0) else (0,11)):=by
 unfold z111.F
 rw [date_Check]
 simp only [Zb]
 by_cases h:right y m d
 ·have g:=Q6 h
  have b:=Qol h
  have ha:=Qcz (y:=y) (by omega)
  have r:=Qn4 g.1 (m-1).toNat (aheadY y) 1 m (by omega) (by omega) (by omega) (by omega)
  have e:z111.l0 y m (aheadY y,(1:Int))=some (aheadY y+cumD y m-cumD y 1,m):=r.lfp
  rw [if_pos h,if_pos h]
  simp only [decide_true,Zn,Zc]
  rw [Qv9 (by omega) (by omega)]
  simp only [Zb]
  rw [e]
  simp only [Zb]
  rw [Qed,Int.sub_zero]
  have e2:aheadY y+cumD y m+d=num y m d:=rfl
  rw [e2,Qc (by omega) (by omega)]
 ·rw [if_neg h,if_neg h];rfl
def dcmp (a b c a' b' c':Int):Int:=if a<a' then -1 else if a'<a then 1 else if b<b' then -1 else if b'<b then 1 else if c<c' then -1 else if c'<c then 1 else 0
theorem or3 (x y z:Int):z17.F [x,y,z]=some (if x≠0 then x else if y≠0 then y else z):=by
 have e0:wr .i64 (0+1)=1:=by decide
 have e1:wr .i64 (1+1)=2:=by decide
 have e2:wr .i64 (2+1)=3:=by decide
 have r3:Runs (λrec i=>z17.l0P 0 [x,y,z] 3 rec some i) 3 (.inl 3):=.done λrec=>by unfold z17.l0P;rw [Qb (by decide)]
 have r2:Runs (λrec i=>z17.l0P 0 [x,y,z] 3 rec some i) 2 (if z≠0 then .inr z else .inl 3):=by
  by_cases h:z=0
  ·rw [if_neg (by omega)]
   refine .step (λrec=>?_) r3
   unfold z17.l0P
   rw [bif_t (by decide),if_pos (by simp),show [x,y,z].getD (Int.toNat 2) 0=z from rfl,Zt h,e2];rfl
  ·rw [if_pos h]
   refine .done λrec=>?_
   unfold z17.l0P
   rw [bif_t (by decide),if_pos (by simp),show [x,y,z].getD (Int.toNat 2) 0=z from rfl,Zf h];rfl
 have r1:Runs (λrec i=>z17.l0P 0 [x,y,z] 3 rec some i) 1 (if y≠0 then .inr y else if z≠0 then .inr z else .inl 3):=by
  by_cases h:y=0
  ·rw [if_neg (by omega)]
   refine .step (λrec=>?_) r2
   unfold z17.l0P
   rw [bif_t (by decide),if_pos (by simp),show [x,y,z].getD (Int.toNat 1) 0=y from rfl,Zt h,e1];rfl
  ·rw [if_pos h]
   refine .done λrec=>?_
   unfold z17.l0P
   rw [bif_t (by decide),if_pos (by simp),show [x,y,z].getD (Int.toNat 1) 0=y from rfl,Zf h];rfl
 have r0:Runs (λrec i=>z17.l0P 0 [x,y,z] 3 rec some i) 0 (if x≠0 then .inr x else if y≠0 then .inr y else if z≠0 then .inr z else .inl 3):=by
  by_cases h:x=0
  ·rw [if_neg (by omega)]
   refine .step (λrec=>?_) r1
   unfold z17.l0P
   rw [bif_t (by decide),if_pos (by simp),show [x,y,z].getD (Int.toNat 0) 0=x from rfl,Zt h,e0];rfl
  ·rw [if_pos h]
   refine .done λrec=>?_
   unfold z17.l0P
   rw [bif_t (by decide),if_pos (by simp),show [x,y,z].getD (Int.toNat 0) 0=x from rfl,Zf h];rfl
 have e:z17.l0 0 [x,y,z] 3 0=_:=r0.lfp
 unfold z17.F
 show ((z17.l0 0 [x,y,z] 3 0).bind _)=_
 rw [e]
 simp only [Zb]
 by_cases hx:x=0<;>by_cases hy:y=0<;>by_cases hz:z=0<;>simp [hx,hy,hz]
theorem date_Cmp (a b c a' b' c':Int):z18.F a b c a' b' c'=some (dcmp a b c a' b' c'):=by
 unfold z18.F
 rw [Qd1]
 simp only [Zb]
 rw [Qd1]
 simp only [Zb]
 rw [Qd1]
 simp only [Zb]
 rw [or3]
 simp only [Zb]
 congr 1
 unfold cmpI dcmp
 rcases Z84 a a' with h|h|h<;>rcases Z84 b b' with g|g|g<;>rcases Z84 c c' with k|k|k <;>
  (repeat' split)<;>omega
theorem Qmy {y m d y' m' d':Int} (h:right y m d) (h':right y' m' d'):dcmp y m d y' m' d'=cmpI (num y m d) (num y' m' d'):=by
 by_cases e:y=y'/\m=m'/\d=d'
 ·obtain ⟨rfl,rfl,rfl⟩:=e
  unfold dcmp cmpI;simp
 ·by_cases hl:y<y'\/y=y'/\(m<m'\/m=m'/\d<d')
  ·have:=Qep h h' hl
   rw [show cmpI (num y m d) (num y' m' d') = -1 from by unfold cmpI;rw [if_pos this]]
   unfold dcmp
   (repeat' split)<;>omega
  ·have:=Qep h' h (by omega)
   rw [show cmpI (num y m d) (num y' m' d')=1 from by unfold cmpI;rw [if_neg (by omega),if_neg (by omega)]]
   unfold dcmp
   (repeat' split)<;>omega
theorem Qkv {s:J1} (h:Q1 s):sz (tv 0 s).toNat<=s.length:=sz_le (by have:=Qbj h;omega)
theorem Qy1 (s:J1):sz (mDigits s).1<=4096:=by
 have h0:sz 0<=4096:=by rw [Js];omega
 unfold mDigits
 split
 ·exact h0
 ·split
  ·rename_i h1 h2
   unfold numOK at h2
   simp only [Z7] at h2
   have:=Qkv (Jt.1 h2.1.2)
   show sz (tv 0 s).toNat<=4096
   omega
  ·exact h0
theorem Qq8 (s:J1):sz (mWhole s).1.natAbs<=4096:=by
 have h:=Qy1 (cutNeg s).1
 have h0:sz 0<=4096:=by rw [Js];omega
 unfold mWhole
 split
 ·exact h0
 ·split
  ·exact h0
  ·show sz (if _ then _ else _:Int).natAbs<=_
   split
   ·rw [Int.natAbs_neg];exact h
   ·exact h
def mMoney (s:J1):Int×Int:=
 if (mWhole s).2≠0 then (0,(mWhole s).2) else if (mWhole s).1<0\/10^30<(mWhole s).1 then (0,19) else ((mWhole s).1,0)
theorem terms_greatest:z77.F=some (lb (Int.natAbs (10^30)),neg (10^30)):=by
 unfold z77.F
 have h:=digits_Ten (t:=30) (by decide)
 rw [show ((30:Nat):Int)=30 from rfl] at h
 rw [h]
 simp only [Zb]
 rw [Yp (z:=10^30) (by decide) (.inr ⟨rfl,by decide⟩)]
 rfl
theorem terms_Money (s:J1):z78.F s=some (lb (mMoney s).1.natAbs,neg (mMoney s).1,(mMoney s).2):=by
 have hz:=Qq8 s
 unfold z78.F mMoney
 rw [whole_Parse]
 simp only [Zb]
 generalize mWhole s=w at *
 have hn:lb (Int.natAbs 0)=[]:=lb_zero
 by_cases h:w.2=0
 ·rw [Zt h,if_neg (by omega)]
  simp only [Zn,Zc]
  rw [W6]
  simp only [Zb]
  by_cases h1:w.1<0
  ·rw [bif_t (Wm.2 h1),if_pos (.inl h1),hn];rfl
  ·rw [Qb (λh=>h1 (Wm.1 h)),terms_greatest]
   simp only [Zb]
   have l1:=Qk w.1.natAbs
   have l2:(lb (Int.natAbs (10^30))).length<=31:=Z11 (Qk _) (sz_le (by decide))
   have l3:sz w.1.natAbs<=4096:=hz
   rw [Qdg (by omega)]
   simp only [Zb]
   by_cases h2:10^30<w.1
   ·rw [bif_t (Qbd.2 h2),if_pos (.inr h2),hn];rfl
   ·rw [Qb (λh=>h2 (Qbd.1 h)),if_neg (by omega)]
 ·rw [Zf h,if_pos h,hn];rfl
theorem Qqc (s:J1):(mDec s).2.1<=64/\sz (mDec s).1.natAbs<=4096:=by
 have h0:sz (Int.natAbs 0)<=4096:=by show sz 0<=4096;rw [Js];omega
 unfold mDec
 split
 ·exact ⟨Z94 _,h0⟩
 ·rename_i hl
  have hc:=Qmn s
  generalize (cutNeg s).1=t at *
  unfold Qat
  split
  ·exact ⟨Z94 _,h0⟩
  ·rename_i hp
   split
   ·exact ⟨Z94 _,h0⟩
   ·split
    ·exact ⟨Z94 _,h0⟩
    ·rename_i h64
     refine ⟨by show List.length _<=64;omega,?_⟩
     have hd:Q1 ((cutDot t).1++(cutDot t).2.getD [])/\((cutDot t).1++(cutDot t).2.getD []).length<=4096:=by
      simp only [Bool.or_eq_true,not_or,Z75,Bool.not_eq_false,Z7] at hp
      obtain ⟨⟨p1,p2⟩,p3⟩:=hp
      have q1:=(Qda (by simpa using p1)).1
      cases ho:(cutDot t).2 with
      |
       none=>
       have:=Qhc ho
       simp only [Option.getD_none,Z45]
       exact ⟨q1,by rw [this];omega⟩
      |
       some b=>
       have:=Qjl ho
       rw [ho] at p2
       have q2:=(Qda (s:=b) (by simpa using p2)).1
       simp only [Z52]
       refine ⟨λx hx=>(Z50.1 hx).elim (q1 x) (q2 x),?_⟩
       have hlen:t.length=(cutDot t).1.length+(b.length+1):=by
        conv=>lhs;rw [this]
        simp
       rw [Z10];omega
     have h1:=Z11 (Qkv hd.1) hd.2
     have h2:=(Qbj hd.1).1
     show sz (if _ then _ else _:Int).natAbs<=_
     have e:∀z:Int,0<=z->z.natAbs=z.toNat:=λz hz=>by omega
     split
     ·rw [Int.natAbs_neg,e _ h2];exact h1
     ·rw [e _ h2];exact h1
theorem dec_ten {t:Nat} (ht:t<=4096):z70.F (t:Int)=some (lb (10^t:Nat),false):=by
 unfold z70.F
 rw [digits_Ten ht]
 simp only [Zb]
 rw [whole_Of];rfl
theorem Qod {t:Nat} (ht:t<=4096):z70.F (t:Int)=some (lb ((10^t:Nat):Int).natAbs,neg ((10^t:Nat):Int)):=by
 rw [dec_ten ht]
 have:neg ((10^t:Nat):Int)=false:=Zf (Int.not_lt.2 (Z55 _))
 rw [this];rfl
theorem Qfg (t:Nat):sz (10^t)<=t+1:=sz_le (by rw [Z44];have:0<10^t:=Z109 (by decide);omega)
theorem Qom {c:Int} {s t:Nat} (h:s<=t) (ht:t<=4096) (hc:sz c.natAbs<=100000000):z71.F (lb c.natAbs) (neg c) (s:Int) (t:Int)=some (lb (c*(10^(t-s):Nat)).natAbs,neg (c*(10^(t-s):Nat))):=by
 have l1:=Qk c.natAbs
 have l2:=Qk ((10^(t-s):Nat):Int).natAbs
 have l3:=Qfg (t-s)
 have l4:sz ((10^(t-s):Nat):Int).natAbs=sz (10^(t-s)):=rfl
 unfold z71.F
 rw [Qc (by omega) (by omega),show (t:Int)-s=((t-s:Nat):Int) by omega,Qod (by omega)]
 simp only [Zb]
 rw [Qaa (by omega)]
 rfl
theorem Qtk {c c':Int} {s s':Nat} (hs:s<=2000) (hs':s'<=2000) (hc:sz c.natAbs<=100000000) (hc':sz c'.natAbs<=100000000) :
  z72.F (lb c.natAbs) (neg c) (s:Int) (lb c'.natAbs) (neg c') (s':Int)=some (cmpI (c*(10^(max s s'-s):Nat)) (c'*(10^(max s s'-s'):Nat))):=by
 have e:(if (s':Int)>(s:Int) then (s':Int) else (s:Int))=((max s s':Nat):Int):=by split<;>omega
 have m1:=W3 c.natAbs (10^(max s s'-s))
 have m2:=W3 c'.natAbs (10^(max s s'-s'))
 have t1:=Qfg (max s s'-s)
 have t2:=Qfg (max s s'-s')
 have l1:=Qk (c*(10^(max s s'-s):Nat)).natAbs
 have l2:=Qk (c'*(10^(max s s'-s'):Nat)).natAbs
 have e1:(c*(10^(max s s'-s):Nat)).natAbs=c.natAbs*10^(max s s'-s):=by rw [Z106];rfl
 have e2:(c'*(10^(max s s'-s'):Nat)).natAbs=c'.natAbs*10^(max s s'-s'):=by rw [Z106];rfl
 have hc1:sz c.natAbs<=100000000:=hc
 have hc2:sz c'.natAbs<=100000000:=hc'
 rw [<-e1] at m1
 rw [<-e2] at m2
 unfold z72.F
 rw [e,Qom (by omega) (by omega) hc]
 simp only [Zb]
 rw [Qom (by omega) (by omega) hc']
 simp only [Zb]
 rw [Qdg (by omega)]
 rfl
theorem Qcp (n:Int) {d:Nat} (hd:0<d):(mkRat n d).num.natAbs<=n.natAbs:=by
 rw [Rat.num_mkRat,if_neg (by omega),Nat.gcd_comm]
 have hg:0<Nat.gcd n.natAbs d:=Nat.gcd_pos_of_pos_right _ hd
 rw [(Qqd (Nat.gcd_dvd_left n.natAbs d) hg).1]
 exact Z98 _ _
theorem Qcr (n:Int) {d:Nat} (hd:0<d):(mkRat n d).den<=d:=by
 rw [Rat.den_mkRat,if_neg (by omega)]
 exact Z98 _ _
theorem Qzh {M:Nat} (hD:Qaz M) {c:Int} {s:Nat} (hs:s<=4096) (hc:c.natAbs<=M) (hM:10^s<=M):z74.F (lb c.natAbs) (neg c) (s:Int)=some (fr (mkRat c (10^s))):=by
 have hp:0<10^s:=Z109 (by decide)
 have l:=Qfg s
 unfold z74.F
 rw [Qod hs]
 simp only [Zb]
 rw [frac_Of (num:=c) (den:=((10^s:Nat):Int)) hD (by exact_mod_cast (Nat.ne_of_gt hp)) hc (by show 10^s<=M;exact hM) (by show sz (10^s)<=_;omega),Rat.divInt_ofNat]
 rfl
def mRate (s:J1):Rat×Int:=
 if (mDec s).2.2≠0 then (0,(mDec s).2.2)
 else if (mDec s).1<0\/1000*(10^(mDec s).2.1:Nat)<(mDec s).1\/12<(mDec s).2.1 then (0,18)
 else (mkRat (mDec s).1 (10^(mDec s).2.1)/100,0)
theorem Qoo:fr 0=([],false,[]):=by
 show (lb 0,neg 0,lb 0)=_
 rw [lb_zero];rfl
theorem Qel (e:Int):some (([]:J0),false,([]:J0),e)=some ((fr (0:Rat)).1,(fr (0:Rat)).2.1,(fr (0:Rat)).2.2,e):=by
 rw [Qoo]
theorem Qw1:fr 100=(lb (Int.natAbs 100),neg 100,[]):=by
 show (lb 100,neg 100,lb 0)=_
 rw [lb_zero];rfl
theorem Qpi:Qaz 1000000000000000000:=λx y hx hy h0=>Qri (by omega) h0
theorem terms_Rate (s:J1):z75.F s=some ((fr (mRate s).1).1,(fr (mRate s).1).2.1,(fr (mRate s).1).2.2,(mRate s).2):=by
 obtain ⟨hb1,hb2⟩:=Qqc s
 unfold z75.F mRate
 rw [dec_Parse]
 simp only [Zb,decR]
 generalize mDec s=d at *
 obtain ⟨c,sc,e⟩:=d
 simp only at *
 have hcz:sz c.natAbs<=4096:=hb2
 by_cases h:e=0
 ·rw [Zt h,if_neg (by omega)]
  simp only [Zn,Zc]
  rw [whole_From (by omega)]
  simp only [Zb]
  have ho:z63.F (lb (Int.natAbs 1000)) (neg 1000) 0=some (lb (Int.natAbs 1000),neg 1000,0,0):=rfl
  rw [ho]
  simp only [Zb]
  unfold z64.F z73.F
  simp only [Zb]
  rw [W6]
  simp only [Zb]
  by_cases h1:c<0
  ·rw [bif_t (Wm.2 h1),if_pos (.inl h1)];exact Qel 18
  ·rw [Qb (λh=>h1 (Wm.1 h))]
   have hk:sz (Int.natAbs 1000)<=4:=sz_le (by decide)
   have hcmp:=Qtk (c:=c) (c':=1000) (s:=sc) (s':=0) (by omega) (by omega) (by omega) (by omega)
   rw [show ((0:Nat):Int)=0 from rfl] at hcmp
   rw [hcmp]
   simp only [Zb,Nat.max_zero,Nat.sub_self,Nat.pow_zero,Nat.sub_zero,Int.natCast_one,Int.mul_one]
   by_cases h2:1000*((10^sc:Nat):Int)<c
   ·rw [bif_t (Qbd.2 h2),if_pos (.inr (.inl h2))];exact Qel 18
   ·rw [Qb (λh=>h2 (Qbd.1 h))]
    by_cases h3:12<sc
    ·rw [bif_t (by omega),if_pos (.inr (.inr h3))];exact Qel 18
    ·rw [Qb (by omega),if_neg (by omega)]
     have hp12:10^sc<=10^12:=Z33 (by decide) (by omega)
     have hp0:0<10^sc:=Z109 (by decide)
     have n1:=Qcp c hp0
     have n2:=Qcr c hp0
     have hd0:=(mkRat c (10^sc)).den_pos
     unfold z75.j8
     rw [Qzh Qpi (by omega) (by omega) (by omega)]
     simp only [Zb]
     rw [whole_From (by omega)]
     simp only [Zb]
     have hf:z29.F (lb (Int.natAbs 100)) (neg 100)=some (fr 100):=by rw [Qw1];rfl
     rw [hf]
     simp only [Zb]
     generalize mkRat c (10^sc)=q at *
     have hq:=Qo4 Qpi (q:=q) (r:=100) (by decide)
      (by rw [show (100:Rat).den=1 from rfl];simp;omega)
      (by rw [show (100:Rat).num=100 from rfl,Z106];show q.den*100<=_;omega)
      (by
        rw [show (100:Rat).den=1 from rfl]
        have a1:sz q.num.natAbs<=20:=sz_le (by omega)
        have a2:sz 1<=1:=sz_le (by decide)
        omega)
      (by
        rw [show (100:Rat).num=100 from rfl]
        have a1:sz q.den<=20:=sz_le (by omega)
        have a2:sz (Int.natAbs 100)<=3:=sz_le (by decide)
        omega)
     rw [hq]
     rfl
 ·rw [Zf h,if_pos h];exact Qel e
structure Tm where
 p:List UInt8
 r:List UInt8
 kind:Int
 basis:Int
 mode:Int
 y:Int
 m:Int
 d:Int
 every:Int
 count:Int
abbrev Qcn (e:Int):Prop:=e=1\/e=2\/e=3\/e=4\/e=6\/e=12
abbrev kindsOK (t:Tm):Prop:=(0<=t.kind/\t.kind<=2)/\(0<=t.basis/\t.basis<=2)/\(0<=t.mode/\t.mode<=4)/\Qcn t.every
def mCheck (t:Tm):Int:=
 if (mMoney t.p).2≠0 then (mMoney t.p).2 else if (mMoney t.p).1=0 then 19 else if (mRate t.r).2≠0 then (mRate t.r).2
 else if ¬kindsOK t then 2 else if t.count<1\/1200<t.count then 6 else if right t.y t.m t.d/\okM t.y t.m (t.every*t.count) then 0 else 11
theorem terms_Word (k:Int):∃w,z124.F k=some w/\decide (w=[])=decide (¬(0<=k/\k<=2)):=by
 unfold z124.F
 by_cases h:k<0
 ·rw [bif_t h];exact ⟨_,rfl,by simp;omega⟩
 ·rw [Qb h]
  by_cases h':k>=3
  ·rw [bif_t h'];exact ⟨_,rfl,by simp;omega⟩
  ·rw [Qb h']
   have:k=0\/k=1\/k=2:=by omega
   rcases this with rfl|rfl|rfl<;>exact ⟨_,rfl,rfl⟩
theorem Qpa (k:Int):∃w,z106.F k=some w/\decide (w=[])=decide (¬(0<=k/\k<=2)):=by
 unfold z106.F z104.F
 by_cases h:k>=0
 ·rw [bif_t h]
  by_cases h':k<3
  ·have:k=0\/k=1\/k=2:=by omega
   rcases this with rfl|rfl|rfl<;>exact ⟨_,rfl,rfl⟩
  ·rw [Zf h'];exact ⟨_,rfl,by simp;omega⟩
 ·rw [Qb h];exact ⟨_,rfl,by simp;omega⟩
theorem Qwk (k:Int):∃w,z126.F k=some w/\decide (w=[])=decide (¬(0<=k/\k<=4)):=by
 unfold z126.F z94.F
 by_cases h:k>=0
 ·rw [bif_t h]
  by_cases h':k<5
  ·have:k=0\/k=1\/k=2\/k=3\/k=4:=by omega
   rcases this with rfl|rfl|rfl|rfl|rfl<;>exact ⟨_,rfl,rfl⟩
  ·rw [Zf h'];exact ⟨_,rfl,by simp;omega⟩
 ·rw [Qb h];exact ⟨_,rfl,by simp;omega⟩
theorem Qvs {e:Int} (h:1<=e) (h5:e≠5):Int.tmod 12 e=0↔Qcn e:=by
 rw [Jf (by decide)]
 by_cases hb:12<e
 ·rw [Int.emod_eq_of_lt (by decide) hb];omega
 ·have:e=1\/e=2\/e=3\/e=4\/e=6\/e=7\/e=8\/e=9\/e=10\/e=11\/e=12:=by omega
  rcases this with rfl|rfl|rfl|rfl|rfl|rfl|rfl|rfl|rfl|rfl|rfl<;>decide
theorem terms_odd (t:Tm):z127.F t.p t.r t.kind t.basis t.mode t.y t.m t.d t.every t.count=some (decide (¬kindsOK t)):=by
 obtain ⟨w1,e1,d1⟩:=terms_Word t.kind
 obtain ⟨w2,e2,d2⟩:=Qpa t.basis
 obtain ⟨w3,e3,d3⟩:=Qwk t.mode
 unfold z127.F
 rw [e1]
 simp only [Zb]
 rw [d1]
 by_cases h1:0<=t.kind/\t.kind<=2
 ·rw [Qb (λhh=>hh h1),e2]
  simp only [Zb]
  rw [d2]
  by_cases h2:0<=t.basis/\t.basis<=2
  ·rw [Qb (λhh=>hh h2),e3]
   simp only [Zb]
   rw [d3]
   by_cases h3:0<=t.mode/\t.mode<=4
   ·rw [Qb (λhh=>hh h3)]
    by_cases h4:t.every<1
    ·rw [bif_t h4];congr 1;symm;exact Zt (by omega)
    ·rw [Qb h4]
     by_cases h5:t.every=5
     ·rw [bif_t h5];congr 1;symm;exact Zt (by omega)
     ·rw [Qb h5,if_neg (by omega)]
      congr 1
      have:=Qvs (e:=t.every) (by omega) h5
      rw [<-decide_not]
      exact decide_eq_decide.2 (by omega)
   ·rw [bif_t h3];congr 1;symm;exact Zt (by omega)
  ·rw [bif_t h2];congr 1;symm;exact Zt (by omega)
 ·rw [bif_t h1];congr 1;symm;exact Zt (by omega)
theorem Qja {e c:Int} (he:Qcn e) (hc:1<=c/\c<=1200):1<=e*c/\e*c<=14400:=by
 rcases he with rfl|rfl|rfl|rfl|rfl|rfl<;>omega
theorem terms_Check (t:Tm):z129.F t.p t.r t.kind t.basis t.mode t.y t.m t.d t.every t.count=some (mCheck t):=by
 unfold z129.F mCheck
 rw [terms_Money]
 simp only [Zb]
 by_cases h1:(mMoney t.p).2=0
 ·rw [Zt h1,if_neg (by omega)]
  simp only [Zn,Zc]
  rw [W6]
  simp only [Zb]
  by_cases h2:(mMoney t.p).1=0
  ·rw [bif_t (Qa9.2 h2),if_pos h2]
  ·rw [Qb (λh=>h2 (Qa9.1 h)),if_neg h2,terms_Rate]
   simp only [Zb]
   by_cases h3:(mRate t.r).2=0
   ·rw [Zt h3,if_neg (by omega)]
    simp only [Zn,Zc]
    rw [terms_odd]
    simp only [Zb]
    by_cases h4:kindsOK t
    ·rw [Qb (λhh=>hh h4),if_neg (λhh=>hh h4)]
     by_cases h5:t.count<1
     ·rw [bif_t h5,if_pos (.inl h5)]
     ·rw [Qb h5]
      by_cases h6:t.count>1200
      ·rw [bif_t h6,if_pos (.inr h6)]
      ·have hb:=Qja (e:=t.every) (c:=t.count) h4.2.2.2 (by omega)
       rw [Qb h6,if_neg (by omega),Qc (by omega) (by omega),month_Add]
       simp only [Zb]
       by_cases h7:right t.y t.m t.d/\okM t.y t.m (t.every*t.count)
       ·rw [if_pos h7,if_pos h7]
       ·rw [if_neg h7,if_neg h7]
    ·rw [bif_t h4,if_pos h4]
   ·rw [Zf h3,if_pos h3];rfl
 ·rw [Zf h1,if_pos h1];rfl
theorem Qih {a b:Int} (hb:0<b):(Int.tmod a b<0->Int.tmod a b+b=a%b)/\(¬Int.tmod a b<0->Int.tmod a b=a%b)/\-b<Int.tmod a b/\Int.tmod a b<b:=by
 have h1:=Int.emod_nonneg a (show b≠0 by omega)
 have h2:=Int.emod_lt_of_pos a hb
 have h3:=Int.tmod_eq_emod (a:=a) (b:=b)
 by_cases h:0<=a\/b∣a
 ·rw [if_pos h] at h3;omega
 ·rw [if_neg h] at h3
  have:a%b≠0:=λe=>h (.inr (Int.dvd_of_emod_eq_zero e))
  omega
theorem Qub {a b c n:Int} (hn:1<=n/\n<=9999):∃y m d,z14.F a b c n=some (y,m,d)/\right y m d/\y<=n:=by
 have f1:=Qih (a:=a) (b:=n) (by omega)
 have f2:=Qih (a:=b) (b:=12) (by omega)
 have m1:=Int.emod_nonneg a (show n≠0 by omega)
 have m2:=Int.emod_lt_of_pos a (show 0<n by omega)
 have hd:=Qdp (y:=a%n+1) (m:=b%12+1) (by omega) (by omega)
 have hd':=Qjd (a%n+1) (b%12+1)
 have f3:=Qih (a:=c) (b:=dDays (a%n+1) (b%12+1)) (by omega)
 have m5:=Int.emod_nonneg c (show dDays (a%n+1) (b%12+1)≠0 by omega)
 have m6:=Int.emod_lt_of_pos c (show 0<dDays (a%n+1) (b%12+1) by omega)
 refine ⟨a%n+1,b%12+1,c%dDays (a%n+1) (b%12+1)+1,?_,⟨by omega,by omega⟩,by omega⟩
 have hj8:∀j,j=b%12->Int.tmod a n=a%n->z14.j8 a n j c=some (a%n+1,b%12+1,c%dDays (a%n+1) (b%12+1)+1):=λj hj ht=>by
  subst hj
  unfold z14.j8
  rw [ht,Qc (n:=a%n+1) (by omega) (by omega),Qc (n:=b%12+1) (by omega) (by omega),Qhb]
  simp only [Zb]
  rw [if_neg (by omega)]
  generalize dDays (a%n+1) (b%12+1)=k at *
  by_cases h:Int.tmod c k<0
  ·rw [bif_t h,Qc (n:=Int.tmod c k+k) (by omega) (by omega),f3.1 h,Qc (by omega) (by omega)]
  ·rw [Qb h,f3.2.1 h,Qc (by omega) (by omega)]
 have hj5:∀j,j=b%12->Int.tmod a n<0->z14.j5 a n j c=some (a%n+1,b%12+1,c%dDays (a%n+1) (b%12+1)+1):=λj hj ht=>by
  subst hj
  unfold z14.j5 z14.j7
  rw [Qc (n:=Int.tmod a n+n) (by omega) (by omega),f1.1 ht,Qc (n:=a%n+1) (by omega) (by omega),Qc (n:=b%12+1) (by omega) (by omega),Qhb]
  simp only [Zb]
  rw [if_neg (by omega)]
  generalize dDays (a%n+1) (b%12+1)=k at *
  by_cases h:Int.tmod c k<0
  ·rw [bif_t h,Qc (n:=Int.tmod c k+k) (by omega) (by omega),f3.1 h,Qc (by omega) (by omega)]
  ·rw [Qb h,f3.2.1 h,Qc (by omega) (by omega)]
 unfold z14.F
 rw [if_neg (by omega)]
 by_cases h1:Int.tmod a n<0
 ·rw [bif_t h1]
  by_cases h2:Int.tmod b 12<0
  ·rw [bif_t h2,Qc (by omega) (by omega),f2.1 h2];exact hj5 _ rfl h1
  ·rw [Qb h2,f2.2.1 h2];exact hj5 _ rfl h1
 ·rw [Qb h1]
  by_cases h2:Int.tmod b 12<0
  ·rw [bif_t h2,Qc (by omega) (by omega),f2.1 h2];exact hj8 _ rfl (f1.2.1 h1)
  ·rw [Qb h2,f2.2.1 h2];exact hj8 _ rfl (f1.2.1 h1)
theorem Qo2 (n:Nat):numOK (txt n)=true:=by
 unfold numOK
 rw [Zf (Qv0 n),Jt.2 (Qgg n)]
 by_cases h:n=0
 ·subst h;rfl
 ·obtain ⟨b,s,e,hb⟩:=Qoc h
  rw [e]
  have:((b::s).getD 0 0).toNat=b.toNat:=rfl
  rw [this,Zf hb];simp
theorem Qke {s:J1} (h:Q1 s):cutNeg s=(s,false):=by
 unfold cutNeg
 cases s with
 |nil=>rfl
 |
  cons b t=>
  have hb:=h b (by simp)
  unfold digit at hb
  simp only
  rw [if_neg]
  rintro rfl
  simp at hb
theorem Qll {n:Nat} (h:(txt n).length<=4096):mWhole (txt n)=((n:Int),0):=by
 have hd:mDigits (txt n)=(n,0):=by
  unfold mDigits
  rw [if_neg (by omega),if_pos (Qo2 n),Qhx,Zi]
 unfold mWhole
 rw [Qke (Qgg n)]
 simp only [hd]
 rw [if_neg (by simp),if_neg (by simp)]
 rfl
theorem Qc1 {n:Nat} (h:n<=10^30):mMoney (txt n)=((n:Int),0):=by
 unfold mMoney
 have hl:(txt n).length<=31:=Qb8 (by omega) (by decide)
 rw [Qll (by omega)]
 have e:(10:Int)^30=((10^30:Nat):Int):=rfl
 rw [if_neg (by simp),if_neg (by rw [e];omega)]
theorem Qrs (s:J1) (k:Nat) (hk:k<=1000000000):∀(f:Nat),k+1-s.length=f->Runs (λrec x=>z141.l0P (k:Int) rec some x) s (List.replicate f 48++s):=by
 intro f
 induction f generalizing s with
 |
  zero=>
  intro h
  refine .done λrec=>?_
  unfold z141.l0P
  rw [Qb (by omega)];rfl
 |
  succ f ih=>
  intro h
  have:=ih (48::s) (by simp;omega)
  have e:List.replicate f (48:UInt8)++48::s=List.replicate (f+1) 48++s:=by
   rw [List.replicate_succ',Z82];rfl
  rw [e] at this
  refine .step (λrec=>?_) this
  unfold z141.l0P
  rw [bif_t (by omega),if_pos (by simp;omega)]
  rfl
def padded (n k:Nat):J1:=List.replicate (k+1-(txt n).length) 48++txt n
theorem Qlu (n k:Nat):k<(padded n k).length/\(padded n k).length<=k+1+(txt n).length:=by unfold padded;rw [Z10,Z73];omega
theorem Qwf (n k:Nat):Q1 (padded n k):=λb hb=>by
 rcases Z50.1 hb with h|h
 ·rw [List.eq_of_mem_replicate h];unfold digit;decide
 ·exact Qgg n b h
theorem Qu0 (f:Nat) (s:J1):tv 0 (List.replicate f 48++s)=tv 0 s:=by
 induction f with
 |zero=>rfl
 |succ f ih=>rw [List.replicate_succ,Z111];exact ih
theorem Qxg (n k:Nat):tv 0 (padded n k)=n:=by unfold padded;rw [Qu0,Qhx]
def decTxt (n k:Nat):J1:=(padded n k).take ((padded n k).length-k)++46::(padded n k).drop ((padded n k).length-k)
theorem Qzv {n k:Nat} (hk:0<k/\k<=1000000) (hn:4*(dg n).length<=1000000000) (hl:(txt n).length<=100000000):z141.F (dg n) false (k:Int)=some (decTxt n k):=by
 have r:=Qrs (txt n) k (by omega) _ rfl
 have e:z141.l0 (k:Int) (txt n)=some (padded n k):=r.lfp
 have pl:=Qlu n k
 unfold z141.F
 rw [Qk8 hn]
 simp only [Zb]
 rw [e]
 simp only [Zb]
 have ew:wr .i64 (((padded n k).length:Int)-(k:Int))=(((padded n k).length-k:Nat):Int):=by rw [Qc (by omega) (by omega)];omega
 rw [bif_t (by omega),ew,if_pos (by omega),if_pos (by simp;omega),if_pos (by omega),if_pos (by simp;omega),Zi]
 unfold z141.j3 decTxt
 simp
theorem Qqp:∀{a:J1} (b:J1),Q1 a->cutDot (a++46::b)=(a,some b)
 |[],b,_=>rfl
 |
  x::a,b,h=>by
  have hx:=h x (by simp)
  have ih:=Qqp (a:=a) b λy hy=>h y (by simp [hy])
  show cutDot (x::(a++46::b))=_
  unfold cutDot
  rw [if_neg (by rintro rfl;unfold digit at hx;simp at hx),ih]
theorem Qwj {n k:Nat} (hk:0<k/\k<=64) (hl:(txt n).length<=1000):mDec (decTxt n k)=((n:Int),k,0):=by
 have pl:=Qlu n k
 have pd:=Qwf n k
 have hda:Q1 ((padded n k).take ((padded n k).length-k)):=λb hb=>pd b (Z56 hb)
 have hdb:Q1 ((padded n k).drop ((padded n k).length-k)):=λb hb=>pd b (Z67 hb)
 have la:((padded n k).take ((padded n k).length-k)).length=(padded n k).length-k:=by rw [Z8];omega
 have lb':((padded n k).drop ((padded n k).length-k)).length=k:=by rw [Z35];omega
 have hcat:(padded n k).take ((padded n k).length-k)++(padded n k).drop ((padded n k).length-k)=padded n k:=List.take_append_drop _ _
 have hlead:(decide (1<((padded n k).take ((padded n k).length-k)).length)&&decide ((((padded n k).take ((padded n k).length-k)).getD 0 0).toNat=48))=false:=by
  by_cases h1:1<((padded n k).take ((padded n k).length-k)).length
  ·rw [la] at h1
   have h2:k+1<(padded n k).length:=by omega
   have h0:k+1-(txt n).length=0:=by
    unfold padded at h2
    rw [Z10,Z73] at h2;omega
   have e:padded n k=txt n:=by unfold padded;rw [h0];rfl
   have hn:n≠0:=by
    rintro rfl
    rw [e] at h2
    have:(txt 0).length=1:=rfl
    omega
   obtain ⟨b,s,ht,hb⟩:=Qoc hn
   rw [e,ht]
   have:(((b::s).take ((b::s).length-k)).getD 0 0).toNat=b.toNat:=by
    rw [e,ht] at h2
    have:(b::s).length-k=((b::s).length-k-1)+1:=by omega
    rw [this,List.take_succ_cons];rfl
   rw [this,Zf hb,Bool.and_false]
  ·rw [Zf h1,Z59]
 have hlen:(decTxt n k).length=(padded n k).length+1:=by
  unfold decTxt;rw [Z10,Z9,la,lb'];omega
 have hneg:cutNeg (decTxt n k)=(decTxt n k,false):=by
  have hne:(padded n k).take ((padded n k).length-k)≠[]:=λh=>by rw [h] at la;simp at la;omega
  unfold decTxt
  cases hc:(padded n k).take ((padded n k).length-k) with
  |nil=>exact absurd hc hne
  |
   cons b t=>
   have hb:=hda b (by rw [hc];simp)
   unfold digit at hb
   unfold cutNeg
   simp only [Z111]
   rw [if_neg (by rintro rfl;simp at hb)]
 have hpa:plainB ((padded n k).take ((padded n k).length-k))=true:=by
  unfold plainB;rw [Jt.2 hda,Zf (λh=>by rw [h] at la;simp at la;omega)];rfl
 have hpb:plainB ((padded n k).drop ((padded n k).length-k))=true:=by
  unfold plainB;rw [Jt.2 hdb,Zf (λh=>by rw [h] at lb';simp at lb';omega)];rfl
 unfold mDec
 rw [if_neg (by omega),hneg]
 have hcut:cutDot (decTxt n k)=((padded n k).take ((padded n k).length-k),some ((padded n k).drop ((padded n k).length-k))):=Qqp _ hda
 rw [hcut]
 unfold Qat
 simp only [Option.isSome_some,Z81,Z52,hpa,hpb,hlead,Zn,Bool.or_false,Z59]
 rw [if_neg (by simp),if_neg (by simp),if_neg (by omega),hcat,Qxg,lb',if_neg (by simp)]
theorem shr2 (a:Int):Int.fdiv a (2^(min 2 (64:Nat)))=a/4:=by
 rw [Z89 _ (by decide)];rfl
theorem shr4 (a:Int):Int.fdiv a (2^(min 4 (64:Nat)))=a/16:=by
 rw [Z89 _ (by decide)];rfl
theorem Qbh {a b:Int} (ha:0<=a) (hb:0<b):Int.tmod a b=a%b/\0<=a%b/\a%b<b:=⟨Jf ha,Int.emod_nonneg a (by omega),Int.emod_lt_of_pos a hb⟩
structure Good (t:Tm) (most:Int):Prop where
 money:∃n:Nat,t.p=txt n/\0<n/\n<=10^30
 rate:∃n k:Nat,t.r=decTxt n k/\n<100000/\2<=k/\k<=8
 kinds:kindsOK t
 date:right t.y t.m t.d
 year:t.y<=9000
 count:1<=t.count/\t.count<=most
theorem Qrk {a0 a1 a2 a3 a4 a5 a6 a7 a8 a9 a10 a11 most:Int} (h0:0<=a0/\a0<18446744073709551616) (h1:0<=a1/\a1<65536) (h2:0<=a2/\a2<4294967296) (h3:0<=a3/\a3<256) (h4:0<=a4/\a4<256) (h5:0<=a5/\a5<256)
  (h6:0<=a6/\a6<256) (h7:0<=a7/\a7<256) (h8:0<=a8/\a8<256) (hm:1<=most/\most<=1000) :
  ∃t:Tm,Good t most/\z142.F a0 a1 a2 a3 a4 a5 a6 a7 a8 a9 a10 a11 most=some (t.p,t.r,t.kind,t.basis,t.mode,t.y,t.m,t.d,t.every,t.count):=by
 obtain ⟨y,m,d,ed,hd,hy⟩:=Qub (a:=a9) (b:=a10) (c:=a11) (n:=9000) (by omega)
 have w8:wr .i64 a8=a8:=Qc (by omega) (by omega)
 have t8:=Qbh h8.1 (show (0:Int)<7 by decide)
 have t7:=Qbh h7.1 (show 0<most by omega)
 have t6:=Qbh h6.1 (show (0:Int)<5 by decide)
 have t5:=Qbh h5.1 (show (0:Int)<3 by decide)
 have t4:=Qbh h4.1 (show (0:Int)<3 by decide)
 have t3:=Qbh h3.1 (show (0:Int)<7 by decide)
 have t2:=Qbh h2.1 (show (0:Int)<100000 by decide)
 have hev:Qcn ([(1:Int),(1:Int),(2:Int),(3:Int),(4:Int),(6:Int),(12:Int)].getD (a8%7).toNat 0):=by
  have:a8%7=0\/a8%7=1\/a8%7=2\/a8%7=3\/a8%7=4\/a8%7=5\/a8%7=6:=by omega
  rcases this with h|h|h|h|h|h|h<;>rw [h]<;>decide
 have hp:∀(x:Int) (p:J1),(∃n:Nat,p=txt n/\0<n/\n<=10^30)->Good ⟨p,decTxt (a2%100000).toNat (a3%7+2).toNat,a4%3,a5%3,a6%5,y,m,d,[(1:Int),(1:Int),(2:Int),(3:Int),(4:Int),(6:Int),(12:Int)].getD (a8%7).toNat 0,1+a7%most⟩ most:=λx p h=>{
  money:=h
  rate:=⟨_,_,rfl,by omega,by omega,by omega⟩
  kinds:=⟨by show 0<=a4%3/\a4%3<=2;omega,by show 0<=a5%3/\a5%3<=2;omega,by show 0<=a6%5/\a6%5<=4;omega,hev⟩
  date:=hd
  year:=hy
  count:=by show 1<=1+a7%most/\1+a7%most<=most;omega}
 have hrate:∀{α:Type} (f:J1->Option α),((z12.F (Int.tmod (wr .i64 a2) 100000)).bind λr7=>((z141.F r7.1 r7.2 (wr .i64 (Int.tmod (wr .i64 a3) 7+2))).bind λr8=>f r8))=f (decTxt (a2%100000).toNat (a3%7+2).toNat):=λf=>by
  rw [Qc (n:=a2) (by omega) (by omega),Qc (n:=a3) (by omega) (by omega),t2.1,t3.1,Qc (n:=a3%7+2) (by omega) (by omega),Qav (by omega)]
  simp only [Zb]
  have e1:neg (a2%100000)=false:=Zf (by omega)
  have e2:(a2%100000).natAbs=(a2%100000).toNat:=by omega
  have e3:a3%7+2=((a3%7+2).toNat:Int):=by omega
  have l1:(dg (a2%100000).toNat).length<=5:=Yf b4 (Z16 (show (a2%100000).toNat<100000 by omega) (by decide))
  have l2:(txt (a2%100000).toNat).length<=5:=Qb8 (show (a2%100000).toNat<10^5 by omega) (by decide)
  rw [e1,e2]
  conv=>lhs;rw [e3]
  rw [Qzv (by omega) (by omega) (by omega)]
  rfl
 have e11:((Int.natAbs 100000000000:Nat))=100000000000:=rfl
 unfold z142.F
 rw [w8,t8.1,if_pos ⟨t8.2.1,by simp;omega⟩,if_neg (by omega),ed]
 simp only [Zb]
 rw [shr2,shr4,Qc (n:=a0/4) (by omega) (by omega),Qc (n:=a0/4+1) (by omega) (by omega),Qc (n:=a0/16) (by omega) (by omega),Qc (n:=a0/16+1) (by omega) (by omega)]
 rw [Qc (n:=a4) (by omega) (by omega),Qc (n:=a5) (by omega) (by omega),Qc (n:=a6) (by omega) (by omega),Qc (n:=a7) (by omega) (by omega),t4.1,t5.1,t6.1,t7.1,Qc (n:=1+a7%most) (by omega) (by omega)]
 rw [Qav (z:=a0/4+1) (by omega)]
 simp only [Zb]
 by_cases hc:a1>60000
 ·rw [bif_t hc,Qav (by omega)]
  simp only [Zb]
  rw [Qav (by omega)]
  simp only [Zb]
  have g1:(dg (a0/16+1).natAbs).length<=20:=Z11 (Qdv _) (sz_le (by omega))
  have g2:(dg (Int.natAbs 100000000000)).length<=20:=Z11 (Qdv _) (sz_le (by decide))
  have hb:((a0/16+1)*100000000000).natAbs=(a0/16+1).toNat*100000000000:=by omega
  have g3:(dg ((a0/16+1)*100000000000).natAbs).length<=40:=Z11 (Qdv _) (sz_le (by omega))
  have g4:(txt ((a0/16+1)*100000000000).natAbs).length<=40:=Qb8 (by omega) (by decide)
  rw [Qvx (by omega)]
  simp only [Zb]
  rw [Qij (by omega) (by omega),if_neg (by omega)]
  simp only [Zb]
  refine ⟨_,hp 0 (txt ((a0/16+1)*100000000000).natAbs) ⟨_,rfl,by omega,by omega⟩,?_⟩
  rw [hrate]
 ·rw [Qb hc]
  have g3:(dg (a0/4+1).natAbs).length<=20:=Z11 (Qdv _) (sz_le (by omega))
  have g4:(txt (a0/4+1).natAbs).length<=20:=Qb8 (by omega) (by decide)
  rw [Qij (by omega) (by omega),if_neg (by omega)]
  simp only [Zb]
  refine ⟨_,hp 0 (txt (a0/4+1).natAbs) ⟨_,rfl,by omega,by omega⟩,?_⟩
  rw [hrate]
theorem Good.moneyOK {t:Tm} {most:Int} (h:Good t most):(mMoney t.p).2=0/\(mMoney t.p).1≠0:=by
 obtain ⟨n,e,h1,h2⟩:=h.money
 rw [e,Qc1 h2]
 exact ⟨rfl,by show (n:Int)≠0;omega⟩
theorem Good.rateOK {t:Tm} {most:Int} (h:Good t most):(mRate t.r).2=0:=by
 obtain ⟨n,k,e,h1,h2,h3⟩:=h.rate
 have hl:(txt n).length<=5:=Qb8 (Z16 h1 (by decide)) (by decide)
 have hk:10^2<=10^k:=Z33 (by decide) h2
 rw [e]
 unfold mRate
 rw [Qwj (by omega) (by omega)]
 rw [if_neg (by simp),if_neg (by simp only;omega)]
theorem Good.check {t:Tm} {most:Int} (h:Good t most) (hm:t.every*t.count<=11000) (hc:most<=1200):mCheck t=0:=by
 have g:=Q6 h.date
 have hb:=Qja h.kinds.2.2.2 (c:=t.count) ⟨h.count.1,by have:=h.count.2;omega⟩
 have hy:=h.year
 have hcc:=h.count
 unfold mCheck
 rw [if_neg (λhh=>hh h.moneyOK.1),if_neg h.moneyOK.2,if_neg (λhh=>hh h.rateOK),if_neg (λhh=>hh h.kinds),if_neg (by omega),if_pos ⟨h.date,by omega⟩]
abbrev D3:=Int×Int×Int
def dv (x:D3):List V:=[.int .i64 x.1,.int .i64 x.2.1,.int .i64 x.2.2]
def pv (x:D3×D3):List V:=[.int .i64 x.1.1,.int .i64 x.1.2.1,.int .i64 x.1.2.2,.int .i64 x.2.1,.int .i64 x.2.2.1,.int .i64 x.2.2.2]
abbrev rightD (x:D3):Prop:=right x.1 x.2.1 x.2.2
abbrev numD (x:D3):Int:=num x.1 x.2.1 x.2.2
theorem asD0 {R:Type} (x:D3) (K:Int->Option R):V.asInt .i64 ((dv x).getD 0 .undef) K=K x.1:=by simp [dv,V.asInt]
theorem asD1 {R:Type} (x:D3) (K:Int->Option R):V.asInt .i64 ((dv x).getD 1 .undef) K=K x.2.1:=by simp [dv,V.asInt]
theorem asD2 {R:Type} (x:D3) (K:Int->Option R):V.asInt .i64 ((dv x).getD 2 .undef) K=K x.2.2:=by simp [dv,V.asInt]
theorem asP0 {R:Type} (x:D3×D3) (K:Int->Option R):V.asInt .i64 ((pv x).getD 0 .undef) K=K x.1.1:=by simp [pv,V.asInt]
theorem asP1 {R:Type} (x:D3×D3) (K:Int->Option R):V.asInt .i64 ((pv x).getD 1 .undef) K=K x.1.2.1:=by simp [pv,V.asInt]
theorem asP2 {R:Type} (x:D3×D3) (K:Int->Option R):V.asInt .i64 ((pv x).getD 2 .undef) K=K x.1.2.2:=by simp [pv,V.asInt]
theorem asP3 {R:Type} (x:D3×D3) (K:Int->Option R):V.asInt .i64 ((pv x).getD 3 .undef) K=K x.2.1:=by simp [pv,V.asInt]
theorem asP4 {R:Type} (x:D3×D3) (K:Int->Option R):V.asInt .i64 ((pv x).getD 4 .undef) K=K x.2.2.1:=by simp [pv,V.asInt]
theorem asP5 {R:Type} (x:D3×D3) (K:Int->Option R):V.asInt .i64 ((pv x).getD 5 .undef) K=K x.2.2.2:=by simp [pv,V.asInt]
theorem Qal {α:Type} (f:α->List V) {l:List α} {i:Nat} (h:i<l.length):(l.map f).getD i []=f l[i]:=by
 simp [List.getD,h]
def Yb (y m d step:Int) (n:Nat):List D3:=(List.range n).map λk:Nat=>addM y m d ((k+1:Nat)*step)
theorem Qnk (y m d step:Int) (n:Nat):(Yb y m d step n).length=n:=by simp [Yb]
theorem Qeb {y m d step:Int} {n i:Nat} (h:i<(Yb y m d step n).length):(Yb y m d step n)[i]=addM y m d ((i+1:Nat)*step):=by simp [Yb]
theorem Qsg (y m d step:Int) (n:Nat):Yb y m d step (n+1)=Yb y m d step n++[addM y m d ((n+1:Nat)*step)]:=by
 unfold Yb;rw [List.range_succ,Z71];rfl
theorem Qox {y m k k':Int} (h:okM y m k) (h0:0<=k') (hk:k'<=k) (hm:12<=(12*y+m-1)):okM y m k':=by omega
theorem Qpp {y m d step:Int} {n:Nat} (hr:right y m d) (hs:1<=step/\step<=12) (hn:n<=1200) (ho:okM y m (n*step)):∀(f k:Nat),k+f=n ->
  Runs (λrec x=>z130.l0P step (n:Int) y m d rec some x) (((k+1:Nat):Int),(Yb y m d step k).map dv) (.inl (((n+1:Nat):Int),(Yb y m d step n).map dv))
 |
  0,k,hk=>by
  have:k=n:=by omega
  subst this
  refine .done λrec=>?_
  unfold z130.l0P
  simp only
  rw [Qb (by omega)]
 |
  f+1,k,hk=>by
  have g:=Q6 hr
  have ih:=Qpp hr hs hn ho f (k+1) (by omega)
  have hb:((k+1:Nat):Int)*step<=n*step:=Z62 (by omega) (by omega)
  have hb0:0<=((k+1:Nat):Int)*step:=Z42 (by omega) (by omega)
  have hb1:(n:Int)*step<=1200*12:=Z105 (by omega) (by omega) (by omega) (by omega)
  refine .step (λrec=>?_) ih
  unfold z130.l0P
  simp only
  rw [bif_t (by omega),if_neg (by omega),Qc (n:=((k+1:Nat):Int)*step) (by omega) (by omega),month_Add,if_pos ⟨hr,Qox ho hb0 hb (by omega)⟩]
  simp only [Zb,decide_true,Zn,Zc]
  rw [if_pos (by rw [Z13,Qnk];simp;omega),Qc (by omega) (by omega),Qsg,Z71]
  rfl
theorem month_Series {y m d step:Int} {n:Nat} (hr:right y m d) (hs:1<=step/\step<=12) (hn:n<=1200) (ho:okM y m (n*step)):z130.F y m d step (n:Int)=some ((Yb y m d step n).map dv,0):=by
 have e:z130.l0 step (n:Int) y m d ((1:Int),[])=some (.inl (((n+1:Nat):Int),(Yb y m d step n).map dv)):=(Qpp hr hs hn ho n 0 (by omega)).lfp
 unfold z130.F z130.j1
 rw [Qb (by omega),Qb (by omega),Qb (by omega),date_Check]
 simp only [Zb]
 rw [if_pos hr,e]
 rfl
def Tm.dates (t:Tm):List D3:=Yb t.y t.m t.d t.every t.count.toNat
theorem Y0 {t:Tm} (h:mCheck t=0):kindsOK t/\(1<=t.count/\t.count<=1200)/\right t.y t.m t.d/\okM t.y t.m (t.every*t.count):=by
 unfold mCheck at h
 split at h
 ·exact absurd h ‹_›
 ·split at h
  ·simp at h
  ·split at h
   ·exact absurd h ‹_›
   ·split at h
    ·simp at h
    ·rename_i hk
     split at h
     ·simp at h
     ·split at h
      ·rename_i h5 h6
       exact ⟨Decidable.not_not.1 hk,by omega,h6.1,h6.2⟩
      ·simp at h
theorem Qe3 {e:Int} (h:Qcn e):1<=e/\e<=12:=by omega
theorem dues_Dates (t:Tm):z131.F t.p t.r t.kind t.basis t.mode t.y t.m t.d t.every t.count=some (if mCheck t=0 then (t.dates.map dv,0) else ([],mCheck t)):=by
 unfold z131.F
 rw [terms_Check]
 simp only [Zb]
 by_cases h:mCheck t=0
 ·obtain ⟨hk,hc,hr,ho⟩:=Y0 h
  have he:=Qe3 hk.2.2.2
  have ec:t.count=(t.count.toNat:Int):=by omega
  rw [Zt h,if_pos h]
  simp only [Zn,Zc]
  have hs:=month_Series (y:=t.y) (m:=t.m) (d:=t.d) (step:=t.every) (n:=t.count.toNat) hr he (by omega) (by rw [<-ec,Z87];exact ho)
  rw [<-ec] at hs
  rw [hs];rfl
 ·rw [Zf h,if_neg h];rfl
def pairs (a:D3):List D3->List (D3×D3)
 |[]=>[]
 |b::l=>(a,b)::pairs b l
theorem Qln:∀(a:D3) (l:List D3),(pairs a l).length=l.length
 |_,[]=>rfl
 |a,b::l=>by simp [pairs,Qln b l]
theorem Qn2 {l:List D3} (hl:l.length<=2000):∀(f i:Nat) (s:J2) (a:D3),i+f=l.length->s.length=i ->
  ∃z,Runs (λrec x=>z132.l0P (l.map dv) (l.length:Int) rec some x) ((i:Int),s,a.1,a.2.1,a.2.2) ((l.length:Int),s++(pairs a (l.drop i)).map pv,z)
 |
  0,i,s,a,hf,hs=>by
  have:i=l.length:=by omega
  refine ⟨(a.1,a.2.1,a.2.2),.done λrec=>?_⟩
  ·unfold z132.l0P
   simp only
   rw [Qb (by omega),Z26 (by omega),this];simp [pairs]
 |
  f+1,i,s,a,hf,hs=>by
  have hi:i<l.length:=by omega
  obtain ⟨z,r⟩:=Qn2 hl f (i+1) (s++[pv (a,l[i])]) l[i] (by omega) (by simp;omega)
  refine ⟨z,.step (λrec=>?_) (by rw [Z30 hi];simp only [pairs,List.map_cons];rw [<-List.append_cons] at r;exact r)⟩
  unfold z132.l0P
  simp only
  rw [bif_t (by omega),if_pos (by rw [Z13];omega),Zi,Qal dv hi]
  rw [asD0,asD1,asD2,if_pos (by simp;omega),Qc (by omega) (by omega)]
  rfl
def Tm.start (t:Tm):D3:=(t.y,t.m,t.d)
def Tm.periods (t:Tm):List (D3×D3):=pairs t.start t.dates
theorem Tm.dates_len (t:Tm):t.dates.length=t.count.toNat:=Qnk _ _ _ _ _
theorem dues_Periods (t:Tm):z132.F t.p t.r t.kind t.basis t.mode t.y t.m t.d t.every t.count=some (if mCheck t=0 then (t.periods.map pv,0) else ([],mCheck t)):=by
 unfold z132.F
 rw [dues_Dates]
 simp only [Zb]
 by_cases h:mCheck t=0
 ·obtain ⟨hk,hc,hr,ho⟩:=Y0 h
  rw [if_pos h,if_pos h]
  simp only [decide_true,Zn,Zc,Z13]
  have hl:=t.dates_len
  obtain ⟨z,r⟩:=Qn2 (l:=t.dates) (by omega) t.dates.length 0 [] t.start (by omega) rfl
  have e:z132.l0 (t.dates.map dv) (t.dates.length:Int) ((0:Int),[],t.y,t.m,t.d)=_:=r.lfp
  rw [e]
  rfl
 ·rw [if_neg h,if_neg h]
  simp only
  rw [Zf h];rfl
abbrev cmpD (x y:D3):Int:=dcmp x.1 x.2.1 x.2.2 y.1 y.2.1 y.2.2
theorem Qpz {y m d k k':Int} (h:right y m d) (h1:okM y m k) (h2:okM y m k') (hlt:k<k'):numD (addM y m d k)<numD (addM y m d k'):=by
 refine Qep (Qig h h1) (Qig h h2) ?_
 show ((12*y+m-1)+k)/12<((12*y+m-1)+k')/12\/((12*y+m-1)+k)/12=((12*y+m-1)+k')/12/\(((12*y+m-1)+k)%12+1<((12*y+m-1)+k')%12+1\/_)
 omega
theorem Qr6 {y m d:Int} (h:right y m d):addM y m d 0=(y,m,d):=by
 have g:=Q6 h
 unfold addM
 have e1:((12*y+m-1)+0)/12=y:=by omega
 have e2:((12*y+m-1)+0)%12+1=m:=by omega
 rw [e1,e2]
 have:=h.2
 congr 2;omega
structure Qqz (t:Tm):Prop where
 right:∀j (h:j<t.dates.length),rightD t.dates[j]
 start:rightD t.start
 first:∀j (h:j<t.dates.length),numD t.start<numD t.dates[j]
 lt:∀i j (hi:i<t.dates.length) (hj:j<t.dates.length),i<j->numD t.dates[i]<numD t.dates[j]
theorem Qsy {t:Tm} (h:mCheck t=0):Qqz t:=by
 obtain ⟨hk,hc,hr,ho⟩:=Y0 h
 have he:=Qe3 hk.2.2.2
 have hl:=t.dates_len
 have g:=Q6 hr
 have key:∀j:Nat,j<t.dates.length->okM t.y t.m ((j+1:Nat)*t.every)/\0<((j+1:Nat):Int)*t.every:=λj hj=>by
  have a1:((j+1:Nat):Int)*t.every<=t.count*t.every:=Z62 (by omega) (by omega)
  have a2:0<((j+1:Nat):Int)*t.every:=Int.mul_pos (by omega) (by omega)
  rw [Z87 t.count] at a1
  exact ⟨Qox ho (by omega) a1 (by omega),a2⟩
 have h0:okM t.y t.m 0:=by omega
 refine ⟨λj hj=>?_,hr,λj hj=>?_,λi j hi hj hij=>?_⟩
 ·have e:t.dates[j]=addM t.y t.m t.d ((j+1:Nat)*t.every):=Qeb hj
  rw [e];exact Qig hr (key j hj).1
 ·have e:t.dates[j]=addM t.y t.m t.d ((j+1:Nat)*t.every):=Qeb hj
  have z:t.start=addM t.y t.m t.d 0:=(Qr6 hr).symm
  rw [e,z];exact Qpz hr h0 (key j hj).1 (key j hj).2
 ·have e:t.dates[j]=addM t.y t.m t.d ((j+1:Nat)*t.every):=Qeb hj
  have e':t.dates[i]=addM t.y t.m t.d ((i+1:Nat)*t.every):=Qeb hi
  rw [e,e']
  exact Qpz hr (key i hi).1 (key j hj).1 (Int.mul_lt_mul_of_pos_right (by omega) (by omega))
theorem Yy {x y:D3} (hx:rightD x) (hy:rightD y):cmpD x y=cmpI (numD x) (numD y):=Qmy hx hy
theorem Qpl (t:Tm):mCheck t=0↔((mMoney t.p).2=0/\(mMoney t.p).1≠0)/\(mRate t.r).2=0/\kindsOK t/\(1<=t.count/\t.count<=1200)/\right t.y t.m t.d/\okM t.y t.m (t.every*t.count):=by
 constructor
 ·intro h
  have h':=Y0 h
  unfold mCheck at h
  split at h
  ·exact absurd h ‹_›
  ·split at h
   ·simp at h
   ·split at h
    ·exact absurd h ‹_›
    ·rename_i h1 h2 h3
     exact ⟨⟨Decidable.not_not.1 h1,h2⟩,Decidable.not_not.1 h3,h'⟩
 ·rintro ⟨⟨h1,h2⟩,h3,h4,h5,h6,h7⟩
  unfold mCheck
  rw [if_neg (λhh=>hh h1),if_neg h2,if_neg (λhh=>hh h3),if_neg (λhh=>hh h4),if_neg (by omega),if_pos ⟨h6,h7⟩]
theorem Qh2 {s:J0} {i:Nat} {x:Int}:(s.set i x).drop (i+1)=s.drop (i+1):=by
 apply List.ext_getElem?
 intro j
 rw [List.getElem?_drop,List.getElem?_drop,Z102 (by omega)]
theorem Qs6 {s:J1} (h:numOK s=true):Q1 s/\s≠[]/\(1<s.length->(s.getD 0 0).toNat≠48):=by
 unfold numOK at h
 simp only [Z7,Z75,decide_eq_false_iff_not,Bool.and_eq_false_iff] at h
 exact ⟨Jt.1 h.1.2,h.1.1,λh1 h2=>by rcases h.2 with h3|h3<;>omega⟩
set_option maxRecDepth 100000 in
theorem Qzb:∃tab:J1,tab.length=256 /\
  (∀x j,z38.j8 x j=if (0:Int)<=wr .u8 x/\wr .u8 x<(tab.length:Int) then some (wr .i64 (j+wr .i64 ((tab.getD (wr .u8 x).toNat 0).toNat:Int))) else none) /\
  (∀x j,z38.j10 x j=if (0:Int)<=wr .u8 x/\wr .u8 x<(tab.length:Int) then some (wr .i64 (j+wr .i64 ((tab.getD (wr .u8 x).toNat 0).toNat:Int))) else none) /\
  ∀x:Fin 256,0<x.1->1<=(tab.getD x.1 0).toNat/\(tab.getD x.1 0).toNat<=8/\2^((tab.getD x.1 0).toNat-1)<=x.1/\x.1<2^(tab.getD x.1 0).toNat:=
 ⟨_,rfl,λx j=>rfl,λx j=>rfl,by decide⟩
theorem Qgh {x:Nat} (h0:0<x) (h:x<256) {j:Nat} (hj:j<=1000):∃n,n<=7/\2^n<=x/\x<2^(n+1)/\z38.j8 x j=some ((j+n+1:Nat):Int)/\z38.j10 x j=some ((j+n+1:Nat):Int):=by
 obtain ⟨tab,hl,h1,h2,ht⟩:=Qzb
 obtain ⟨t1,t2,t3,t4⟩:=ht ⟨x,h⟩ h0
 simp only at t1 t2 t3 t4
 obtain ⟨n,hn⟩:∃n,(tab.getD x 0).toNat=n+1:=⟨_,(Nat.sub_add_cancel t1).symm⟩
 rw [hn] at t2 t3 t4
 have hw:wr .u8 (x:Int)=x:=Qjz (by omega) (by omega)
 refine ⟨n,by omega,by simpa using t3,t4,?_,?_⟩
 ·rw [h1,hw,if_pos (by omega),Zi,hn,Qc (n:=((n+1:Nat):Int)) (by omega) (by omega),Qc (by omega) (by omega)]
  congr 1
 ·rw [h2,hw,if_pos (by omega),Zi,hn,Qc (n:=((n+1:Nat):Int)) (by omega) (by omega),Qc (by omega) (by omega)]
  congr 1
theorem Jy (n k:Nat):Int.fdiv (n:Int) (2^k)=((n/2^k:Nat):Int):=by
 rw [Z89 _ (by exact_mod_cast Z94 (2^k))]
 push_cast;rfl
theorem Qd2 {x n k:Nat} (h1:2^n<=x/2^k) (h2:x/2^k<2^(n+1)):2^(n+k)<=x/\x<2^(n+k+1):=by
 have hp:=Nat.pos_of_ne_zero (show 2^k≠0 by exact Nat.ne_of_gt (Z66 k))
 have:=(Z74 hp).1 h1
 have:=(Z85 hp).1 h2
 rw [Z101,show n+k+1=(n+1)+k by omega,Z101]
 omega
set_option maxRecDepth 100000 in
theorem Ql1 {x:Nat} (h0:0<x) (h:x<4294967296) {j:Nat} (hj:j<=100):∃n,n<=31/\2^n<=x/\x<2^(n+1)/\z38.j2 x j=some ((j+n+1:Nat):Int):=by
 unfold z38.j2
 rw [show min 16 64=16 from rfl,show min 8 64=8 from rfl,Jy,Jy,Jy]
 by_cases h1:65536<=x
 ·rw [bif_t (by omega),Qc (n:=(j:Int)+16) (by omega) (by omega),Qc (n:=(j:Int)+16+8) (by omega) (by omega)]
  have b1:0<x/2^16/\x/2^16<65536:=by omega
  by_cases h2:256<=x/2^16
  ·rw [bif_t (by omega)]
   obtain ⟨n,n1,n2,n3,n4,_⟩:=Qgh (x:=x/2^16/2^8) (by omega) (by omega) (j:=j+24) (by omega)
   obtain ⟨m2,m3⟩:=Qd2 n2 n3
   obtain ⟨m2,m3⟩:=Qd2 (n:=n+8) m2 m3
   refine ⟨n+8+16,by omega,m2,m3,?_⟩
   refine (congrArg (z38.j8 _) (show ((j:Int)+16+8)=((j+24:Nat):Int) by omega)).trans (n4.trans ?_)
   congr 2;omega
  ·rw [Qb (by omega)]
   obtain ⟨n,n1,n2,n3,n4,_⟩:=Qgh (x:=x/2^16) (by omega) (by omega) (j:=j+16) (by omega)
   obtain ⟨m2,m3⟩:=Qd2 n2 n3
   refine ⟨n+16,by omega,m2,m3,?_⟩
   refine (congrArg (z38.j8 _) (show ((j:Int)+16)=((j+16:Nat):Int) by omega)).trans (n4.trans ?_)
   congr 2;omega
 ·rw [Qb (by omega)]
  by_cases h2:256<=x
  ·rw [bif_t (by omega),Qc (n:=(j:Int)+8) (by omega) (by omega)]
   obtain ⟨n,n1,n2,n3,_,n4⟩:=Qgh (x:=x/2^8) (by omega) (by omega) (j:=j+8) (by omega)
   obtain ⟨m2,m3⟩:=Qd2 n2 n3
   refine ⟨n+8,by omega,m2,m3,?_⟩
   refine (congrArg (z38.j10 _) (show ((j:Int)+8)=((j+8:Nat):Int) by omega)).trans (n4.trans ?_)
   congr 2;omega
  ·rw [Qb (by omega)]
   obtain ⟨n,n1,n2,n3,_,n4⟩:=Qgh (x:=x) (by omega) (by omega) (j:=j) (by omega)
   exact ⟨n,by omega,n2,n3,n4⟩
theorem bits_Len64 {x:Nat} (h0:0<x) (h:x<18446744073709551616):∃n,n<=63/\2^n<=x/\x<2^(n+1)/\z38.F x=some ((n+1:Nat):Int):=by
 unfold z38.F
 rw [show min 32 64=32 from rfl,Jy]
 by_cases h1:4294967296<=x
 ·rw [bif_t (by omega)]
  obtain ⟨n,n1,n2,n3,n4⟩:=Ql1 (x:=x/2^32) (by omega) (by omega) (j:=32) (by omega)
  obtain ⟨m2,m3⟩:=Qd2 n2 n3
  refine ⟨n+32,by omega,m2,m3,?_⟩
  refine n4.trans ?_
  congr 2;omega
 ·rw [Qb (by omega)]
  obtain ⟨n,n1,n2,n3,n4⟩:=Ql1 (x:=x) (by omega) (by omega) (j:=0) (by omega)
  refine ⟨n,by omega,n2,n3,?_⟩
  refine n4.trans ?_
  congr 2;omega
theorem Qkd {x:Nat} (h0:0<x) (h:x<18446744073709551616):∃s,s<=63/\9223372036854775808<=x*2^s/\x*2^s<18446744073709551616/\z39.F x=some ((s:Nat):Int):=by
 obtain ⟨n,n1,n2,n3,n4⟩:=bits_Len64 h0 h
 have e1:2^n*2^(63-n)=9223372036854775808:=by rw [<-Z101,show n+(63-n)=63 by omega]
 have e2:2^(n+1)*2^(63-n)=18446744073709551616:=by rw [<-Z101,show n+1+(63-n)=64 by omega]
 refine ⟨63-n,by omega,?_,?_,?_⟩
 ·rw [<-e1];exact Z3 _ n2
 ·rw [<-e2];exact Z86 n3 (Z66 _)
 ·unfold z39.F
  rw [n4]
  simp only [Zb]
  rw [Qc (by omega) (by omega)]
  congr 1;omega
end Go.Proofs.YtihfdjkjpncjfaaGreatDoor.A
end
section
set_option linter.unusedSectionVars false
namespace Go.Proofs.YtihfdjkjpncjfaaGreatDoor.A
open Go
structure Qdd (y1 y0 u u0:Nat) (q r:Nat):Prop where
 eq:q*y1+r=u
 ge:(u*4294967296+u0)/(y1*4294967296+y0)<=q
 le:q<=4294967297
 lt:r<4294967296
theorem Qe8 (B:Nat) {y1 y0 u q r:Nat} (he:q*y1+r=u):q*(y1*B+y0)+r*B=u*B+q*y0:=by
 rw [<-he,Z19,Z117,Z46]
 omega
theorem Qqu {B A A2 u u0 r:Nat} (h:A+r*B=u*B+A2) (hc:r*B+u0<A2):u*B+u0<A:=by omega
section
variable {y1 y0 u u0:Nat} (h1:2147483648<=y1) (h1':y1<4294967296) (h0:y0<4294967296) (hu:u<y1*4294967296+y0) (hu0:u0<4294967296)
include h1 h1' h0 hu hu0
theorem Qud:Qdd y1 y0 u u0 (u/y1) (u%y1):=by
 have hy:0<y1:=by omega
 refine ⟨by rw [Z24];exact Z65 u y1,?_,?_,?_⟩
 ·rw [Z74 hy]
  have hd:=Nat.div_mul_le_self (u*4294967296+u0) (y1*4294967296+y0)
  generalize (u*4294967296+u0)/(y1*4294967296+y0)=Q at *
  rw [Z117,<-Z46] at hd
  generalize Q*y1=A at *
  generalize Q*y0=B at *
  omega
 ·have:u/y1<4294967298:=by
   rw [Z85 hy];omega
  omega
 ·have:=Z79 u hy;omega
theorem Qyc:(u*4294967296+u0)/(y1*4294967296+y0)<4294967296:=by
 rw [Z85 (by omega)];omega
theorem Qu4 {q r:Nat} (h:Qdd y1 y0 u u0 q r) (hc:4294967296<=q\/r*4294967296+u0<q*y0):(u*4294967296+u0)/(y1*4294967296+y0)<q:=by
 rcases hc with hc|hc
 ·exact Z16 (Qyc h1 h1' h0 hu hu0) hc
 ·have:=Qe8 4294967296 (y0:=y0) h.eq
  have hlt:u*4294967296+u0<q*(y1*4294967296+y0):=Qqu this hc
  exact (Z85 (show 0<y1*4294967296+y0 by omega)).2 hlt
theorem Qm3 {q r:Nat} (he:q*y1+r=u) (ge:(u*4294967296+u0)/(y1*4294967296+y0)<=q) (hc:q*y0<=r*4294967296+u0):q=(u*4294967296+u0)/(y1*4294967296+y0):=by
 refine Nat.le_antisymm ?_ ge
 rw [Z74 (by omega)]
 have:=Qe8 4294967296 (y0:=y0) he
 omega
theorem Qj7 {q r:Nat} (h:Qdd y1 y0 u u0 q r) (hc:(u*4294967296+u0)/(y1*4294967296+y0)<q):(q-1)*y1+(r+y1)=u/\(u*4294967296+u0)/(y1*4294967296+y0)<=q-1:=by
 generalize (u*4294967296+u0)/(y1*4294967296+y0)=Q at hc ⊢
 obtain ⟨k,rfl⟩:∃k,q=k+1:=⟨q-1,by omega⟩
 have:=h.eq
 rw [Z19] at this
 simp only [Nat.add_sub_cancel]
 omega
theorem Qxj {q r:Nat} (h:Qdd y1 y0 u u0 q r) (hc:(u*4294967296+u0)/(y1*4294967296+y0)<q) (hr:4294967296<=r+y1):q-1=(u*4294967296+u0)/(y1*4294967296+y0):=by
 obtain ⟨n1,n2⟩:=Qj7 h1 h1' h0 hu hu0 h hc
 refine Qm3 h1 h1' h0 hu hu0 n1 n2 ?_
 have hq:=h.le
 have:(q-1)*y0<=4294967296*4294967295:=Z118 (by omega) (by omega)
 omega
theorem Qpt {F:(Int×Int->Option (Int×Int))->Int×Int->Option (Int×Int)} (mk:Int->Int->Int×Int)
  (hF:∀(q r:Nat),q<=4294967297->r<4294967296->∀rec,F rec (mk q r) =
   if 4294967296<=q\/r*4294967296+u0<q*y0 then (if 4294967296<=r+y1 then some (mk ((q-1:Nat):Int) ((r+y1:Nat):Int)) else rec (mk ((q-1:Nat):Int) ((r+y1:Nat):Int))) else some (mk q r)) :
  ∃r:Nat,lfp F (mk ((u/y1:Nat):Int) ((u%y1:Nat):Int))=some (mk (((u*4294967296+u0)/(y1*4294967296+y0):Nat):Int) r):=by
 have key:∀(f q r:Nat),q<f->Qdd y1 y0 u u0 q r->∃r':Nat,Runs F (mk q r) (mk (((u*4294967296+u0)/(y1*4294967296+y0):Nat):Int) r'):=by
  intro f
  induction f with
  |zero=>intro q r h;omega
  |
   succ f ih=>
   intro q r hq h
   by_cases hc:4294967296<=q\/r*4294967296+u0<q*y0
   ·have hlt:=Qu4 h1 h1' h0 hu hu0 h hc
    by_cases hr:4294967296<=r+y1
    ·refine ⟨r+y1,.done λrec=>?_⟩
     rw [hF q r h.le h.lt,if_pos hc,if_pos hr,Qxj h1 h1' h0 hu hu0 h hlt hr]
    ·obtain ⟨n1,n2⟩:=Qj7 h1 h1' h0 hu hu0 h hlt
     have hle:=h.le
     have hq1:0<q:=Nat.lt_of_le_of_lt (Z94 _) hlt
     obtain ⟨r',hr'⟩:=ih (q-1) (r+y1) (by omega) ⟨n1,n2,by omega,by omega⟩
     exact ⟨r',.step (λrec=>by rw [hF q r h.le h.lt,if_pos hc,if_neg hr]) hr'⟩
   ·refine ⟨r,.done λrec=>?_⟩
    rw [hF q r h.le h.lt,if_neg hc,<-Qm3 h1 h1' h0 hu hu0 h.eq h.ge (by omega)]
 obtain ⟨r',hr'⟩:=key (u/y1+1) _ _ (by omega) (Qud h1 h1' h0 hu hu0)
 exact ⟨r',hr'.lfp⟩
theorem Qj8 {q r:Nat} (hq:q<=4294967297) (hr:r<4294967296) (h:¬4294967296<=q):(wr .u64 ((q:Int)*y0)>wr .u64 (wr .u64 ((4294967296:Int)*r)+u0))↔r*4294967296+u0<q*y0:=by
 have hm:q*y0<=4294967295*4294967295:=Z118 (by omega) (by omega)
 rw [<-Z14 q y0,Qo (n:=((q*y0:Nat):Int)) (by omega) (by omega),Qo (n:=(4294967296:Int)*r) (by omega) (by omega),Qo (by omega) (by omega)]
 omega
theorem Qvd:∃r:Nat,z40.l0 y1 y0 u0 (((u/y1:Nat):Int),((u%y1:Nat):Int))=some ((((u*4294967296+u0)/(y1*4294967296+y0):Nat):Int),(r:Int)):=by
 refine Qpt h1 h1' h0 hu hu0 (λq r=>(q,r)) (F:=λrec x=>z40.l0P y1 y0 u0 rec some x) λq r hq hr rec=>?_
 simp only [z40.l0P]
 rw [Qo (n:=(r:Int)+y1) (by omega) (by omega)]
 by_cases hq2:4294967296<=q
 ·rw [bif_t (by omega),if_pos (.inl hq2),Qo (n:=(q:Int)-1) (by omega) (by omega)]
  by_cases hr2:4294967296<=r+y1
  ·rw [bif_t (by omega),if_pos hr2];congr 2<;>omega
  ·rw [Qb (by omega),if_neg hr2];congr 2<;>omega
 ·rw [Qb (by omega)]
  have ht:=Qj8 h1 h1' h0 hu hu0 hq hr hq2
  by_cases hc:r*4294967296+u0<q*y0
  ·have hq0:0<q:=Nat.pos_of_ne_zero λh=>by subst h;omega
   rw [bif_t (ht.2 hc),if_pos (.inr hc),Qo (n:=(q:Int)-1) (by omega) (by omega)]
   by_cases hr2:4294967296<=r+y1
   ·rw [bif_t (by omega),if_pos hr2];congr 2<;>omega
   ·rw [Qb (by omega),if_neg hr2];congr 2<;>omega
  ·rw [Qb (λh=>hc (ht.1 h)),if_neg (by omega)]
theorem Qty:∃r:Nat,z40.l2 y1 y0 u0 (((u%y1:Nat):Int),((u/y1:Nat):Int))=some ((r:Int),(((u*4294967296+u0)/(y1*4294967296+y0):Nat):Int)):=by
 refine Qpt h1 h1' h0 hu hu0 (λq r=>(r,q)) (F:=λrec x=>z40.l2P y1 y0 u0 rec some x) λq r hq hr rec=>?_
 simp only [z40.l2P]
 rw [Qo (n:=(r:Int)+y1) (by omega) (by omega)]
 by_cases hq2:4294967296<=q
 ·rw [bif_t (by omega),if_pos (.inl hq2),Qo (n:=(q:Int)-1) (by omega) (by omega)]
  by_cases hr2:4294967296<=r+y1
  ·rw [bif_t (by omega),if_pos hr2];congr 2<;>omega
  ·rw [Qb (by omega),if_neg hr2];congr 2<;>omega
 ·rw [Qb (by omega)]
  have ht:=Qj8 h1 h1' h0 hu hu0 hq hr hq2
  by_cases hc:r*4294967296+u0<q*y0
  ·have hq0:0<q:=Nat.pos_of_ne_zero λh=>by subst h;omega
   rw [bif_t (ht.2 hc),if_pos (.inr hc),Qo (n:=(q:Int)-1) (by omega) (by omega)]
   by_cases hr2:4294967296<=r+y1
   ·rw [bif_t (by omega),if_pos hr2];congr 2<;>omega
   ·rw [Qb (by omega),if_neg hr2];congr 2<;>omega
  ·rw [Qb (λh=>hc (ht.1 h)),if_neg (by omega)]
end
end Go.Proofs.YtihfdjkjpncjfaaGreatDoor.A
end
section
namespace Go.Proofs.YtihfdjkjpncjfaaGreatDoor.A
open Go
theorem Qcj {n:Nat} (h:n<18446744073709551616):(BitVec.ofInt (IntKind.bits .u64) (n:Int)).toNat=n:=by
 show (BitVec.ofInt 64 (n:Int)).toNat=n
 rw [BitVec.toNat_ofInt]
 omega
theorem Qmz {n:Nat} (h:n<18446744073709551616):wr .u64 ((BitVec.ofInt (IntKind.bits .u64) (n:Int) &&& BitVec.ofInt (IntKind.bits .u64) (4294967295:Int)).toNat:Int)=((n%4294967296:Nat):Int):=by
 rw [BitVec.toNat_and,Qcj h,show (4294967295:Int)=((4294967295:Nat):Int) from rfl,Qcj (by omega),show 4294967295=2^32-1 from rfl,Nat.and_two_pow_sub_one_eq_mod,Qo (by omega) (by omega)]
theorem Qpu {a b s:Nat} (hb:b<2^s) (h:a*2^s+b<18446744073709551616):wr .u64 ((BitVec.ofInt (IntKind.bits .u64) ((a*2^s:Nat):Int) ||| BitVec.ofInt (IntKind.bits .u64) (b:Int)).toNat:Int)=((a*2^s+b:Nat):Int):=by
 rw [BitVec.toNat_or,Qcj (by omega),Qcj (by omega),Z24,<-Nat.two_pow_add_eq_or_of_lt hb,Qo (by omega) (by rw [Z24] at h;omega)]
theorem Qxk {B V Y U u1 u0:Nat} (hV:V=(U*B+u1)*B+u0) (hY:0<Y) (h0:u0<B) :
  V/Y=(U*B+u1)/Y*B+((U*B+u1)%Y*B+u0)/Y/\V%Y=((U*B+u1)%Y*B+u0)%Y:=by
 have h1:=Z65 (U*B+u1) Y
 generalize hA:U*B+u1=A at *
 generalize A/Y=q at *
 generalize A%Y=r at *
 have e:V=(r*B+u0)+Y*(q*B):=by
  rw [hV,<-h1,Z19,Z46];omega
 rw [e,Nat.add_mul_div_left _ _ hY,Z96]
 exact ⟨by omega,rfl⟩
theorem Qsc {B V Y U u1 u0:Nat} (hV:V=(U*B+u1)*B+u0) (hY:0<Y) (h0:u0<B) (hU:U<Y) (h1:u1<B) :
  ∃q1 U2 q0 U3,(U*B+u1)/Y=q1/\(U2*B+u0)/Y=q0/\Y*q1+U2=U*B+u1/\U2<Y/\Y*q0+U3=U2*B+u0/\U3<Y/\q1<B/\q0<B/\V/Y=q1*B+q0/\V%Y=U3:=by
 obtain ⟨a,b⟩:=Qxk hV hY h0
 have l:∀{u v:Nat},u<Y->v<B->(u*B+v)/Y<B:=λ{u v} hu hv=>by
  rw [Z85 hY]
  have:=Z3 B (show u+1<=Y from hu)
  rw [Z19,Z70] at this
  rw [Z24 B Y];omega
 have hr:=Z79 (U*B+u1) hY
 exact ⟨_,_,_,_,rfl,rfl,Z65 _ _,hr,Z65 _ _,Z79 _ hY,l hU h1,l hr h0,a,b⟩
theorem Qnl {hi lo s:Nat} (hs:s<=64):(hi*18446744073709551616+lo)*2^s=(hi*2^s+lo/2^(64-s))*18446744073709551616+lo*2^s%18446744073709551616:=by
 have e:18446744073709551616=2^(64-s)*2^s:=by rw [<-Z101,show 64-s+s=64 by omega]
 have h:lo/2^(64-s)=lo*2^s/18446744073709551616:=by
  rw [e,Nat.mul_div_mul_right _ _ (Z66 s)]
 rw [h,Z19,Z19,Nat.mul_right_comm,Z36]
 have:=Z65 (lo*2^s) 18446744073709551616
 omega
theorem bits_Div64 {hi lo y:Nat} (h:hi<y) (hlo:lo<18446744073709551616) (hy:y<18446744073709551616) :
  z40.F hi lo y=some ((((hi*18446744073709551616+lo)/y:Nat):Int),(((hi*18446744073709551616+lo)%y:Nat):Int)):=by
 rcases Z12 hi with h0|h0
 ·subst h0
  have:=Qm8 (a:=(lo:Int)) (b:=(y:Int)) (by omega) (by omega)
  rw [show ((0:Nat):Int)=0 from rfl,this,Nat.zero_mul,Z18]
  rfl
 obtain ⟨s,hs,s1,s2,hlead⟩:=Qkd (x:=y) (by omega) hy
 unfold z40.F
 rw [Qb (by omega),Qb (by omega),Qb (by omega),hlead]
 simp only [Zb]
 have hp:=Z66 s
 have hV:=Qnl (hi:=hi) (lo:=lo) (s:=s) (by omega)
 have hlt:(hi*18446744073709551616+lo)*2^s<y*2^s*18446744073709551616:=by
  rw [Nat.mul_right_comm];exact Z86 (by omega) hp
 have hb:lo/2^(64-s)<2^s:=by
  rw [Z85 (Z66 _),<-Z101,show s+(64-s)=64 by omega];exact hlo
 have hqy:=Nat.mul_div_mul_right (hi*18446744073709551616+lo) y hp
 have hmy:=Nat.mul_mod_mul_right (2^s) (hi*18446744073709551616+lo) y
 have e1:wr .u64 (s:Int)=s:=Qo (by omega) (by omega)
 have e4:wr .u64 ((64:Int)-s)=((64-s:Nat):Int):=by rw [Qo (by omega) (by omega)];omega
 have e5:min (64-s) 64=64-s:=by omega
 have e3:min s 64=s:=by omega
 have eY:wr .u64 ((y:Int)*2^s)=((y*2^s:Nat):Int):=by
  rw [show (y:Int)*2^s=((y*2^s:Nat):Int) by push_cast;rfl,Qo (by omega) (by omega)]
 have eL:wr .u64 ((lo:Int)*2^s)=((lo*2^s%18446744073709551616:Nat):Int):=by
  rw [show (lo:Int)*2^s=((lo*2^s:Nat):Int) by push_cast;rfl,Wv];rfl
 have hUY:hi*2^s+lo/2^(64-s)<y*2^s:=by
  have:(hi*2^s+lo/2^(64-s))*18446744073709551616<y*2^s*18446744073709551616:=by omega
  exact Nat.lt_of_mul_lt_mul_right this
 have hHi:=Nat.lt_of_le_of_lt (Z112 (hi*2^s) (lo/2^(64-s))) (Nat.lt_trans hUY s2)
 have eH:wr .u64 ((hi:Int)*2^s)=((hi*2^s:Nat):Int):=by
  rw [show (hi:Int)*2^s=((hi*2^s:Nat):Int) by push_cast;rfl,Qo (by omega) (by omega)]
 have eO:=Qpu (a:=hi) (s:=s) hb (by omega)
 simp only [e1,e4,Zi,e3,e5,eY,eL,eH,Jy,eO,show min 32 64=32 from rfl]
 generalize hU:hi*2^s+lo/2^(64-s)=U at *
 generalize hYe:y*2^s=Y at *
 generalize hLe:lo*2^s%18446744073709551616=L at *
 have hL:L<18446744073709551616:=by rw [<-hLe];exact Z79 _ (by omega)
 have aY:=Qmz s2;have aL:=Qmz hL
 simp only [aY,aL,show (2:Nat)^32=4294967296 from rfl]
 rw [if_pos (by omega),if_pos (by omega),if_pos (by omega),if_pos (by omega)]
 generalize hy1:Y/4294967296=y1 at *
 generalize hy0:Y%4294967296=y0 at *
 generalize hu1:L/4294967296=u1 at *
 generalize hu0:L%4294967296=u0 at *
 have hYd:Y=y1*4294967296+y0:=by omega
 have hLd:L=u1*4294967296+u0:=by omega
 have b1:2147483648<=y1/\y1<4294967296:=by omega
 have b0:y0<4294967296:=by omega
 have b2:u1<4294967296:=by omega
 have b3:u0<4294967296:=by omega
 rw [if_neg (by omega)]
 have hYp:0<Y:=by omega
 obtain ⟨q1,U2,q0,U3,dq1,dq0,m1,m2,m3,m4,hq1,hq0,V1,V2⟩:=Qsc (B:=4294967296) (V:=U*18446744073709551616+L) (Y:=Y) (U:=U) (u1:=u1) (u0:=u0) (by omega) hYp b3 hUY b2
 have first:∀{u:Nat},u<18446744073709551616->wr .u64 (Int.tdiv (u:Int) (y1:Int))=((u/y1:Nat):Int)/\wr .u64 ((u:Int)-wr .u64 (wr .u64 (Int.tdiv (u:Int) (y1:Int))*(y1:Int)))=((u%y1:Nat):Int):=λ{u} hu=>by
  have h1:=Z98 u y1
  have h2:=Z65 u y1
  have h3:Int.tdiv (u:Int) (y1:Int)=((u/y1:Nat):Int):=by rw [Y1 (by omega)];rfl
  rw [h3]
  generalize u/y1=q at *
  generalize u%y1=r at *
  rw [Qo (n:=(q:Int)) (by omega) (by omega)]
  refine ⟨rfl,?_⟩
  rw [Z24] at h2
  rw [show (q:Int)*(y1:Int)=((q*y1:Nat):Int) from rfl]
  generalize q*y1=P at *
  rw [Qo (n:=(P:Int)) (by omega) (by omega),Qo (by omega) (by omega)]
  omega
 obtain ⟨f1,f2⟩:=first (u:=U) (by omega)
 simp only [f2]
 rw [f1]
 obtain ⟨r1,d1⟩:=Qvd (y1:=y1) (y0:=y0) (u:=U) (u0:=u1) b1.1 b1.2 b0 (by omega) b2
 rw [d1,<-hYd,dq1]
 simp only [Zb]
 rw [if_neg (by omega)]
 have eU2:wr .u64 (wr .u64 (wr .u64 ((U:Int)*4294967296)+(u1:Int))-wr .u64 ((q1:Int)*(Y:Int)))=(U2:Int):=by
  rw [show (q1:Int)*(Y:Int)=((Y*q1:Nat):Int) by push_cast;exact Z87 _ _,Wv,Wv,Wv,Wv]
  generalize Y*q1=P at m1 ⊢
  clear d1 V1 V2 m3 m4 dq1 dq0 hV hlt hqy hmy
  omega
 simp only [eU2]
 obtain ⟨g1,g2⟩:=first (u:=U2) (by omega)
 simp only [g2]
 rw [g1]
 obtain ⟨r2,d2⟩:=Qty (y1:=y1) (y0:=y0) (u:=U2) (u0:=u0) b1.1 b1.2 b0 (by omega) b3
 rw [d2,<-hYd,dq0]
 simp only [Zb]
 rw [if_pos (by omega)]
 have eU3:wr .u64 (wr .u64 (wr .u64 ((U2:Int)*4294967296)+(u0:Int))-wr .u64 ((q0:Int)*(Y:Int)))=(U3:Int):=by
  rw [show (q0:Int)*(Y:Int)=((Y*q0:Nat):Int) by push_cast;exact Z87 _ _,Wv,Wv,Wv,Wv]
  generalize Y*q0=P at m3 ⊢
  clear d1 d2 V1 V2 m1 dq1 dq0 hV hlt hqy hmy
  omega
 rw [eU3,Jy,Qo (n:=(q1:Int)*4294967296) (by omega) (by omega),Qo (by omega) (by omega)]
 rw [hV,V1] at hqy
 rw [hV,V2] at hmy
 rw [<-hqy,hmy,Nat.mul_div_cancel _ hp]
 rfl
theorem Qp8 {a:J0} {b N:Nat} (ha:inB LB a) (hb:0<b) (hb':b<18446744073709551616) (hl:a.length<=800000000) (hN:(N:Int)=valB LB a) :
  ∀
   (k:Nat),k<=a.length->∀(m:Nat) (q:J0),(m:Int)=valB LB (a.drop k)->q.length=a.length->inB LB q->valB LB (q.drop k)=((m/b:Nat):Int) ->
   ∃q',Runs (λrec x=>z41.l0P a b rec some x) (((m%b:Nat):Int),(k:Int)-1,q) (((N%b:Nat):Int),(-1:Int),q')/\q'.length=a.length/\inB LB q'/\valB LB q'=((N/b:Nat):Int)
 |
  0,hk,m,q,hm,hq,hi,hv=>by
  have:m=N:=by rw [Z34] at hm;omega
  subst this
  refine ⟨q,.done λrec=>?_,hq,hi,by rwa [Z34] at hv⟩
  unfold z41.l0P
  simp only
  rw [Qb (by omega)];rfl
 |
  k+1,hk,m,q,hm,hq,hi,hv=>by
  have hka:k<a.length:=by omega
  have hkq:k<q.length:=by omega
  have hd:=Q8 (B:=LB) (by decide) ha k
  obtain ⟨d,hd'⟩:∃d:Nat,a.getD k 0=(d:Int):=⟨(a.getD k 0).toNat,by omega⟩
  have hd2:d<18446744073709551616:=by rw [hd'] at hd;exact_mod_cast hd.2
  obtain ⟨r,hr⟩:∃r,m%b=r:=⟨_,rfl⟩
  have hrb:r<b:=hr▸Z79 m hb
  obtain ⟨x,hx⟩:∃x,r*18446744073709551616+d=x:=⟨_,rfl⟩
  have hxb:x<b*18446744073709551616:=by omega
  obtain ⟨z,hz⟩:∃z,x/b=z:=⟨_,rfl⟩
  obtain ⟨w,hw⟩:∃w,x%b=w:=⟨_,rfl⟩
  obtain ⟨y,hy⟩:∃y,m/b=y:=⟨_,rfl⟩
  have hq1:z<18446744073709551616:=hz▸Z57 hxb
  have hmm:b*y+r=m:=by rw [<-hy,<-hr];exact Z65 m b
  have hm':((d+LB*m:Nat):Int)=valB LB (a.drop k):=by rw [Wf,hd',<-hm,Z40,Z14]
  have e:d+LB*m=x+b*(LB*y):=by
   have h4:b*(LB*y)=LB*(b*y):=by rw [<-Z46,Z24 b LB,Z46]
   have h5:LB*m=LB*(b*y)+LB*r:=by rw [<-hmm,Z117]
   rw [h4,h5,<-hx,Z24 r];show _=18446744073709551616*r+d+LB*(b*y)
   have:LB*r=18446744073709551616*r:=rfl
   omega
  have hdiv:(d+LB*m)/b=z+LB*y:=by rw [e,Nat.add_mul_div_left _ _ hb,hz]
  have hmod:(d+LB*m)%b=w:=by rw [e,Z96,hw]
  have hvq:valB LB ((q.set k (z:Int)).drop k)=(((d+LB*m)/b:Nat):Int):=by
   rw [Wf,Qh2,hv,hdiv,hy]
   have:(q.set k (z:Int)).getD k 0=(z:Int):=by simp [List.getD,hkq]
   rw [this,Z40,Z14]
  obtain ⟨q',r1,r2,r3,r4⟩:=Qp8 ha hb hb' hl hN k (by omega) (d+LB*m) (q.set k (z:Int)) hm' (by simp [hq]) (Yc hi (by show (0:Int)<=(z:Int)/\(z:Int)<((18446744073709551616:Nat):Int);omega)) hvq
  rw [hmod] at r1
  refine ⟨q',.step (λrec=>?_) r1,r2,r3,r4⟩
  have ek:((k+1:Nat):Int)-1=(k:Int):=by omega
  unfold z41.l0P
  simp only
  rw [ek,bif_t (by omega),if_pos (by omega),Zi,hd',hr,bits_Div64 hrb hd2 hb',hx,hz,hw]
  simp only [Zb]
  rw [if_pos (by omega),if_pos hkq,Qc (by omega) (by omega)]
theorem quot_by {a b:Nat} (hb:0<b) (hb':b<18446744073709551616) (ha:(lb a).length<=800000000):∃q,z41.F (lb a) (b:Int)=some (q,((a%b:Nat):Int))/\q.length=(lb a).length/\inB LB q/\valB LB q=((a/b:Nat):Int):=by
 obtain ⟨q',r1,r2,r3,r4⟩:=Qp8 (a:=lb a) (b:=b) (N:=a) (Q3 bL a) hb hb' ha (by rw [Wj bL]) (lb a).length (Z4 _) 0 (List.replicate (lb a).length 0) (by rw [List.drop_length];rfl) (by simp) (Qbi (by decide) _) (by rw [Z26 (by simp)];simp [valB])
 rw [Nat.zero_mod] at r1
 have e:z41.l0 (lb a) (b:Int) ((0:Int),((lb a).length:Int)-1,List.replicate (lb a).length 0)=some (((a%b:Nat):Int),(-1:Int),q'):=r1.lfp
 refine ⟨q',?_,r2,r3,r4⟩
 unfold z41.F
 rw [if_pos (by omega),Zi,Qc (by omega) (by omega),e]
 rfl
theorem Qk0 {a b:Nat} (hb:0<b) (hb':b<18446744073709551616) (ha:(lb a).length<=800000000):Yu a b:=by
 rcases Z39 a b with h|h
 ·exact Qhl h (by omega)
 ·have hl:(lb b).length<=1:=Yf bL (by simpa using hb')
  obtain ⟨q,q1,q2,q3,q4⟩:=quot_by hb hb' ha
  unfold Yu z46.F
  rw [Ws]
  simp only [Zb]
  rw [Qb (by omega),Qb3 (by omega)]
  simp only [Zb]
  have:¬cmpI (a:Int) b<0:=by unfold cmpI;rw [if_neg (by omega)];split<;>omega
  rw [Qb this,Jm (by show List.length _<=_;omega),Jm (by show List.length _<=_;omega)]
  simp only [Zb]
  rw [Qef hb hb',Z38,bif_t (by omega),if_pos (by omega),show [(b:Int)].getD 0 0=b from rfl,q1]
  simp only [Zb]
  rw [Qb2 q3 (by show List.length _<=_;omega),q4]
  simp only [Zb]
  have hm:=Z79 a hb
  rw [Yd (by omega)]
  rfl
inductive Rem (len:Nat):Nat->Nat->List Int->Prop
 |stop (j:Nat) (h:len<=j):Rem len 0 j []
 |step (n j:Nat) (ds:List Int) (h:0<n\/j<len) (hr:Rem len (n/10) (j+1) ds):Rem len n j (((n%10:Nat):Int)::ds)
def asc (d:Int):Int:=48+d
theorem Qvg {s:J0} {i:Nat} {x:Int} (h:i<s.length):(s.set i x).drop i=x::s.drop (i+1):=by
 rw [Z30 (by simpa using h),Qh2]
 simp
theorem Qzw {len:Nat} (hlen:len<=20) {n j:Nat} {ds:J0} (h:Rem len n j ds):n<18446744073709551616->j+ds.length<=20->∀s:J0,s.length=20 ->
  ∃s',Runs (λrec x=>z83.l0P (len:Int) rec some x) ((n:Int),((20-j:Nat):Int),s) ((0:Int),((20-j-ds.length:Nat):Int),s')/\s'.length=20/\s'.drop (20-j-ds.length)=ds.reverse.map asc++s.drop (20-j):=by
 induction h with
 |
  stop j h=>
  intro _ hj s hs
  simp only [Z54,Z77] at hj
  refine ⟨s,.done λrec=>?_,hs,by simp⟩
  unfold z83.l0P
  simp only [Z54,Nat.sub_zero]
  rw [Qb (by omega),Qc (by omega) (by omega),Qb (by omega)]
  rfl
 |
  step n j ds h hr ih=>
  intro hn hj s hs
  simp only [Z9] at hj
  have hi:20-(j+1)<s.length:=by omega
  obtain ⟨s',r1,r2,r3⟩:=ih (by omega) (by omega) (s.set (20-(j+1)) (asc ((n%10:Nat):Int))) (by simpa using hs)
  refine ⟨s',?_,r2,?_⟩
  ·rw [Z9,show 20-j-(ds.length+1)=20-(j+1)-ds.length by omega]
   refine .step (λrec=>?_) r1
   have e1:wr .i64 (((20-j:Nat):Int)-1)=((20-(j+1):Nat):Int):=by rw [Qc (by omega) (by omega)];omega
   have e2:wr .u64 (Int.tdiv (n:Int) 10)=((n/10:Nat):Int):=by rw [Y1 (by omega),Qo (by omega) (by omega)];rfl
   have e3:wr .u8 (wr .u64 (48+Int.tmod (n:Int) 10))=asc ((n%10:Nat):Int):=by
    rw [Jf (by omega),Qo (by omega) (by omega),Qjz (by omega) (by omega)];rfl
   unfold z83.l0P
   simp only [e1,e2,e3]
   rcases Z12 n with h0|h0
   ·have hjl:j<len:=h.resolve_left (by omega)
    rw [Qb (by omega),Qc (by omega) (by omega),bif_t (by omega),if_pos (by omega),Zi,if_pos hi]
   ·rw [bif_t (by omega),if_pos (by omega),Zi,if_pos hi]
  ·rw [Z9,show 20-j-(ds.length+1)=20-(j+1)-ds.length by omega,r3,Qvg hi,show 20-(j+1)+1=20-j by omega]
   simp
theorem Qtz {ds:J0} (h:inB 10 ds):(ds.map asc).map (λn=>UInt8.ofNat n.toNat)=ds.map ch:=by
 rw [List.map_map]
 refine Z108 λd hd=>?_
 have:=h d hd
 show UInt8.ofNat (48+d).toNat=UInt8.ofNat (48+d.toNat)
 rw [show (48+d).toNat=48+d.toNat by omega]
theorem Rem.inB {len n j:Nat} {ds:J0} (h:Rem len n j ds):inB 10 ds:=by
 induction h with
 |stop=>exact inB_nil _
 |step n j ds h hr ih=>exact Wu.2 ⟨by omega,ih⟩
theorem Qun {B:Nat} {l:J0} (h:inB B l):inB B l.reverse:=λx hx=>h x (by simpa using hx)
theorem Qru {len n:Nat} {ds:J0} (hlen:len<=20) (hn:n<18446744073709551616) (h:Rem len n 0 ds) (hd:ds.length<=20):z83.F (n:Int) (len:Int)=some (ds.reverse.map ch):=by
 obtain ⟨s',r1,r2,r3⟩:=Qzw hlen h hn (by omega) (List.replicate 20 0) (by simp)
 have e:z83.l0 (len:Int) ((n:Int),(20:Int),List.replicate 20 (0:Int))=some ((0:Int),((20-0-ds.length:Nat):Int),s'):=r1.lfp
 unfold z83.F
 rw [e]
 simp only [Zb]
 have hl:(s'.drop (20-0-ds.length)).length=ds.length:=by rw [Z35];omega
 rw [if_pos r2,if_pos (by omega),Zi,Z28 (by rw [hl];omega),r3]
 simp only [Nat.sub_zero,List.drop_replicate,Nat.sub_self,List.replicate_zero,Z45]
 rw [Qtz (Qun h.inB)]
def lsd:Nat->Nat->J0
 |0,_=>[]
 |k+1,n=>((n%10:Nat):Int)::lsd k (n/10)
theorem Qez:∀(k n:Nat),(lsd k n).length=k
 |0,_=>rfl
 |k+1,n=>by simp [lsd,Qez k]
theorem Qnb {len:Nat}:∀(k n j:Nat),j+k=len->n<10^k->Rem len n j (lsd k n)
 |
  0,n,j,hj,hn=>by
  have:n=0:=by simpa using hn
  subst this;exact .stop j (by omega)
 |k+1,n,j,hj,hn=>.step n j _ (.inr (by omega)) (Qnb k (n/10) (j+1) (by omega) (by rw [Z44] at hn;omega))
theorem Qrl {len:Nat} (n:Nat):∀j,(len<=j\/0<n/\len<=j+1)->Rem len n j (toB 10 n):=by
 induction n using Nat.strongRecOn with
 |
  _ n ih=>
  intro j hj
  rcases Z12 n with h0|h0
  ·subst h0;rw [toB_zero];exact .stop j (by omega)
  ·rw [W5 b10 h0]
   exact .step n j _ (.inl h0) (ih _ (Z116 h0 (by decide)) (j+1) (.inl (by omega)))
theorem Qjt:∀(k low q:Nat),0<q->low<10^k->toB 10 (low+10^k*q)=lsd k low++toB 10 q
 |
  0,low,q,hq,hl=>by
  have:low=0:=by simpa using hl
  subst this;simp [lsd]
 |
  k+1,low,q,hq,hl=>by
  have hp:0<10^k:=Z109 (by decide)
  have hpq:0<10^k*q:=Z49 hp hq
  have e:low+10^(k+1)*q=low+10*(10^k*q):=by rw [Z44,Z24 (10^k),Z46]
  rw [e,W5 b10 (by omega),lsd]
  rw [Z96,Nat.add_mul_div_left _ _ (by decide),Qjt k (low/10) q hq (by rw [Z44] at hl;omega)]
  rfl
inductive Groups:Nat->List (List UInt8)->Prop
 |zero:Groups 0 []
 |last (n:Nat) (h0:0<n) (h:n<10^18):Groups n [(toB 10 n).reverse.map ch]
 |more (low q:Nat) (gs:List (List UInt8)) (hl:low<10^18) (h0:0<q) (hg:Groups q gs):Groups (low+10^18*q) (((lsd 18 low).reverse.map ch)::gs)
theorem Groups.text {n:Nat} {gs:List J1} (h:Groups n gs):gs.reverse.flatten=(toB 10 n).reverse.map ch:=by
 induction h with
 |zero=>rw [toB_zero];rfl
 |last n h0 h=>simp
 |
  more low q gs hl h0 hg ih=>
  rw [List.reverse_cons,Z91,ih,Qjt 18 low q h0 hl,List.reverse_append,Z71]
  simp
theorem Groups.pos {n:Nat} {gs:List J1} (h:Groups n gs):∀g∈gs,1<=g.length:=by
 induction h with
 |zero=>intro g hg;simp at hg
 |
  last n h0 h=>
  intro g hg
  simp only [Z113] at hg;subst hg
  rw [W5 b10 h0];simp
 |
  more low q gs hl h0 hg ih=>
  intro g hg
  rcases Z103.1 hg with rfl|hg
  ·simp [Qez]
  ·exact ih g hg
theorem Ql0:∀{gs:List J1},(∀g∈gs,1<=g.length)->gs.length<=gs.flatten.length
 |[],_=>by simp
 |
  g::gs,h=>by
  have:=h g (by simp)
  have:=Ql0 λg' h'=>h g' (List.mem_cons_of_mem _ h')
  simp only [Z9,Z58,Z10];omega
theorem Groups.len {n:Nat} {gs:List J1} (h:Groups n gs):gs.length<=sz n/\gs.flatten.length=sz n:=by
 have ht:=congrArg List.length h.text
 have e:gs.reverse.flatten.length=gs.flatten.length:=by
  simp only [List.length_flatten,List.map_reverse,List.sum_reverse]
 rw [e] at ht
 have ht:gs.flatten.length=sz n:=by rw [ht];unfold sz;simp
 exact ⟨by rw [<-ht];exact Ql0 h.pos,ht⟩
theorem Qtv (l:J0) (hl:l.length<=1):z84.l2 l (((l.length:Nat):Int)) ((0:Int),(0:Int))=some (l.getD 0 0,(l.length:Int)):=by
 match l,hl with
 |
  [],_=>
  refine (Runs.done λrec=>?_:Runs (λrec x=>z84.l2P [] _ rec some x) _ _).lfp
  unfold z84.l2P
  simp only [Z54]
  rw [Qb (by omega)];rfl
 |
  [x],_=>
  refine (Runs.step (y:=(x,(1:Int))) (λrec=>?_) (Runs.done λrec=>?_):Runs (λrec x'=>z84.l2P [x] _ rec some x') _ _).lfp
  ·unfold z84.l2P
   simp only [Z38]
   rw [bif_t (by omega),if_pos (by omega),Qc (by omega) (by omega)];rfl
  ·unfold z84.l2P
   simp only [Z38]
   rw [Qb (by omega)];rfl
theorem Quh {n:Nat} (h:n<18446744073709551616):(lb n).getD 0 0=(n:Int)/\(lb n).length<=1:=by
 rcases Z12 n with rfl|h0
 ·rw [lb_zero];simp
 ·rw [Qef h0 h];simp
theorem Qm2 {low:Nat} {len:Nat} {ds:J0} (hlen:len<=20) (hl:low<18446744073709551616) (hr:Rem len low 0 ds) (hd:ds.length<=20) {gs:List J1} (hg:gs.length<=800000000) {rec done:(J0×List J1)->Option (J0×List J1)} {y:Int} {r:J0×J0×Int} :
  z84.j1010a rec done ((low:Int),y) (len:Int) gs r=rec (r.1,gs++[ds.reverse.map ch]):=by
 unfold z84.j1010a
 rw [Qru hlen hl hr hd]
 simp only [Zb,Z38]
 rw [if_pos (by omega)]
theorem Qvh:∀(n:Nat),sz n<=100000000->∀gs:List J1,gs.length+sz n<=700000000->∃l,Groups n l/\Runs (λrec x=>z84.l0P rec some x) (lb n,gs) ([],gs++l):=by
 intro n
 induction n using Nat.strongRecOn with
 |
  _ n ih=>
  intro hs gs hg
  obtain ⟨U,hU⟩:∃U,U=1000000000000000000:=⟨_,rfl⟩
  have hU10:10^18=U:=by rw [hU]
  rcases Z12 n with h0|h0
  ·subst h0
   refine ⟨[],.zero,.done λrec=>?_⟩
   unfold z84.l0P
   simp only [Ws,Zb]
   rw [lb_zero,Z45];rfl
  ·have hUp:0<U:=by omega
   have hdm:=Z65 n U
   have hml:=Z79 n hUp
   have hdl:n/U<=n:=Z98 _ _
   have hD:Yu n U:=Qk0 hUp (by omega) (by have:=Qk n;omega)
   have hqlt:n/U<n:=Z116 h0 (by omega)
   obtain ⟨q,hq⟩:∃q,n/U=q:=⟨_,rfl⟩
   obtain ⟨low,hlow⟩:∃low,n%U=low:=⟨_,rfl⟩
   unfold Yu at hD
   rw [hq] at hdm hdl hD hqlt;rw [hlow] at hdm hml hD
   have hsq:sz q<=sz n:=Q5 hdl
   obtain ⟨g1,g2⟩:=Quh (n:=low) (by omega)
   have hof:z27.F [(1000000000000000000:Int)]=some (lb U):=by rw [Yd (by omega),hU];rfl
   have hl2:=Qtv (lb low) g2
   rw [g1] at hl2
   have body:∀{rec done:(J0×List J1)->Option (J0×List J1)},z84.l0P rec done (lb n,gs) =
     (bif decide (q=0) then z84.j1010a rec done ((low:Int),((lb low).length:Int)) 1 gs (lb q,lb low,0) else z84.j1010a rec done ((low:Int),((lb low).length:Int)) 18 gs (lb q,lb low,0)):=λ{rec done}=>by
    unfold z84.l0P
    simp only [Ws,Zb]
    rw [Zf (by omega),Zo,Zd,hof]
    simp only [Zb]
    rw [hD]
    simp only [Zb]
    rw [Jm (by show List.length _<=_;omega)]
    simp only [Zb]
    rw [hl2]
    simp only [Zb,Ws]
   rcases Z12 q with hq0|hq0
   ·subst hq0
    have hn:n=low:=by omega
    subst hn
    have hsz:sz n<=18:=sz_le (by rw [hU10];exact hml)
    refine ⟨[(toB 10 n).reverse.map ch],.last n h0 (by rw [hU10];exact hml),.step (y:=([],gs++[(toB 10 n).reverse.map ch])) (λrec=>?_) (.done λrec=>?_)⟩
    ·rw [body,bif_t rfl]
     refine (Qm2 (len:=1) (by omega) (by omega) (Qrl n 0 (.inr ⟨h0,by omega⟩)) (by show sz n<=20;omega) (by omega)).trans ?_
     rw [lb_zero]
    ·unfold z84.l0P
     rw [<-lb_zero]
     simp only [Ws,Zb]
     rw [lb_zero];rfl
   ·obtain ⟨l,l1,l2⟩:=ih q hqlt (by omega) (gs++[(lsd 18 low).reverse.map ch]) (by
     have h1:sz q<sz n:=by
      have:=congrArg List.length (Qjt 18 low q hq0 (by rw [hU10];exact hml))
      rw [Z10,Qez,hU10,show low+U*q=n by omega] at this
      unfold sz;omega
     simp only [Z10,Z38];omega)
    have hgn:Groups n (((lsd 18 low).reverse.map ch)::l):=by
     have:=Groups.more low q l (by rw [hU10];exact hml) hq0 l1
     rwa [hU10,show low+U*q=n by omega] at this
    refine ⟨_,hgn,.step (y:=(lb q,gs++[(lsd 18 low).reverse.map ch])) (λrec=>?_) (by rw [show gs++((lsd 18 low).reverse.map ch)::l=(gs++[(lsd 18 low).reverse.map ch])++l by simp];exact l2)⟩
    rw [body,Qb (by omega)]
    exact Qm2 (len:=18) (by omega) (by omega) (Qnb 18 low 0 (by omega) (by rw [hU10];exact hml)) (by rw [Qez];omega) (by omega)
def byts (s:J1):J0:=s.map λc=>(c.toNat:Int)
theorem Qw7 (a b:J1):byts (a++b)=byts a++byts b:=by simp [byts]
theorem Qqy (s:J1):(byts s).all Qcf=true:=by
 rw [Z23]
 intro x hx
 obtain ⟨c,_,rfl⟩:=List.mem_map.1 hx
 have:=c.toNat_lt
 simp [Qcf];omega
theorem Qxt (s:J1):(byts s).map (λn=>UInt8.ofNat n.toNat)=s:=by
 unfold byts
 rw [List.map_map]
 conv=>rhs;rw [<-List.map_id s]
 exact Z108 λc _=>by simp
theorem Qf8 (s:J1):(byts s).length=s.length:=by simp [byts]
theorem Ql3 {gs:List J1} (hg:gs.length<=800000000) (hs:gs.flatten.length<=100000000):∀(k:Nat),k<=gs.length->∀acc:J1,acc.length+(gs.take k).flatten.length<=100000000 ->
  ∃i,Runs (λrec x=>z84.l4P gs rec some x) ((k:Int)-1,byts acc) (i,byts (acc++(gs.take k).reverse.flatten))
 |
  0,hk,acc,ha=>⟨-1,by
  refine .done λrec=>?_
  unfold z84.l4P
  simp only
  rw [Qb (by omega)];simp⟩
 |
  k+1,hk,acc,ha=>by
  have hk':k<gs.length:=by omega
  have hget:gs.getD k []=gs[k]:=by simp [List.getD,hk']
  have htk:gs.take (k+1)=gs.take k++[gs[k]]:=by rw [List.take_add_one,Z1 hk'];rfl
  have hfl:(gs.take (k+1)).flatten.length=(gs.take k).flatten.length+gs[k].length:=by rw [htk,Z91,Z10,List.flatten_singleton]
  obtain ⟨i,hi⟩:=Ql3 hg hs k (by omega) (acc++gs[k]) (by rw [Z10];omega)
  refine ⟨i,.step (λrec=>?_) (by rw [htk,List.reverse_append,List.reverse_singleton,Z91,List.flatten_singleton,<-Z82];exact hi)⟩
  unfold z84.l4P
  simp only
  rw [show ((k+1:Nat):Int)-1=(k:Int) by omega,bif_t (by omega),if_pos (by omega),Zi,if_pos hk',hget]
  change (if ((byts acc).length+(byts gs[k]).length)*1<=140737488355328 then _ else none)=_
  rw [Qf8,Qf8,if_pos (by omega),Qc (by omega) (by omega),Qw7]
  rfl
theorem digits_Print {n:Nat} (hs:sz n<=100000000):z84.F (lb n)=some (txt n):=by
 unfold z84.F
 rw [Ws]
 simp only [Zb]
 rcases Z12 n with h0|h0
 ·subst h0;rfl
 rw [Qb (by omega)]
 obtain ⟨gs,g1,g2⟩:=Qvh n hs [] (by simp only [Z54];omega)
 have e0:z84.l0 (lb n,[])=some ([],gs):=g2.lfp
 obtain ⟨l1,l2⟩:=g1.len
 have ht:=g1.text
 have hn:0<gs.length:=by
  cases gs with
  |nil=>exfalso;cases g1;omega
  |cons=>simp
 rw [e0]
 simp only [Zb]
 obtain ⟨k,hk⟩:∃k,gs.length=k+1:=⟨gs.length-1,by omega⟩
 have hk':k<gs.length:=by omega
 have hget:gs.getD k []=gs[k]:=by simp [List.getD,hk']
 have htk:gs=gs.take k++[gs[k]]:=by
  have:=List.take_add_one (l:=gs) (i:=k)
  rw [Z1 hk',Z28 (by omega)] at this;exact this
 have hfl:gs.flatten.length=(gs.take k).flatten.length+gs[k].length:=by
  conv=>lhs;rw [htk]
  rw [Z91,Z10,List.flatten_singleton]
 rw [hk,Qc (n:=((k+1:Nat):Int)-1) (by omega) (by omega),show ((k+1:Nat):Int)-1=(k:Int) by omega,bif_t (by omega),if_pos (by omega),Zi,if_pos (by omega),hget]
 change (if (0+(byts gs[k]).length)*1<=140737488355328 then ((z84.l4 gs (wr .i64 ((k:Int)-1),[]++byts gs[k])).bind _) else none)=_
 rw [Qf8,if_pos (by omega),Qc (by omega) (by omega),Z107]
 obtain ⟨i,hi⟩:=Ql3 (gs:=gs) (by omega) (by omega) k (by omega) gs[k] (by omega)
 have e4:z84.l4 gs ((k:Int)-1,byts gs[k])=some (i,byts (gs[k]++(gs.take k).reverse.flatten)):=hi.lfp
 have hall:gs[k]++(gs.take k).reverse.flatten=gs.reverse.flatten:=by
  conv=>rhs;rw [htk]
  rw [List.reverse_append,List.reverse_singleton,Z91,List.flatten_singleton]
 rw [e4,hall]
 simp only [Zb]
 have hlen:gs.reverse.flatten.length=sz n:=by rw [ht];unfold sz;simp
 have hszp:0<sz n:=by omega
 rw [Qf8,if_pos (by omega),if_pos ⟨trivial,by omega,Qqy _⟩,Qxt,ht]
 unfold txt
 rw [if_neg (by omega)]
def itxt (z:Int):J1:=if z<0 then 45::txt z.natAbs else txt z.natAbs
theorem Qe0 (n:Nat):(txt n).length<=sz n+1:=by
 unfold txt;split
 ·simp
 ·unfold sz;simp
theorem Qsp (z:Int):(itxt z).length<=sz z.natAbs+2:=by
 have:=Qe0 z.natAbs
 unfold itxt;split
 ·simp only [Z9];omega
 ·omega
theorem Jj {z:Int} (hs:sz z.natAbs<=100000000):z85.F (lb z.natAbs) (neg z)=some (itxt z):=by
 have:=Qe0 z.natAbs
 unfold z85.F itxt
 by_cases h:z<0
 ·rw [bif_t h,digits_Print hs,if_pos h]
  simp only [Zb]
  rw [if_pos (by simp only [Z38];omega)];rfl
 ·rw [Qb h,digits_Print hs,if_neg h];rfl
theorem Qkn {z:Int} (hs:sz z.natAbs<=100000000):z6.F (dg z.natAbs) (neg z)=some (itxt z):=by
 have h1:=Qe0 z.natAbs
 have h2:=Qdv z.natAbs
 exact Qij (by omega) (by omega)
theorem Qgq (s:J1):sz (mMoney s).1.natAbs<=31:=by
 unfold mMoney
 have hm:∀e:Int,sz (Int.natAbs ((0:Int),e).1)<=31:=λe=>by show sz 0<=31;rw [Js];omega
 split
 ·exact hm _
 ·split
  ·exact hm _
  ·rename_i h;exact sz_le (by
    have:(10:Int)^30=1000000000000000000000000000000:=by decide
    rw [this] at h
    simp only;omega)
theorem Qgk (s:J1):sz (mRate s).1.num.natAbs<=100/\sz (mRate s).1.den<=100:=by
 obtain ⟨hb1,hb2⟩:=Qqc s
 have h0:sz (Rat.num 0).natAbs<=100/\sz (Rat.den 0)<=100:=by
  show sz 0<=100/\sz 1<=100
  exact ⟨by rw [Js];omega,Z11 (sz_le (k:=1) (by decide)) (by omega)⟩
 unfold mRate
 generalize mDec s=d at *
 obtain ⟨c,sc,e⟩:=d
 simp only at *
 by_cases h:e≠0
 ·rw [if_pos h];exact h0
 rw [if_neg h]
 by_cases h2:c<0\/1000*((10^sc:Nat):Int)<c\/12<sc
 ·rw [if_pos h2];exact h0
 rw [if_neg h2]
 have hp12:10^sc<=10^12:=Z33 (by decide) (by omega)
 have hp0:0<10^sc:=Z109 (by decide)
 have n1:=Qcp c hp0
 have n2:=Qcr c hp0
 have hd0:=(mkRat c (10^sc)).den_pos
 generalize mkRat c (10^sc)=q at *
 have e1:q/100=mkRat q.num (q.den*100):=by
  rw [Qqq,show (100:Rat).den=1 from rfl,show (100:Rat).num=100 from rfl,<-Rat.divInt_ofNat]
  simp
 have m1:=Qcp q.num (show 0<q.den*100 by omega)
 have m2:=Qcr q.num (show 0<q.den*100 by omega)
 rw [e1]
 show sz (mkRat q.num (q.den*100)).num.natAbs<=100/\sz (mkRat q.num (q.den*100)).den<=100
 exact ⟨Z11 (sz_le (k:=20) (by omega)) (by omega),Z11 (sz_le (k:=20) (by omega)) (by omega)⟩
end Go.Proofs.YtihfdjkjpncjfaaGreatDoor.A
end
section
set_option linter.unusedSectionVars false
namespace Go.Proofs.YtihfdjkjpncjfaaGreatDoor.A
open Go
section
variable {U3 D2 P ul dl:Nat} (hul:ul<P) (hdl:dl<P) (h0:0<D2)
include hul hdl h0
theorem Qmj:(U3*P+ul)/(D2*P+dl)<=U3/D2:=by
 rw [Z74 h0]
 have hQ:=Nat.div_mul_le_self (U3*P+ul) (D2*P+dl)
 generalize (U3*P+ul)/(D2*P+dl)=Q at *
 have h1:Q*D2*P<=Q*(D2*P+dl):=by rw [Z46];exact Z43 _ (Z112 _ _)
 have h2:Q*D2*P<(U3+1)*P:=by rw [Z19,Z70];omega
 have:=Nat.lt_of_mul_lt_mul_right h2
 omega
theorem Qy5 {B:Nat} (hD:B<=D2) (hq:U3/D2<B):U3/D2<=(U3*P+ul)/(D2*P+dl)+1:=by
 have hDp:0<D2*P+dl:=by
  have:=Z49 h0 (show 0<P by omega);omega
 have hQ:=Nat.lt_mul_div_succ (U3*P+ul) hDp
 have hq3:=Nat.div_mul_le_self U3 D2
 generalize (U3*P+ul)/(D2*P+dl)=Q at *
 generalize U3/D2=q at *
 rcases Z39 (Q+1) q with h|h
 ·exfalso
  have e1:(Q+2)*(D2*P+dl)<=q*(D2*P+dl):=Z3 _ (by omega)
  have e2:q*(D2*P+dl)=q*D2*P+q*dl:=by rw [Z117,Z46]
  have e3:q*D2*P<=U3*P:=Z3 _ hq3
  have e4:q*dl<=B*P:=Z118 (by omega) (by omega)
  have e5:(Q+2)*(D2*P+dl)=(D2*P+dl)*(Q+1)+(D2*P+dl):=by
   rw [show Q+2=(Q+1)+1 by omega,Z19,Z70,Z24]
  have e6:B*P<=D2*P:=Z3 _ hD
  generalize (D2*P+dl)*(Q+1)=X at *
  generalize (Q+2)*(D2*P+dl)=Y at *
  generalize q*(D2*P+dl)=Z at *
  generalize q*D2*P=W at *
  generalize q*dl=V at *
  generalize B*P=T at *
  generalize D2*P=S at *
  generalize U3*P=R at *
  have hlt:q*dl<1->True:=λ_=>trivial
  omega
 ·exact h
end
theorem Qzs {B d1 d2 top next third P ul dl:Nat} (h1:B<=2*d1) (hd2:d2<B) (hul:ul<P) (hdl:dl<P) (ht:d1<=top)
  (hU:((top*B+next)*B+third)*P+ul<((d1*B+d2)*P+dl)*B) :
  (((top*B+next)*B+third)*P+ul)/((d1*B+d2)*P+dl)<=B-1/\B-1<=(((top*B+next)*B+third)*P+ul)/((d1*B+d2)*P+dl)+1:=by
 have hP:0<P:=by omega
 have hB:0<B:=by omega
 have hD0:d1*B*P<=(d1*B+d2)*P+dl:=Z11 (Z3 _ (Z112 _ _)) (Z112 _ _)
 have hDp:0<(d1*B+d2)*P+dl:=by
  have:=Z49 (Z49 (show 0<d1 by omega) hB) hP;omega
 have hD1:(d1*B+d2)*P+dl<(d1*B+B)*P:=by
  have:(d1*B+d2+1)*P<=(d1*B+B)*P:=Z3 _ (by omega)
  rw [Z19 _ 1,Z70] at this;omega
 have hU0:d1*B*B*P<=((top*B+next)*B+third)*P+ul:=by
  refine Z11 (Z3 _ ?_) (Z112 _ _)
  refine Z11 (Z3 _ ?_) (Z112 _ _)
  exact Z11 (Z3 _ ht) (Z112 _ _)
 generalize ((top*B+next)*B+third)*P+ul=U at *
 generalize (d1*B+d2)*P+dl=D at *
 have hQ:=Nat.lt_mul_div_succ U hDp
 have hQB:U/D<B:=Z57 hU
 refine ⟨by omega,?_⟩
 generalize U/D=Q at *
 rcases Z39 (Q+1) (B-1) with h|h
 ·exfalso
  have e1:D*(Q+3)<=D*B:=Z43 _ (by omega)
  have e2:D*(Q+3)=D*(Q+1)+2*D:=by rw [show Q+3=(Q+1)+2 by omega,Z117,Z24 D 2]
  have e3:D*B<=(d1*B+B)*P*B:=Z3 _ (Z72 hD1)
  have e4:(d1*B+B)*P*B=d1*B*B*P+B*B*P:=by
   rw [Z19,Z19,Nat.mul_right_comm _ P B,Nat.mul_right_comm B P B]
  have e5:B*B*P<=2*(d1*B*P):=by
   rw [<-Z46,<-Z46]
   exact Z3 _ (Z3 _ h1)
  generalize D*(Q+1)=X at *
  generalize D*(Q+3)=Y at *
  generalize (d1*B+B)*P*B=Z at *
  generalize d1*B*B*P=W at *
  generalize B*B*P=V at *
  generalize d1*B*P=T at *
  omega
 ·exact h
theorem Qy7 {B d1 d2 top next third:Nat} (h1:B<=2*d1) (hd2:d2<B) (ht:top<d1) (hn:next<B) :
  (top*B+next)/d1<=((top*B+next)*B+third)/(d1*B+d2)+2/\(top*B+next)/d1<B:=by
 have hB:0<B:=by omega
 have hd:0<d1:=by omega
 have hq:(top*B+next)/d1<B:=by
  refine Z57 ?_
  have:(top+1)*B<=d1*B:=Z3 _ ht
  rw [Z19,Z70] at this;omega
 refine ⟨?_,hq⟩
 have hm:=Nat.div_mul_le_self (top*B+next) d1
 generalize (top*B+next)/d1=q at *
 generalize top*B+next=U2 at *
 rcases Z39 q 2 with h|h
 ·exact Z11 (Z72 h) (Nat.le_add_left 2 _)
 obtain ⟨k,rfl⟩:∃k,q=k+2:=⟨q-2,by omega⟩
 have:k<=(U2*B+third)/(d1*B+d2):=by
  rw [Z74 (by have:=Z49 hd hB;omega)]
  have e1:k*(d1*B+d2)=k*d1*B+k*d2:=by rw [Z117,Z46]
  have e2:k*d2<=B*B:=Z118 (by omega) (by omega)
  have e3:B*B<=2*d1*B:=Z3 _ h1
  have e4:(k+2)*d1*B<=U2*B:=Z3 _ hm
  have e5:(k+2)*d1*B=k*d1*B+2*d1*B:=by rw [Z19,Z19]
  omega
 omega
theorem Quk {B d1 d2 U2 third q r:Nat} (he:q*d1+r=U2) (hd2:0<d1*B+d2) (hc:r*B+third<q*d2):(U2*B+third)/(d1*B+d2)<q:=by
 rw [Z85 hd2]
 have:=Qe8 B (y0:=d2) he
 omega
theorem Qs2 {B d1 d2 U2 third q r:Nat} (he:q*d1+r=U2) (hd2:0<d1*B+d2) (hg:(U2*B+third)/(d1*B+d2)<=q) (hc:q*d2<=r*B+third):q=(U2*B+third)/(d1*B+d2):=by
 refine Nat.le_antisymm ?_ hg
 rw [Z74 hd2]
 have:=Qe8 B (y0:=d2) he
 omega
end Go.Proofs.YtihfdjkjpncjfaaGreatDoor.A
end
section
namespace Go.Proofs.YtihfdjkjpncjfaaGreatDoor.A
open Go
theorem Qd9 (B:Nat) {l:J0} {i k:Nat} (h:i+k<=l.length):valB B (l.drop i)=valB B ((l.drop i).take k)+(B^k:Nat)*valB B (l.drop (i+k)):=by
 have h1:=Qfy B ((l.drop i).take k) ((l.drop i).drop k)
 rw [List.take_append_drop,Z104,Z8,Z35,Z53 (by omega)] at h1
 exact h1
theorem Qa1 (B:Nat) {l:J0} {k:Nat} (h:k<=l.length):valB B l=valB B (l.take k)+(B^k:Nat)*valB B (l.drop k):=by
 have:=Qd9 B (l:=l) (i:=0) (k:=k) (by omega)
 rwa [Z34,Z18] at this
theorem high {l:J0} {i n:Nat} (hn:2<=n) (hl:i+n<l.length) (hz:valB LB (l.drop (i+n+1))=0) :
  valB LB (l.drop i)=((l.getD (i+n) 0*18446744073709551616+l.getD (i+n-1) 0)*18446744073709551616+l.getD (i+n-2) 0)*(LB^(n-2):Nat)+valB LB ((l.drop i).take (n-2)):=by
 rw [Qd9 LB (l:=l) (i:=i) (k:=n-2) (by omega)]
 have e1:=Wf (B:=LB) l (i+n-2)
 have e2:=Wf (B:=LB) l (i+n-1)
 have e3:=Wf (B:=LB) l (i+n)
 rw [show i+n-2+1=i+n-1 by omega] at e1
 rw [show i+n-1+1=i+n by omega] at e2
 rw [hz] at e3
 rw [show i+(n-2)=i+n-2 by omega,e1,e2,e3]
 have e:((LB:Nat):Int)=18446744073709551616:=rfl
 rw [e]
 generalize ((LB^(n-2):Nat):Int)=p
 generalize l.getD (i+n) 0=x
 generalize l.getD (i+n-1) 0=y
 generalize l.getD (i+n-2) 0=z
 generalize valB LB ((l.drop i).take (n-2))=w
 grind
theorem Qlw {l:J0} {n:Nat} (hn:2<=n) (hl:l.length=n) :
  valB LB l=(l.getD (n-1) 0*18446744073709551616+l.getD (n-2) 0)*(LB^(n-2):Nat)+valB LB (l.take (n-2)):=by
 rw [Qa1 LB (l:=l) (k:=n-2) (by omega)]
 have e1:=Wf (B:=LB) l (n-2)
 have e2:=Wf (B:=LB) l (n-1)
 rw [show n-2+1=n-1 by omega] at e1
 rw [show n-1+1=n by omega,show List.drop n l=[] from Z26 (by omega)] at e2
 rw [e1,e2]
 have e:((LB:Nat):Int)=18446744073709551616:=rfl
 rw [e]
 show _=_
 have e0:valB LB []=0:=rfl
 rw [e0]
 generalize ((LB^(n-2):Nat):Int)=p
 generalize l.getD (n-1) 0=x
 generalize l.getD (n-2) 0=y
 generalize valB LB (l.take (n-2))=w
 grind
theorem Yr {x:Int} (h:0<=x):∃n:Nat,x=(n:Int):=⟨x.toNat,by omega⟩
theorem limb {l:J0} (h:inB LB l) (k:Nat):∃n:Nat,l.getD k 0=(n:Int)/\n<18446744073709551616:=by
 have hd:=Q8 (B:=LB) (by decide) h k
 obtain ⟨n,hn⟩:=Yr hd.1
 refine ⟨n,hn,?_⟩
 rw [hn] at hd
 exact_mod_cast hd.2
theorem Qj2 {l:J0} (h:inB LB l) {i n:Nat} (hl:i+n<=l.length) (hv:valB LB (l.drop i)<(LB^n:Nat)):valB LB (l.drop (i+n))=0:=by
 rw [Qd9 LB hl] at hv
 have h1:=Wd (Wh (Y3 h i) n)
 have h2:=Wd (Y3 h (i+n))
 rcases Int.lt_or_eq_of_le h2 with h3|h3
 ·exfalso
  have hp:(0:Int)<(LB^n:Nat):=by exact_mod_cast Z109 (by decide)
  have:=Int.mul_le_mul_of_nonneg_left (show (1:Int)<=valB LB (l.drop (i+n)) by omega) (Int.le_of_lt hp)
  rw [Int.mul_one] at this
  omega
 ·exact h3.symm
theorem Qxh {l:J0} (h:inB LB l) {k:Nat} (hv:valB LB (l.drop k)=0):l.getD k 0=0:=by
 rw [Wf] at hv
 have h1:=Q8 (B:=LB) (by decide) h k
 have h2:=Wd (Y3 h (k+1))
 have h3:=Z42 (Z55 LB) h2
 omega
noncomputable def Qbp {R:Type} (n:Nat) (d:J0) (rec:(Int×J0×J0)->Option R) (i:Int) (u q:J0) (k:Int):Option R:=
 ((z45.l0b3 (i).toNat (((wr .i64 ((wr .i64 (i+((n:Nat):Int)))+(1:Int)))).toNat-(i).toNat) k 0 n ((n:Nat):Int) d ((0:Int),(0:Int),(0:Int),u)).bind λo10=>(if (0:Int)<=((n:Nat):Int)/\((n:Nat):Int)<(((((wr .i64 ((wr .i64 (i+((n:Nat):Int)))+(1:Int)))).toNat-(i).toNat):Nat):Int) then (if ((i).toNat+(((n:Nat):Int)).toNat)<o10.2.2.2.length then ((z1.F (o10.2.2.2.getD ((i).toNat+(((n:Nat):Int)).toNat) 0) o10.1 o10.2.1).bind λr11=>(if (0:Int)<=((n:Nat):Int)/\((n:Nat):Int)<(((((wr .i64 ((wr .i64 (i+((n:Nat):Int)))+(1:Int)))).toNat-(i).toNat):Nat):Int) then (if ((i).toNat+(((n:Nat):Int)).toNat)<o10.2.2.2.length then ((z45.l2 0 n (i).toNat (((wr .i64 ((wr .i64 (i+((n:Nat):Int)))+(1:Int)))).toNat-(i).toNat) d (k,r11.2,(o10.2.2.2.set ((i).toNat+(((n:Nat):Int)).toNat) r11.1))).bind λo12=>(if (0:Int)<=i/\i<(q.length:Int) then (if (i).toNat<q.length then (rec ((wr .i64 (i-(1:Int))),o12.2.2,(q.set (i).toNat o12.1))) else none) else none)) else none) else none)) else none) else none))
noncomputable def Qf7 {R:Type} (n:Nat) (d:J0) (K:Int->Option R) (L:Int->Int->Option R) (k r:Int):Option R:=
 (if (0:Int)<=(wr .i64 (((n:Nat):Int)-(1:Int)))/\(wr .i64 (((n:Nat):Int)-(1:Int)))<((n:Nat):Int) then (if (0+((wr .i64 (((n:Nat):Int)-(1:Int)))).toNat)<d.length then ((z0.F r (d.getD (0+((wr .i64 (((n:Nat):Int)-(1:Int)))).toNat) 0) (0:Int)).bind λa=>(bif (decide (a.2=(0:Int))) then L (wr .u64 (k-(1:Int))) a.1 else K (wr .u64 (k-(1:Int))))) else none) else none)
noncomputable def Y6 {R:Type} (n:Nat) (d:J0) (third:Int) (K:Int->Option R) (L:Int->Int->Option R) (k r:Int):Option R:=
 (if (0:Int)<=(wr .i64 (((n:Nat):Int)-(2:Int)))/\(wr .i64 (((n:Nat):Int)-(2:Int)))<((n:Nat):Int) then (if (0+((wr .i64 (((n:Nat):Int)-(2:Int)))).toNat)<d.length then ((z44.F k (d.getD (0+((wr .i64 (((n:Nat):Int)-(2:Int)))).toNat) 0)).bind λa=>(bif (decide (a.1<r)) then K k else (bif (decide (a.1=r)) then (bif (decide (a.2<=third)) then K k else Qf7 n d K L k r) else Qf7 n d K L k r))) else none) else none)
theorem Qkw {R:Type} (n:Nat) (d:J0) (rec done:(Int×J0×J0)->Option R) (i:Int) (u q:J0):z45.l0aaP 0 n d rec done (i,u,q) =
 (bif (decide (i>=(0:Int))) then (if (0:Int)<=i/\i<=(wr .i64 ((wr .i64 (i+((n:Nat):Int)))+(1:Int)))/\(wr .i64 ((wr .i64 (i+((n:Nat):Int)))+(1:Int)))<=((u).length:Int) then (if (0:Int)<=((n:Nat):Int)/\((n:Nat):Int)<(((((wr .i64 ((wr .i64 (i+((n:Nat):Int)))+(1:Int)))).toNat-(i).toNat):Nat):Int) then (if ((i).toNat+(((n:Nat):Int)).toNat)<u.length then (if (0:Int)<=(wr .i64 (((n:Nat):Int)-(1:Int)))/\(wr .i64 (((n:Nat):Int)-(1:Int)))<(((((wr .i64 ((wr .i64 (i+((n:Nat):Int)))+(1:Int)))).toNat-(i).toNat):Nat):Int) then (if ((i).toNat+((wr .i64 (((n:Nat):Int)-(1:Int)))).toNat)<u.length then (if (0:Int)<=(wr .i64 (((n:Nat):Int)-(2:Int)))/\(wr .i64 (((n:Nat):Int)-(2:Int)))<(((((wr .i64 ((wr .i64 (i+((n:Nat):Int)))+(1:Int)))).toNat-(i).toNat):Nat):Int) then (if ((i).toNat+((wr .i64 (((n:Nat):Int)-(2:Int)))).toNat)<u.length then (if (0:Int)<=(wr .i64 (((n:Nat):Int)-(1:Int)))/\(wr .i64 (((n:Nat):Int)-(1:Int)))<((n:Nat):Int) then (if (0+((wr .i64 (((n:Nat):Int)-(1:Int)))).toNat)<d.length then (bif (decide ((u.getD ((i).toNat+(((n:Nat):Int)).toNat) 0)>=(d.getD (0+((wr .i64 (((n:Nat):Int)-(1:Int)))).toNat) 0))) then (Qbp n d rec i u q (18446744073709551615:Int)) else (if (0:Int)<=(wr .i64 (((n:Nat):Int)-(1:Int)))/\(wr .i64 (((n:Nat):Int)-(1:Int)))<((n:Nat):Int) then (if (0+((wr .i64 (((n:Nat):Int)-(1:Int)))).toNat)<d.length then ((z40.F (u.getD ((i).toNat+(((n:Nat):Int)).toNat) 0) (u.getD ((i).toNat+((wr .i64 (((n:Nat):Int)-(1:Int)))).toNat) 0) (d.getD (0+((wr .i64 (((n:Nat):Int)-(1:Int)))).toNat) 0)).bind λa=>Y6 n d (u.getD ((i).toNat+((wr .i64 (((n:Nat):Int)-(2:Int)))).toNat) 0) (Qbp n d rec i u q) (Y6 n d (u.getD ((i).toNat+((wr .i64 (((n:Nat):Int)-(2:Int)))).toNat) 0) (Qbp n d rec i u q) (Y6 n d (u.getD ((i).toNat+((wr .i64 (((n:Nat):Int)-(2:Int)))).toNat) 0) (Qbp n d rec i u q) (λ_ _=>none))) a.1 a.2) else none) else none)) else none) else none) else none) else none) else none) else none) else none) else none) else none) else (done (i,u,q))):=rfl
theorem Qfi {s:J0} {i j:Nat} {x:Int} (h:j<=i):(s.set i x).take j=s.take j:=by
 apply List.ext_getElem?
 intro k
 by_cases hk:k<j
 ·rw [List.getElem?_take_of_lt hk,List.getElem?_take_of_lt hk,Z102 (by omega)]
 ·rw [Z17 (by rw [Z8];omega),Z17 (by rw [Z8];omega)]
theorem Qfd {s:J0} {i j:Nat} {x:Int} (h:i<j):(s.set i x).drop j=s.drop j:=by
 apply List.ext_getElem?
 intro k
 rw [List.getElem?_drop,List.getElem?_drop,Z102 (by omega)]
theorem Qai {s:J0} {n j:Nat} (h:j<n):(s.take n).getD j 0=s.getD j 0:=by
 simp [List.getD,List.getElem?_take_of_lt h]
theorem Qpr {d:J0} {off m n:Nat} {k:Int} (hk:0<=k/\k<18446744073709551616) (hd:inB LB d) (hn:n<=d.length) (hm:n<=m) (hN:n<=900000000) :
  ∀
   (f j:Nat) (c b:Int) (s:J0),j+f=n->inB LB s->off+n<=s.length->0<=c/\c<18446744073709551616->0<=b/\b<=1 ->
   ∃
    c' b' s',Runs (λrec x=>z45.l0b3P off m k 0 n (n:Int) d rec some x) (c,b,(j:Int),s) (c',b',(n:Int),s')/\inB LB s'/\s'.length=s.length/\(0<=c'/\c'<18446744073709551616)/\(0<=b'/\b'<=1) /\
    s'.take off=s.take off/\s'.drop (off+n)=s.drop (off+n) /\
    valB LB s'=valB LB s-(k*valB LB ((d.take n).drop j)+c+b)*(LB^(off+j):Nat)+(c'+b')*(LB^(off+n):Nat)
 |
  0,j,c,b,s,hf,hs,hl,hc,hb=>by
  have:j=n:=by omega
  subst this
  refine ⟨c,b,s,.done λrec=>?_,hs,rfl,hc,hb,rfl,rfl,?_⟩
  ·unfold z45.l0b3P
   simp only
   rw [Qb (by omega)]
  ·rw [Z26 (by rw [Z8];omega),show valB LB []=0 from rfl]
   generalize ((LB^(off+j):Nat):Int)=p
   grind
 |
  f+1,j,c,b,s,hf,hs,hl,hc,hb=>by
  have hj:j<d.length:=by omega
  have hjs:off+j<s.length:=by omega
  have h1:0<=d.getD j 0/\d.getD j 0<18446744073709551616:=Q8 (B:=LB) (by decide) hd j
  have h2:0<=s.getD (off+j) 0/\s.getD (off+j) 0<18446744073709551616:=Q8 (B:=LB) (by decide) hs (off+j)
  have hp:0<=d.getD j 0*k/\d.getD j 0*k<=18446744073709551615*18446744073709551615:=⟨Z42 h1.1 hk.1,Z105 (by omega) (by omega) hk.1 (by decide)⟩
  have hg:(d.take n).getD j 0=d.getD j 0:=Qai (by omega)
  obtain ⟨x,hx⟩:∃x,d.getD j 0*k+c=x:=⟨_,rfl⟩
  obtain ⟨low,hlow⟩:∃y,x%18446744073709551616=y:=⟨_,rfl⟩
  obtain ⟨hi,hhi⟩:∃y,x/18446744073709551616=y:=⟨_,rfl⟩
  have hxx:x=18446744073709551616*hi+low:=by rw [<-hlow,<-hhi];exact (Z83 x _).symm
  have hb1:0<=low/\low<18446744073709551616/\0<=hi/\hi<18446744073709551616:=by omega
  obtain ⟨b1,hb1'⟩:∃y:Int,(if s.getD (off+j) 0<low+b then (1:Int) else 0)=y:=⟨_,rfl⟩
  obtain ⟨z,hz⟩:∃y:Int,(s.getD (off+j) 0-low-b)%18446744073709551616=y:=⟨_,rfl⟩
  have hzz:z=s.getD (off+j) 0-low-b+b1*18446744073709551616:=by
   rw [<-hz,<-hb1'];split<;>omega
  have hbb:0<=b1/\b1<=1:=by rw [<-hb1'];split<;>omega
  have hzb:0<=z/\z<18446744073709551616:=by omega
  have hsub:z1.F (s.getD (off+j) 0) low b=some (z,b1):=by
   unfold z1.F;rw [if_pos (by omega),hz,hb1']
  obtain ⟨c',b',s',r1,r2,r3,r4,r5,r6,r7,r8⟩:=Qpr (off:=off) hk hd hn hm hN f (j+1) hi b1 (s.set (off+j) z) (by omega) (Yc hs hzb) (by rw [Z21];exact hl) ⟨hb1.2.2.1,hb1.2.2.2⟩ hbb
  refine ⟨c',b',s',.step (λrec=>?_) r1,r2,by rw [r3,Z21],r4,r5,by rw [r6,Qfi (by omega)],by rw [r7,Qfd (by omega)],?_⟩
  ·unfold z45.l0b3P
   simp only
   rw [bif_t (by omega),if_pos (by omega),Zi,Z18,if_pos hj,Qhe h1 hk]
   simp only [Zb]
   rw [Qcl (by omega) hc.1 (by omega),Z114]
   simp only [Zb]
   have e1:(d.getD j 0*k%18446744073709551616+c)%18446744073709551616=low:=by rw [<-hlow,<-hx,Int.emod_add_emod]
   have e2:d.getD j 0*k/18446744073709551616+(d.getD j 0*k%18446744073709551616+c)/18446744073709551616=hi:=by
    rw [<-hhi,<-hx]
    generalize d.getD j 0*k=y
    omega
   rw [e1,if_pos (by omega),if_pos hjs,hsub]
   simp only [Zb]
   rw [if_pos (by omega),if_pos hjs,e2,Qo (n:=hi) (by omega) (by omega),Qc (by omega) (by omega)]
   rfl
  ·rw [r8,Yh hjs,Wf (d.take n) j,hg,hzz]
   have e1:((LB^(off+(j+1)):Nat):Int)=18446744073709551616*(LB^(off+j):Nat):=by
    rw [<-Z36,Z44,Z24,Z14];rfl
   have e3:((LB:Nat):Int)=18446744073709551616:=rfl
   rw [e1,e3]
   have hx':d.getD j 0*k=18446744073709551616*hi+low-c:=by omega
   generalize ((LB^(off+j):Nat):Int)=p at *
   generalize ((LB^(off+n):Nat):Int)=p' at *
   generalize valB LB ((d.take n).drop (j+1))=w at *
   generalize valB LB s=V at *
   generalize s.getD (off+j) 0=y at *
   generalize d.getD j 0=e at *
   clear r1 r2 r3 r4 r5 r6 r7 r8
   grind
theorem Ql8 {d:J0} {off m n:Nat} (hd:inB LB d) (hn:n<=d.length) (hm:n<=m) (hN:n<=900000000) :
  ∀
   (f j:Nat) (c:Int) (s:J0),j+f=n->inB LB s->off+n<=s.length->0<=c/\c<=1 ->
   ∃
    c' s',Runs (λrec x=>z45.l0b4P off m 0 n (n:Int) d rec some x) (c,(j:Int),s) (c',(n:Int),s')/\inB LB s'/\s'.length=s.length/\(0<=c'/\c'<=1) /\
    s'.take off=s.take off/\s'.drop (off+n)=s.drop (off+n) /\
    valB LB s'=valB LB s+(valB LB ((d.take n).drop j)+c)*(LB^(off+j):Nat)-c'*(LB^(off+n):Nat)
 |
  0,j,c,s,hf,hs,hl,hc=>by
  have:j=n:=by omega
  subst this
  refine ⟨c,s,.done λrec=>?_,hs,rfl,hc,rfl,rfl,?_⟩
  ·unfold z45.l0b4P
   simp only
   rw [Qb (by omega)]
  ·rw [Z26 (by rw [Z8];omega),show valB LB []=0 from rfl]
   generalize ((LB^(off+j):Nat):Int)=p
   grind
 |
  f+1,j,c,s,hf,hs,hl,hc=>by
  have hj:j<d.length:=by omega
  have hjs:off+j<s.length:=by omega
  have h1:0<=d.getD j 0/\d.getD j 0<18446744073709551616:=Q8 (B:=LB) (by decide) hd j
  have h2:0<=s.getD (off+j) 0/\s.getD (off+j) 0<18446744073709551616:=Q8 (B:=LB) (by decide) hs (off+j)
  have hg:(d.take n).getD j 0=d.getD j 0:=Qai (by omega)
  obtain ⟨x,hx⟩:∃x,s.getD (off+j) 0+d.getD j 0+c=x:=⟨_,rfl⟩
  obtain ⟨low,hlow⟩:∃y,x%18446744073709551616=y:=⟨_,rfl⟩
  obtain ⟨hi,hhi⟩:∃y,x/18446744073709551616=y:=⟨_,rfl⟩
  have hxx:x=18446744073709551616*hi+low:=by rw [<-hlow,<-hhi];exact (Z83 x _).symm
  have hb1:0<=low/\low<18446744073709551616/\0<=hi/\hi<=1:=by omega
  obtain ⟨c',s',r1,r2,r3,r4,r6,r7,r8⟩:=Ql8 (off:=off) hd hn hm hN f (j+1) hi (s.set (off+j) low) (by omega) (Yc hs ⟨hb1.1,hb1.2.1⟩) (by rw [Z21];exact hl) ⟨hb1.2.2.1,hb1.2.2.2⟩
  refine ⟨c',s',.step (λrec=>?_) r1,r2,by rw [r3,Z21],r4,by rw [r6,Qfi (by omega)],by rw [r7,Qfd (by omega)],?_⟩
  ·unfold z45.l0b4P
   simp only
   rw [bif_t (by omega),if_pos (by omega),Zi,Z18,if_pos hj,if_pos (by omega),if_pos hjs,Qcl h2.1 h1.1 hc,hx,hlow,hhi]
   simp only [Zb]
   rw [if_pos (by omega),if_pos hjs,Qc (by omega) (by omega)]
   rfl
  ·rw [r8,Yh hjs,Wf (d.take n) j,hg]
   have e1:((LB^(off+(j+1)):Nat):Int)=18446744073709551616*(LB^(off+j):Nat):=by
    rw [<-Z36,Z44,Z24,Z14];rfl
   have e3:((LB:Nat):Int)=18446744073709551616:=rfl
   rw [e1,e3]
   have hx':low=s.getD (off+j) 0+d.getD j 0+c-18446744073709551616*hi:=by omega
   generalize ((LB^(off+j):Nat):Int)=p at *
   generalize ((LB^(off+n):Nat):Int)=p' at *
   generalize valB LB ((d.take n).drop (j+1))=w at *
   generalize valB LB s=V at *
   generalize s.getD (off+j) 0=y at *
   generalize d.getD j 0=e at *
   clear r1 r2 r3 r4 r6 r7 r8
   subst hx'
   grind
theorem Qdb (a b:Nat):((LB^(a+b):Nat):Int)=(LB^a:Nat)*(LB^b:Nat):=by
 rw [Z101,Z14]
theorem Qjk (a:Nat):(0:Int)<(LB^a:Nat):=by exact_mod_cast Z109 (by decide)
theorem Qld {s s':J0} {i:Nat} (hi:i<=s.length) (hi':i<=s'.length) (ht:s'.take i=s.take i) {v:Int} (hv:valB LB s'=valB LB s+v*(LB^i:Nat)):valB LB (s'.drop i)=valB LB (s.drop i)+v:=by
 rw [Qa1 LB hi,Qa1 LB hi',ht] at hv
 have hp:=Qjk i
 generalize ((LB^i:Nat):Int)=p at *
 generalize valB LB (s.take i)=w at *
 have:p*valB LB (s'.drop i)=p*(valB LB (s.drop i)+v):=by rw [Int.mul_add,Z87 p v];omega
 exact Int.eq_of_mul_eq_mul_left (Int.ne_of_gt hp) this
section
variable {n i:Nat} {d:J0} {U D:Nat} (hn:2<=n) (hdl:n<=d.length) (hd:inB LB d) (hN:n<=800000000) (hD:(D:Int)=valB LB (d.take n)) (hD0:0<D)
include hn hdl hd hN hD hD0
omit hn hN hD0 in
theorem D_lt:(D:Int)<(LB^n:Nat):=by
 rw [hD]
 have:=W8 bL (Wh hd n)
 rwa [Z8,Z53 hdl] at this
theorem Qwd {u:J0} (hu:inB LB u) (hiu:i+n<u.length) (hz:valB LB (u.drop (i+n+1))=0) (hlen:u.length<=900000000)
  (hU:(U:Int)=valB LB (u.drop i)) {k:Nat} (hk1:U/D<=k) (hk2:k<=U/D+1) (hkB:k<18446744073709551616) :
  ∃u',(∀{R:Type} (q:J0) (rec:(Int×J0×J0)->Option R),i<q.length->Qbp n d rec i u q k=rec ((i:Int)-1,u',q.set i ((U/D:Nat):Int)))/\inB LB u'/\u'.length=u.length/\u'.take i=u.take i/\valB LB (u'.drop i)=((U%D:Nat):Int):=by
 have e1:wr .i64 (wr .i64 ((i:Int)+(n:Int))+1)=((i+n+1:Nat):Int):=by
  rw [Qc (n:=(i:Int)+n) (by omega) (by omega),Qc (by omega) (by omega)];omega
 have e2:i+n+1-i=n+1:=by omega
 have hin:i+n<u.length:=hiu
 have hDlt:=D_lt hdl hd hD
 have hdm:=Z65 U D
 have hml:=Z79 U hD0
 obtain ⟨Q,hQ⟩:∃Q,U/D=Q:=⟨_,rfl⟩
 obtain ⟨r,hr⟩:∃r,U%D=r:=⟨_,rfl⟩
 rw [hQ] at hk1 hk2 hdm ⊢
 rw [hr] at hdm hml ⊢
 have hUD:(U:Int)=D*Q+r:=by exact_mod_cast hdm.symm
 obtain ⟨c1,b1,s1,r1,r2,r3,r4,r5,r6,r7,r8⟩:=Qpr (off:=i) (m:=n+1) (k:=(k:Int)) ⟨by omega,by omega⟩ hd hdl (by omega) (by omega) n 0 0 0 u (by omega) hu (by omega) (by omega) (by omega)
 have hl1:i+n<s1.length:=by omega
 have er1:z45.l0b3 i (n+1) (k:Int) 0 n (n:Int) d ((0:Int),(0:Int),(0:Int),u)=some (c1,b1,(n:Int),s1):=r1.lfp
 have hx1:0<=s1.getD (i+n) 0/\s1.getD (i+n) 0<18446744073709551616:=Q8 (B:=LB) (by decide) r2 (i+n)
 obtain ⟨b2,hb2⟩:∃y:Int,(if s1.getD (i+n) 0<c1+b1 then (1:Int) else 0)=y:=⟨_,rfl⟩
 obtain ⟨z,hz2⟩:∃y:Int,(s1.getD (i+n) 0-c1-b1)%18446744073709551616=y:=⟨_,rfl⟩
 have hzz:z=s1.getD (i+n) 0-c1-b1+b2*18446744073709551616:=by
  rw [<-hz2,<-hb2];split<;>omega
 have hbb:b2=0\/b2=1:=by rw [<-hb2];split<;>omega
 have hzb:0<=z/\z<18446744073709551616:=by omega
 have hsub:z1.F (s1.getD (i+n) 0) c1 b1=some (z,b2):=by
  unfold z1.F;rw [if_pos (by omega),hz2,hb2]
 obtain ⟨s2,hs2⟩:∃s2,s1.set (i+n) z=s2:=⟨_,rfl⟩
 have g2:inB LB s2:=hs2▸Yc r2 hzb
 have gl2:s2.length=u.length:=by rw [<-hs2,Z21,r3]
 have gt2:s2.take i=u.take i:=by rw [<-hs2,Qfi (by omega),r6]
 have gd2:valB LB (s2.drop (i+n+1))=0:=by
  rw [<-hs2,Qfd (by omega),<-Z104,r7,Z104];exact hz
 have P1:((LB^(i+n+1):Nat):Int)=(LB^(i+n):Nat)*18446744073709551616:=Qdb (i+n) 1
 have gv2:valB LB s2=valB LB u+(-(k:Int)*D+b2*(LB^(n+1):Nat))*(LB^i:Nat):=by
  rw [<-hs2,Yh hl1,r8,hzz,Z34,<-hD]
  have e3:=Qdb i n
  have e4:=Qdb n 1
  have e5:((LB^1:Nat):Int)=18446744073709551616:=rfl
  rw [e5] at e4
  rw [Z77,e3,e4]
  generalize ((LB^i:Nat):Int)=p
  generalize ((LB^n:Nat):Int)=p'
  grind
 have hv2:valB LB (s2.drop i)=(U:Int)-k*D+b2*(LB^(n+1):Nat):=by
  rw [Qld (by omega) (by omega) gt2 gv2,<-hU]
  generalize b2*((LB^(n+1):Nat):Int)=y
  rw [Int.neg_mul];omega
 have hlt2:valB LB (s2.drop i)<(LB^(n+1):Nat):=by
  rw [Qd9 LB (l:=s2) (i:=i) (k:=n+1) (by omega),show i+(n+1)=i+n+1 by omega,gd2,Int.mul_zero,Z114]
  have:=W8 bL (Wh (Y3 g2 i) (n+1))
  rwa [Z8,Z35,Z53 (by omega)] at this
 have hge2:=Wd (Y3 g2 i)
 have key:∃u',z45.l2 0 n i (n+1) d ((k:Int),b2,s2)=some ((Q:Int),(0:Int),u')/\inB LB u'/\u'.length=u.length/\u'.take i=u.take i/\valB LB (u'.drop i)=(r:Int):=by
  have stop:∀(k':Int) (s:J0),z45.l2 0 n i (n+1) d (k',(0:Int),s)=some (k',(0:Int),s):=λk' s=>
   (Runs.done (F:=λrec x=>z45.l2P 0 n i (n+1) d rec some x) λrec=>by unfold z45.l2P;simp only [decide_true,Zn,Zc]).lfp
  rcases hbb with hb0|hb0
  ·
   subst hb0
   rw [Int.zero_mul,Z114] at hv2
   have hkQ:k=Q:=by
    have h1:k*D<=U:=by
     have:(k:Int)*D<=U:=by omega
     exact_mod_cast this
    have h2:=(Z74 hD0).2 h1
    rw [hQ] at h2;omega
   subst hkQ
   exact ⟨s2,stop _ _,g2,gl2,gt2,by rw [hv2,hUD,Z87];omega⟩
  ·subst hb0
   rw [Int.one_mul] at hv2
   have hkQ:k=Q+1:=by
    have h1:¬k*D<=U:=by
     intro h
     have:((k*D:Nat):Int)<=U:=Int.ofNat_le.2 h
     rw [Z14] at this
     omega
    have h2:¬k<=Q:=λh=>h1 (by rw [<-hQ] at h;exact (Z74 hD0).1 h)
    omega
   obtain ⟨c3,s3,q1,q2,q3,q4,q5,q6,q7⟩:=Ql8 (off:=i) (m:=n+1) hd hdl (by omega) (by omega) n 0 0 s2 (by omega) g2 (by omega) (by omega)
   have er3:z45.l0b4 i (n+1) 0 n (n:Int) d ((0:Int),(0:Int),s2)=some (c3,(n:Int),s3):=q1.lfp
   have hl3:i+n<s3.length:=by omega
   have hx3:0<=s3.getD (i+n) 0/\s3.getD (i+n) 0<18446744073709551616:=Q8 (B:=LB) (by decide) q2 (i+n)
   obtain ⟨e,he⟩:∃y:Int,(s3.getD (i+n) 0+c3)/18446744073709551616=y:=⟨_,rfl⟩
   obtain ⟨y,hy⟩:∃y:Int,wr .u64 (s3.getD (i+n) 0+c3)=y:=⟨_,rfl⟩
   have hyy:y=s3.getD (i+n) 0+c3-18446744073709551616*e:=by
    rw [<-hy,Wv,<-he]
    have:=Z83 (s3.getD (i+n) 0+c3) 18446744073709551616
    omega
   have hyb:0<=y/\y<18446744073709551616:=by
    rw [<-hy,Wv];omega
   obtain ⟨s4,hs4⟩:∃s4,s3.set (i+n) y=s4:=⟨_,rfl⟩
   have g4:inB LB s4:=hs4▸Yc q2 hyb
   have gl4:s4.length=u.length:=by rw [<-hs4,Z21,q3,gl2]
   have gt4:s4.take i=s2.take i:=by rw [<-hs4,Qfi (by omega),q5]
   have gd4:valB LB (s4.drop (i+n+1))=0:=by
    rw [<-hs4,Qfd (by omega),<-Z104,q6,Z104];exact gd2
   have gv4:valB LB s4=valB LB s2+((D:Int)-e*(LB^(n+1):Nat))*(LB^i:Nat):=by
    rw [<-hs4,Yh hl3,q7,hyy,Z34,<-hD]
    have e3:=Qdb i n
    have e4:=Qdb n 1
    have e5:((LB^1:Nat):Int)=18446744073709551616:=rfl
    rw [e5] at e4
    rw [Z77,e3,e4]
    generalize ((LB^i:Nat):Int)=p
    generalize ((LB^n:Nat):Int)=p'
    grind
   have hv4:=Qld (by omega) (by omega) gt4 gv4
   rw [hv2] at hv4
   have hlt4:valB LB (s4.drop i)<(LB^(n+1):Nat):=by
    rw [Qd9 LB (l:=s4) (i:=i) (k:=n+1) (by omega),show i+(n+1)=i+n+1 by omega,gd4,Int.mul_zero,Z114]
    have:=W8 bL (Wh (Y3 g4 i) (n+1))
    rwa [Z8,Z35,Z53 (by omega)] at this
   have hge4:=Wd (Y3 g4 i)
   have hkD:(k:Int)*D=D*Q+D:=by rw [hkQ,Z40,Int.add_mul,Z87];simp
   have hPn:=Qjk (n+1)
   have hval:valB LB (s4.drop i)=(r:Int)+((LB^(n+1):Nat):Int)-e*(LB^(n+1):Nat):=by
    generalize e*((LB^(n+1):Nat):Int)=w at *
    omega
   have heb:e=0\/e=1:=by omega
   have he1:e=1:=by
    rcases heb with h|h
    ·subst h;rw [Int.zero_mul] at hval;omega
    ·exact h
   subst he1
   rw [Int.one_mul] at hval
   have hval':valB LB (s4.drop i)=(r:Int):=by omega
   have htop:s4.getD (i+n) 0=0:=Qxh g4 (Qj2 g4 (by omega) (by rw [hval'];omega))
   refine ⟨s4,?_,g4,gl4,by rw [gt4,gt2],hval'⟩
   refine (Runs.step (F:=λrec x=>z45.l2P 0 n i (n+1) d rec some x) (y:=((Q:Int),(0:Int),s4)) (λrec=>?_) (.done λrec=>?_)).lfp
   ·unfold z45.l2P
    simp only
    rw [show (!decide ((1:Int)=0))=true from rfl,er3]
    simp only [Zb,Zd,Zi]
    have hcond:(s3.set (i+n) (wr .u64 (s3.getD (i+n) 0+c3))).getD (i+n) 0=0:=by rw [hy,hs4];exact htop
    rw [if_pos (by omega),if_pos hl3,if_pos (by omega),if_pos hl3,if_pos (by omega),if_pos (by rw [Z21];exact hl3),bif_t hcond,hy,hs4,Qo (n:=(k:Int)-1) (by omega) (by omega)]
    congr 2;omega
   ·unfold z45.l2P
    simp only [decide_true,Zn,Zc]
 obtain ⟨u',k1,k2,k3,k4,k5⟩:=key
 refine ⟨u',λ{R} q rec hiq=>?_,k2,k3,k4,k5⟩
 unfold Qbp
 rw [e1]
 simp only [Zi]
 rw [e2,er1]
 simp only [Zb]
 rw [if_pos (by omega),if_pos hl1,hsub]
 simp only [Zb]
 rw [if_pos (by omega),if_pos hl1,hs2,k1]
 simp only [Zb]
 rw [if_pos (by omega),if_pos hiq,Qc (by omega) (by omega)]
end
theorem Qil {R:Type} {n:Nat} {d:J0} (hn:2<=n) (hdl:n<=d.length) (hN:n<=800000000) {d1 d2 third k r:Nat} (e1:d.getD (n-1) 0=(d1:Int)) (e2:d.getD (n-2) 0=(d2:Int)) (h1:d1<18446744073709551616) (h2:d2<18446744073709551616) (ht:third<18446744073709551616)
  (hk:k<18446744073709551616) (hr:r<18446744073709551616) (K:Int->Option R) (L:Int->Int->Option R) :
  Y6 n d third K L k r=if k*d2<=r*18446744073709551616+third then K k else if r+d1<18446744073709551616 then L ((k-1:Nat):Int) ((r+d1:Nat):Int) else K ((k-1:Nat):Int):=by
 have w1:wr .i64 ((n:Int)-1)=((n-1:Nat):Int):=by rw [Qc (by omega) (by omega)];omega
 have w2:wr .i64 ((n:Int)-2)=((n-2:Nat):Int):=by rw [Qc (by omega) (by omega)];omega
 have hmul:=Qhe (a:=(k:Int)) (b:=(d2:Int)) ⟨by omega,by omega⟩ ⟨by omega,by omega⟩
 have hnext:∀(k r:Nat),0<k->k<18446744073709551616->r<18446744073709551616->Qf7 n d K L k r=if r+d1<18446744073709551616 then L ((k-1:Nat):Int) ((r+d1:Nat):Int) else K ((k-1:Nat):Int):=λk r h0 hk hr=>by
  unfold Qf7
  rw [w1,if_pos (by omega),Zi,Z18,if_pos (by omega),e1,Qcl (by omega) (by omega) (by omega),Z114]
  simp only [Zb]
  have ew:wr .u64 ((k:Int)-1)=((k-1:Nat):Int):=by rw [Qo (by omega) (by omega)];omega
  rw [ew]
  by_cases h:r+d1<18446744073709551616
  ·rw [if_pos h,bif_t (by omega)]
   congr 1;omega
  ·rw [if_neg h,Qb (by omega)]
 unfold Y6
 rw [w2,if_pos (by omega),Zi,Z18,if_pos (by omega),e2,hmul]
 simp only [Zb]
 have hp:(k:Int)*d2=((k*d2:Nat):Int):=(Z14 _ _).symm
 rw [hp]
 obtain ⟨p,hpp⟩:∃p,k*d2=p:=⟨_,rfl⟩
 rw [hpp]
 by_cases hc:p<=r*18446744073709551616+third
 ·rw [if_pos hc]
  by_cases ha:(p:Int)/18446744073709551616<r
  ·rw [bif_t ha]
  ·rw [Qb ha,bif_t (by omega),bif_t (by omega)]
 ·rw [if_neg hc]
  have h0:0<k:=by
   rcases Z12 k with h|h
   ·subst h;rw [Nat.zero_mul] at hpp;omega
   ·exact h
  rw [Qb (by omega),hnext k r h0 hk hr]
  by_cases ha:(p:Int)/18446744073709551616=r
  ·rw [bif_t ha,Qb (by omega)]
  ·rw [Qb ha]
theorem Qtw {R:Type} {n:Nat} {d:J0} (hn:2<=n) (hdl:n<=d.length) (hN:n<=800000000) {d1 d2 third U2 q0 r0 Q:Nat} (e1:d.getD (n-1) 0=(d1:Int)) (e2:d.getD (n-2) 0=(d2:Int)) (h1:d1<18446744073709551616) (h2:d2<18446744073709551616)
  (ht:third<18446744073709551616) (hDp:0<d1*18446744073709551616+d2) (hdm:q0*d1+r0=U2) (hml:r0<d1) (g1:q0<=Q+2) (g2:q0<18446744073709551616) (hge:Q<=q0) (hQ:(U2*18446744073709551616+third)/(d1*18446744073709551616+d2)=Q) (K:Int->Option R) (L:Int->Int->Option R) :
  Y6 n d third K (Y6 n d third K (Y6 n d third K L)) (q0:Int) (r0:Int)=K (Q:Int):=by
 have fin:∀{q r:Nat},q*d1+r=U2->Q<=q->q*d2<=r*18446744073709551616+third->q=Q:=λ{q r} a b c=>by
  rw [<-hQ];exact Qs2 a hDp (by rw [hQ];exact b) c
 have more:∀{q r:Nat},q*d1+r=U2->¬q*d2<=r*18446744073709551616+third->Q<q:=λ{q r} a c=>by
  rw [<-hQ];exact Quk a hDp (by omega)
 have next1:∀{q r:Nat},q*d1+r=U2->Q<q->(q-1)*d1+(r+d1)=U2:=λ{q r} a c=>by
  obtain ⟨k,rfl⟩:∃k,q=k+1:=⟨q-1,by omega⟩
  rw [Z19,Z70] at a
  simp only [Nat.add_sub_cancel]
  omega
 have over:∀{q r:Nat},q*d1+r=U2->Q<=q->q<18446744073709551616->18446744073709551616<=r->q=Q:=λ{q r} a b c e=>by
  refine fin a b ?_
  have m1:q*d2<=18446744073709551615*18446744073709551615:=Z118 (by omega) (by omega)
  have m2:18446744073709551616*18446744073709551616<=r*18446744073709551616:=Z3 _ e
  omega
 rw [Qil hn hdl hN e1 e2 h1 h2 ht g2 (by omega)]
 by_cases c1:q0*d2<=r0*18446744073709551616+third
 ·rw [if_pos c1,fin hdm hge c1]
 rw [if_neg c1]
 have m1:=more hdm c1
 have n1:=next1 hdm m1
 rcases Z39 (r0+d1) 18446744073709551616 with o1|o1
 ·rw [if_pos o1,Qil hn hdl hN e1 e2 h1 h2 ht (by omega) o1]
  by_cases c2:(q0-1)*d2<=(r0+d1)*18446744073709551616+third
  ·rw [if_pos c2,fin n1 (by omega) c2]
  ·rw [if_neg c2]
   have m2:=more n1 c2
   have n2:=next1 n1 m2
   rcases Z39 (r0+d1+d1) 18446744073709551616 with o2|o2
   ·rw [if_pos o2,Qil hn hdl hN e1 e2 h1 h2 ht (by omega) o2]
    by_cases c3:(q0-1-1)*d2<=(r0+d1+d1)*18446744073709551616+third
    ·rw [if_pos c3,fin n2 (by omega) c3]
    ·have m3:=more n2 c3
     omega
   ·rw [if_neg (by omega),over n2 (by omega) (by omega) o2]
 ·rw [if_neg (by omega),over n1 (by omega) (by omega) o1]
theorem Qxv {R:Type} {n:Nat} {d:J0} (hn:2<=n) (hdl:n<=d.length) (hN:n<=800000000) {d1 d2 top next third:Nat} (e1:d.getD (n-1) 0=(d1:Int)) (e2:d.getD (n-2) 0=(d2:Int)) (h1:d1<18446744073709551616) (hd1:18446744073709551616<=2*d1) (h2:d2<18446744073709551616)
  (hnx:next<18446744073709551616) (ht:third<18446744073709551616) (htop:top<d1) (K:Int->Option R) (L:Int->Int->Option R) :
  Y6 n d third K (Y6 n d third K (Y6 n d third K L)) (((top*18446744073709551616+next)/d1:Nat):Int) (((top*18446744073709551616+next)%d1:Nat):Int) =
   K (((((top*18446744073709551616+next)*18446744073709551616+third)/(d1*18446744073709551616+d2):Nat)):Int):=by
 obtain ⟨g1,g2⟩:=Qy7 (B:=18446744073709551616) (third:=third) hd1 h2 htop hnx
 exact Qtw hn hdl hN e1 e2 h1 h2 ht (by omega) (by rw [Z24];exact Z65 _ _) (Z79 _ (by omega)) g1 g2 (Qmj (U3:=top*18446744073709551616+next) (D2:=d1) (P:=18446744073709551616) ht h2 (by omega)) rfl K L
section
variable {n:Nat} {d:J0} {D:Nat} (hn:2<=n) (hdl:n<=d.length) (hd:inB LB d) (hN:n<=800000000) (hD:(D:Int)=valB LB (d.take n)) (hD1:18446744073709551616<=2*d.getD (n-1) 0)
include hn hdl hd hN hD hD1
set_option maxRecDepth 100000 in
theorem Qr2 {i U:Nat} {u:J0} (hu:inB LB u) (hiu:i+n<u.length) (hz:valB LB (u.drop (i+n+1))=0) (hlen:u.length<=900000000)
  (hU:(U:Int)=valB LB (u.drop i)) (hUD:U<D*18446744073709551616) :
  ∃u',(∀{R:Type} (q:J0) (rec done:(Int×J0×J0)->Option R),i<q.length->z45.l0aaP 0 n d rec done ((i:Int),u,q)=rec ((i:Int)-1,u',q.set i ((U/D:Nat):Int)))/\inB LB u'/\u'.length=u.length/\u'.take i=u.take i/\valB LB (u'.drop i)=((U%D:Nat):Int)/\U/D<18446744073709551616:=by
 have e1:wr .i64 (wr .i64 ((i:Int)+(n:Int))+1)=((i+n+1:Nat):Int):=by
  rw [Qc (n:=(i:Int)+n) (by omega) (by omega),Qc (by omega) (by omega)];omega
 have e2:i+n+1-i=n+1:=by omega
 have w1:wr .i64 ((n:Int)-1)=((n-1:Nat):Int):=by rw [Qc (by omega) (by omega)];omega
 have w2:wr .i64 ((n:Int)-2)=((n-2:Nat):Int):=by rw [Qc (by omega) (by omega)];omega
 obtain ⟨d1,hd1,b1⟩:=limb hd (n-1)
 obtain ⟨d2,hd2,b2⟩:=limb hd (n-2)
 obtain ⟨top,ht,bt⟩:=limb hu (i+n)
 obtain ⟨next,hnx,bn⟩:=limb hu (i+n-1)
 obtain ⟨third,h3,b3⟩:=limb hu (i+n-2)
 rw [hd1] at hD1
 obtain ⟨dl,hdl'⟩:=Yr (Wd (Wh hd (n-2)))
 obtain ⟨ul,hul'⟩:=Yr (Wd (Wh (Y3 hu i) (n-2)))
 have hdlt:dl<LB^(n-2):=by
  have:=W8 bL (Wh hd (n-2))
  rw [hdl',Z8,Z53 (by omega)] at this
  exact_mod_cast this
 have hult:ul<LB^(n-2):=by
  have:=W8 bL (Wh (Y3 hu i) (n-2))
  rw [hul',Z8,Z35,Z53 (by omega)] at this
  exact_mod_cast this
 have hDe:D=(d1*18446744073709551616+d2)*LB^(n-2)+dl:=by
  have h:=Qlw (l:=d.take n) hn (by rw [Z8];omega)
  rw [<-hD,Qai (by omega),Qai (by omega),hd1,hd2,List.take_take,Z53 (by omega),hdl'] at h
  refine Int.natCast_inj.1 ?_
  rw [h,Z40,Z14,Z40,Z14];rfl
 have hUe:U=((top*18446744073709551616+next)*18446744073709551616+third)*LB^(n-2)+ul:=by
  have h:=high hn hiu hz
  rw [<-hU,ht,hnx,h3,hul'] at h
  refine Int.natCast_inj.1 ?_
  rw [h,Z40,Z14,Z40,Z14,Z40,Z14];rfl
 have hP:0<LB^(n-2):=Z109 (by decide)
 have hD0:0<D:=by
  have:0<(d1*18446744073709551616+d2)*LB^(n-2):=Z49 (by omega) hP
  omega
 have hQB:U/D<18446744073709551616:=Z57 hUD
 have tail:∀{k:Nat},U/D<=k->k<=U/D+1->k<18446744073709551616->_:=λ{k} a b c=>Qwd hn hdl hd hN hD hD0 hu hiu hz hlen hU a b c
 by_cases hc:d1<=top
 ·have g:=Qzs (B:=18446744073709551616) (d1:=d1) (d2:=d2) (top:=top) (next:=next) (third:=third) (P:=LB^(n-2)) (ul:=ul) (dl:=dl) (by omega) b2 hult hdlt hc (by rw [<-hUe,<-hDe];exact hUD)
  rw [<-hUe,<-hDe] at g
  obtain ⟨u',t1,t2,t3,t4,t5⟩:=tail (k:=18446744073709551615) g.1 g.2 (by decide)
  refine ⟨u',λ{R} q rec done hiq=>?_,t2,t3,t4,t5,hQB⟩
  rw [Qkw,bif_t (by omega),e1,if_pos (by omega),Zi i,Zi (i+n+1),Zi n,e2,if_pos (by omega),if_pos hiu,w1,if_pos (by omega),Zi (n-1),if_pos (by omega),w2,if_pos (by omega),Zi (n-2),Z18,if_pos (by omega),if_pos (by omega),if_pos (by omega),ht,hd1,bif_t (by omega)]
  exact t1 q rec hiq
 ·have q3:((top*18446744073709551616+next)*18446744073709551616+third)/(d1*18446744073709551616+d2)<18446744073709551616:=by
   refine Z57 ?_
   have h1:(top+1)*18446744073709551616<=d1*18446744073709551616:=Z3 _ (by omega)
   have h2:(top*18446744073709551616+next+1)*18446744073709551616<=(d1*18446744073709551616)*18446744073709551616:=Z3 _ (by omega)
   rw [Z24]
   omega
  have ge:=Qmj (U3:=(top*18446744073709551616+next)*18446744073709551616+third) (D2:=d1*18446744073709551616+d2) hult hdlt (by omega)
  have le:=Qy5 (U3:=(top*18446744073709551616+next)*18446744073709551616+third) (D2:=d1*18446744073709551616+d2) hult hdlt (by omega) (B:=18446744073709551616) (by omega) q3
  rw [<-hUe,<-hDe] at ge le
  obtain ⟨u',t1,t2,t3,t4,t5⟩:=tail ge le q3
  refine ⟨u',λ{R} q rec done hiq=>?_,t2,t3,t4,t5,hQB⟩
  rw [Qkw,bif_t (by omega),e1,if_pos (by omega),Zi i,Zi (i+n+1),Zi n,e2,if_pos (by omega),if_pos hiu,w1,if_pos (by omega),Zi (n-1),if_pos (by omega),w2,if_pos (by omega),Zi (n-2),Z18,if_pos (by omega),if_pos (by omega),if_pos (by omega),ht,hd1,Qb (by omega),if_pos (by omega),if_pos (by omega),show i+(n-1)=i+n-1 by omega,hnx,bits_Div64 (by omega) bn b1]
  simp only [Zb]
  rw [show i+(n-2)=i+n-2 by omega,h3,Qxv hn hdl hN hd1 hd2 b1 (by omega) b2 bn b3 (by omega)]
  exact t1 q rec hiq
theorem Qlz {a:J0} {N:Nat} (ha:inB LB a) (hal:a.length<=900000000) (hNa:(N:Int)=valB LB a) :
  ∀
   (k:Nat),k+n<=a.length->∀(m:Nat) (u q:J0),(m:Int)=valB LB (a.drop k)->inB LB u->u.length=a.length->u.take k=a.take k->valB LB (u.drop k)=((m%D:Nat):Int) ->
   q.length=a.length-n->inB LB q->valB LB (q.drop k)=((m/D:Nat):Int) ->
   ∃u' q',Runs (λrec x=>z45.l0aaP 0 n d rec some x) ((k:Int)-1,u,q) ((-1:Int),u',q')/\q'.length=a.length-n/\inB LB q'/\valB LB q'=((N/D:Nat):Int)/\inB LB u'/\u'.length=a.length/\valB LB u'=((N%D:Nat):Int)
 |
  0,hk,m,u,q,hm,hu,hul,hut,huv,hq,hqi,hqv=>by
  have:m=N:=by rw [Z34] at hm;omega
  subst this
  rw [Z34] at huv hqv
  refine ⟨u,q,.done λrec=>?_,hq,hqi,hqv,hu,hul,huv⟩
  unfold z45.l0aaP
  simp only
  rw [Qb (by omega)];rfl
 |
  k+1,hk,m,u,q,hm,hu,hul,hut,huv,hq,hqi,hqv=>by
  have hD0:0<D:=by
   rcases Z12 D with h|h
   ·exfalso
    subst h
    have h2:=Qlw (l:=d.take n) hn (by rw [Z8];omega)
    rw [<-hD,Qai (by omega),Qai (by omega)] at h2
    have h3:=Wd (Wh (Wh hd n) (n-2))
    have h4:=Q8 (B:=LB) (by decide) hd (n-2)
    have h5:=Qjk (n-2)
    have h6:=Int.mul_pos (show 0<d.getD (n-1) 0*18446744073709551616+d.getD (n-2) 0 by omega) h5
    omega
   ·exact h
  have hkq:k<q.length:=by omega
  obtain ⟨x,hx,hxb⟩:=limb ha k
  have hux:u.getD k 0=(x:Int):=by
   have h1:(u.take (k+1)).getD k 0=u.getD k 0:=Qai (by omega)
   have h2:(a.take (k+1)).getD k 0=a.getD k 0:=Qai (by omega)
   rw [<-h1,hut,h2,hx]
  obtain ⟨r,hr⟩:∃r,m%D=r:=⟨_,rfl⟩
  have hrD:r<D:=hr▸Z79 m hD0
  obtain ⟨y,hy⟩:∃y,m/D=y:=⟨_,rfl⟩
  rw [hr] at huv;rw [hy] at hqv
  have hDlt:=D_lt hdl hd hD
  have hUv:((x+18446744073709551616*r:Nat):Int)=valB LB (u.drop k):=by
   rw [Wf,hux,huv,Z40,Z14]
  have hz:valB LB (u.drop (k+n+1))=0:=by
   rw [show k+n+1=k+1+n by omega]
   exact Qj2 hu (by omega) (by rw [huv];omega)
  have hUD:x+18446744073709551616*r<D*18446744073709551616:=by
   have:(r+1)*18446744073709551616<=D*18446744073709551616:=Z3 _ hrD
   omega
  have hmm:D*y+r=m:=by rw [<-hy,<-hr];exact Z65 m D
  have hm':((x+LB*m:Nat):Int)=valB LB (a.drop k):=by rw [Wf,hx,<-hm,Z40,Z14]
  have e:x+LB*m=x+18446744073709551616*r+D*(LB*y):=by
   have h4:D*(LB*y)=LB*(D*y):=by rw [<-Z46,Z24 D LB,Z46]
   have h5:LB*m=LB*(D*y)+LB*r:=by rw [<-hmm,Z117]
   rw [h4,h5]
   have:LB*r=18446744073709551616*r:=rfl
   omega
  have hdiv:(x+LB*m)/D=(x+18446744073709551616*r)/D+LB*y:=by rw [e,Nat.add_mul_div_left _ _ hD0]
  have hmod:(x+LB*m)%D=(x+18446744073709551616*r)%D:=by rw [e,Z96]
  have hQB:(x+18446744073709551616*r)/D<18446744073709551616:=Z57 hUD
  obtain ⟨u0,t1,t2,t3,t4,t5,_⟩:=Qr2 hn hdl hd hN hD hD1 hu (show k+n<u.length by omega) hz (by omega) hUv hUD
  have hvq:valB LB ((q.set k (((x+18446744073709551616*r)/D:Nat):Int)).drop k)=(((x+LB*m)/D:Nat):Int):=by
   rw [Wf,Qh2,hqv,hdiv]
   have:(q.set k (((x+18446744073709551616*r)/D:Nat):Int)).getD k 0=(((x+18446744073709551616*r)/D:Nat):Int):=by simp [List.getD,hkq]
   rw [this,Z40,Z14]
  obtain ⟨u',q',r1,r2,r3,r4,r5,r6,r7⟩:=Qlz ha hal hNa k (by omega) (x+LB*m) u0 (q.set k (((x+18446744073709551616*r)/D:Nat):Int)) hm' t2 (by omega) (by
   rw [t4]
   have h1:=congrArg (List.take k) hut
   rw [List.take_take,List.take_take,Z53 (by omega)] at h1
   exact h1) (by rw [t5,hmod]) (by rw [Z21];exact hq) (Yc hqi ⟨Z55 _,Int.ofNat_lt.2 hQB⟩) hvq
  refine ⟨u',q',.step (λrec=>?_) r1,r2,r3,r4,r5,r6,r7⟩
  have ek:((k+1:Nat):Int)-1=(k:Int):=by omega
  rw [ek]
  exact t1 q rec some hkq
end
theorem Qa4 {k:Nat} (hk:k<=64):2^(64-k)*2^k=18446744073709551616:=by rw [<-Z101,show 64-k+k=64 by omega]
theorem Qh5 {c w k:Nat} (hk:k<=64) (hc:c<2^k) (hw:w<2^(64-k)):wr .u64 ((BitVec.ofInt (IntKind.bits .u64) (c:Int) ||| BitVec.ofInt (IntKind.bits .u64) ((w*2^k:Nat):Int)).toNat:Int)=((w*2^k+c:Nat):Int)/\w*2^k+c<18446744073709551616:=by
 have h:w*2^k+c<18446744073709551616:=by
  have h1:(w+1)*2^k<=2^(64-k)*2^k:=Z3 _ hw
  rw [Qa4 hk,Z19,Z70] at h1
  omega
 rw [BitVec.or_comm]
 exact ⟨Qpu hc h,h⟩
theorem Qi6 {x k:Nat} (hk:k<=64):x*2^k%18446744073709551616=x%2^(64-k)*2^k:=by
 rw [<-Qa4 hk,Nat.mul_mod_mul_right]
theorem Qpy {a:J0} {k:Nat} (hk:k<=63) (ha:inB LB a) (hal:a.length<=900000000):∀(f i:Nat) (s:J0),i+f=a.length->inB LB s->s.length=a.length+1->(∀j,i<j->s.getD j 0=0)->s.getD i 0<(2^k:Nat)->valB LB s=(2^k:Nat)*valB LB (a.take i) ->
  ∃s',Runs (λrec x=>z45.l0P (k:Int) a (a.length:Int) rec some x) ((i:Int),s) ((a.length:Int),s')/\inB LB s'/\s'.length=a.length+1/\valB LB s'=(2^k:Nat)*valB LB a
 |
  0,i,s,hf,hs,hl,hz,hc,hv=>by
  have:i=a.length:=by omega
  subst this
  refine ⟨s,.done λrec=>?_,hs,hl,by rwa [Z100] at hv⟩
  unfold z45.l0P
  simp only
  rw [Qb (by omega)]
 |
  f+1,i,s,hf,hs,hl,hz,hc,hv=>by
  have hi:i<a.length:=by omega
  obtain ⟨x,hx,hxb⟩:=limb ha i
  obtain ⟨c,hcs,hcb⟩:=limb hs i
  rw [hcs] at hc
  have hc':c<2^k:=by exact_mod_cast hc
  have hp:=Z66 k
  have hp':=Z66 (64-k)
  have hw:=Z79 x hp'
  obtain ⟨o1,o2⟩:=Qh5 (by omega) hc' hw
  have hmod:=Qi6 (x:=x) (show k<=64 by omega)
  have hparts:=Qnl (hi:=0) (lo:=x) (s:=k) (by omega)
  rw [Nat.zero_mul,Nat.zero_mul,Z18,Z18,hmod] at hparts
  have hxd:x/2^(64-k)<2^k:=by
   refine Z57 ?_
   rw [Qa4 (by omega)];exact hxb
  have hkB:2^k<=9223372036854775808:=Z33 (n:=2) (by decide) hk
  generalize x%2^(64-k)=w at *
  obtain ⟨h,hh⟩:∃h,x/2^(64-k)=h:=⟨_,rfl⟩
  rw [hh] at hxd hparts
  obtain ⟨nw,hnw⟩:∃nw,w*2^k+c=nw:=⟨_,rfl⟩
  rw [hnw] at o1 o2
  have e1:wr .u64 ((x:Int)*2^k)=((w*2^k:Nat):Int):=by
   rw [show (x:Int)*2^k=((x*2^k:Nat):Int) by push_cast;rfl,Wv,<-hmod];rfl
  have e2:wr .u64 ((64:Int)-k)=((64-k:Nat):Int):=by rw [Qo (by omega) (by omega)];omega
  have e3:min k 64=k:=by omega
  have e4:min (64-k) 64=64-k:=by omega
  have his:i<s.length:=by omega
  have his':i+1<(s.set i (nw:Int)).length:=by rw [Z21];omega
  obtain ⟨s',r1,r2,r3,r4⟩:=Qpy hk ha hal f (i+1) ((s.set i (nw:Int)).set (i+1) (h:Int)) (by omega) (Yc (Yc hs ⟨Z55 _,Int.ofNat_lt.2 (show nw<18446744073709551616 from o2)⟩) ⟨Z55 _,Int.ofNat_lt.2 (show h<18446744073709551616 by omega)⟩) (by rw [Z21,Z21];exact hl)
   (λj hj=>by rw [Qa5 (by omega),Qa5 (by omega)];exact hz j (by omega))
   (by
    have:((s.set i (nw:Int)).set (i+1) (h:Int)).getD (i+1) 0=(h:Int):=by
     rw [Z21] at his'
     simp [List.getD,his']
    rw [this];exact_mod_cast hxd)
   (by
    rw [Yh his',Yh his,Qa5 (by omega),hz (i+1) (by omega),hcs,hv,Jz hi,<-W1 hi,hx]
    have e5:((LB^(i+1):Nat):Int)=18446744073709551616*(LB^i:Nat):=by
     rw [Z44,Z24,Z14];rfl
    have e6:(nw:Int)=w*(2^k:Nat)+c:=by rw [<-hnw,Z40,Z14]
    have e7:(x:Int)*(2^k:Nat)=h*18446744073709551616+w*(2^k:Nat):=by
     have:=congrArg (λn:Nat=>(n:Int)) hparts
     simp only [Z40,Z14] at this
     exact this
    rw [e5,e6]
    generalize ((LB^i:Nat):Int)=p
    generalize ((2^k:Nat):Int)=t at *
    generalize valB LB (a.take i)=v
    grind)
  refine ⟨s',.step (λrec=>?_) r1,r2,r3,r4⟩
  have ek:wr .i64 ((i:Int)+1)=((i+1:Nat):Int):=by rw [Qc (by omega) (by omega)];rfl
  unfold z45.l0P
  simp only [ek,e2]
  rw [bif_t (by omega),if_pos (by omega),if_pos (by omega),Zi i,if_pos his,if_pos (by omega),if_pos (by omega),if_pos his,if_pos (by omega),Zi k,e3,hx,hcs,e1,o1,if_pos (by rw [Z21];omega),Zi (i+1),if_pos his',Zi (64-k),e4,Jy,hh]
theorem Qpb {a:J0} {k:Nat} (hk:k<=63) (ha:inB LB a) (hal:a.length<=900000000):∃s,z45.l0 (k:Int) a (a.length:Int) ((0:Int),List.replicate (a.length+1) (0:Int))=some ((a.length:Int),s)/\z45.l0a (k:Int) a (a.length:Int) ((0:Int),List.replicate (a.length+1) (0:Int))=some ((a.length:Int),s)/\inB LB s/\s.length=a.length+1/\valB LB s=(2^k:Nat)*valB LB a:=by
 have hp:=Z66 k
 obtain ⟨s,r1,r2,r3,r4⟩:=Qpy hk ha hal a.length 0 (List.replicate (a.length+1) 0) (by omega) (Qbi (by decide) _) (by simp) (λj _=>Qc5 _ j) (by rw [Qc5];omega) (by rw [Qca];simp [valB])
 exact ⟨s,r1.lfp,r1.lfp,r2,r3,r4⟩
def shrL (k:Nat):J0->J0
 |[]=>[]
 |[x]=>[x/(2^k:Nat)]
 |x::y::l=>(y*(2^(64-k):Nat)%18446744073709551616+x/(2^k:Nat))::shrL k (y::l)
theorem Qn7 (k:Nat):∀l:J0,(shrL k l).length=l.length
 |[]=>rfl
 |[x]=>rfl
 |x::y::l=>by simp [shrL,Qn7 k (y::l)]
theorem Qk9 {k:Nat} (hk:k<=63):∀{l:J0},inB LB l->valB LB (shrL k l)=valB LB l/(2^k:Nat)
 |[],_=>by simp [shrL,valB]
 |[x],h=>by simp [shrL,valB]
 |
  x::y::l,h=>by
  rw [Wu] at h
  have ih:=Qk9 hk h.2
  have hp:(0:Int)<(2^k:Nat):=by exact_mod_cast Z66 k
  have hp':(0:Int)<(2^(64-k):Nat):=by exact_mod_cast Z66 (64-k)
  have hB:((2^(64-k):Nat):Int)*(2^k:Nat)=18446744073709551616:=by
   rw [<-Z14,Qa4 (by omega)];rfl
  show y*(2^(64-k):Nat)%18446744073709551616+x/(2^k:Nat)+(LB:Nat)*valB LB (shrL k (y::l))=(x+(LB:Nat)*valB LB (y::l))/(2^k:Nat)
  rw [ih]
  have hW:valB LB (y::l)=y+(LB:Nat)*valB LB l:=rfl
  have e:((LB:Nat):Int)=18446744073709551616:=rfl
  rw [e] at hW ⊢
  generalize valB LB (y::l)=W at *
  generalize valB LB l=W' at *
  generalize ((2^k:Nat):Int)=p at *
  generalize ((2^(64-k):Nat):Int)=p' at *
  have e1:(x+18446744073709551616*W)/p=x/p+p'*W:=by
   rw [<-hB,Int.mul_right_comm,Z87 (p'*W) p,Int.add_mul_ediv_left _ _ (Int.ne_of_gt hp)]
  have e2:p'*W/18446744073709551616=W/p:=by
   rw [<-hB,Int.mul_ediv_mul_of_pos _ _ hp']
  have e3:p'*W%18446744073709551616=y*p'%18446744073709551616:=by
   rw [hW,Int.mul_add,Int.mul_left_comm p',Int.add_mul_emod_self_left,Z87]
  have e4:=Z83 (p'*W) 18446744073709551616
  rw [e2,e3] at e4
  rw [e1]
  omega
theorem Qon {k:Nat} (hk:k<=63):∀(l P:J0),inB LB l->P.length+l.length<=900000000 ->
  Runs (λrec x=>z43.l0P 0 (P.length+l.length) (k:Int) ((P.length+l.length:Nat):Int) rec some x) ((P.length:Int),P++l) (((P.length+l.length:Nat):Int),P++shrL k l)
 |
  [],P,_,_=>by
  refine .done λrec=>?_
  unfold z43.l0P
  simp only [Z54,Z77]
  rw [Qb (by omega)];rfl
 |
  x::l,P,h,hl=>by
  rw [Wu] at h
  simp only [Z9] at hl ⊢
  obtain ⟨n,hn⟩:=Yr h.1.1
  have hnb:n<18446744073709551616:=by have:=h.1.2;rw [hn] at this;exact_mod_cast this
  have g1:(P++x::l).getD P.length 0=(n:Int):=by rw [<-hn];simp [List.getD]
  have e0:min k 64=k:=by omega
  have e2:wr .u64 ((64:Int)-k)=((64-k:Nat):Int):=by rw [Qo (by omega) (by omega)];omega
  have e4:min (64-k) 64=64-k:=by omega
  have ek:wr .i64 ((P.length:Int)+1)=((P.length+1:Nat):Int):=by rw [Qc (by omega) (by omega)];rfl
  have hset:∀v:Int,(P++x::l).set P.length v=P++v::l:=λv=>by simp
  have hlen:∀v:Int,(P++v::l).length=P.length+(l.length+1):=λv=>by simp
  have hp:=Z66 k
  have hnk:n/2^k<2^(64-k):=by
   refine Z57 ?_
   rw [Z24,Qa4 (by omega)];exact hnb
  cases l with
  |
   nil=>
   simp only [Z54,Z18] at hl hlen ⊢
   refine .step (y:=(((P.length+1:Nat):Int),P++[x/(2^k:Nat)])) (λrec=>?_) (.done λrec=>?_)
   ·unfold z43.l0P
    simp only [Z18,ek]
    rw [bif_t (by omega),if_pos (by omega),Zi P.length,if_pos (by rw [hlen];omega),if_pos (by omega),if_pos (by omega),if_pos (by rw [hlen];omega),Qb (by omega),g1,Zi k,e0,Jy,hset,hn]
    rfl
   ·unfold z43.l0P
    simp only [Z18]
    rw [Qb (by omega)];rfl
  |
   cons y l=>
   have hy:=h.2
   rw [Wu] at hy
   obtain ⟨m,hm⟩:=Yr hy.1.1
   have hmb:m<18446744073709551616:=by have:=hy.1.2;rw [hm] at this;exact_mod_cast this
   have ih:=Qon hk (y::l) (P++[y*(2^(64-k):Nat)%18446744073709551616+x/(2^k:Nat)]) h.2 (by simp only [Z10,Z9,Z54] at hl ⊢;omega)
   simp only [Z10,Z9,Z54,Z82,List.singleton_append] at ih
   rw [show P.length+(0+1)+(l.length+1)=P.length+(l.length+1+1) by omega,show P.length+(0+1)=P.length+1 by omega] at ih
   refine .step (λrec=>?_) ih
   have g2:∀v:Int,(P++v::y::l).getD (P.length+1) 0=(m:Int):=λv=>by rw [<-hm];simp [List.getD]
   have g3:∀v:Int,(P++v::y::l).getD P.length 0=v:=λv=>by simp [List.getD]
   have hset2:∀v w:Int,(P++v::y::l).set P.length w=P++w::y::l:=λv w=>by simp
   have hmm:=Qi6 (x:=m) (k:=64-k) (by omega)
   rw [show 64-(64-k)=k by omega] at hmm
   have hmk:=Z79 m hp
   obtain ⟨o1,_⟩:=Qh5 (c:=n/2^k) (w:=m%2^k) (k:=64-k) (by omega) hnk (by rw [show 64-(64-k)=k by omega];exact hmk)
   have e5:wr .u64 ((m:Int)*2^(64-k))=((m%2^k*2^(64-k):Nat):Int):=by
    rw [show (m:Int)*2^(64-k)=((m*2^(64-k):Nat):Int) by push_cast;rfl,Wv,<-hmm];rfl
   have e6:y*(2^(64-k):Nat)%18446744073709551616+x/(2^k:Nat)=((m%2^k*2^(64-k)+n/2^k:Nat):Int):=by
    rw [hm,hn,Z40,<-hmm];rfl
   simp only [Z9] at hlen
   unfold z43.l0P
   simp only [Z18,ek,e2,Z9]
   rw [bif_t (by omega),if_pos (by omega),Zi P.length,if_pos (by rw [hlen];omega),if_pos (by omega),if_pos (by omega),if_pos (by rw [hlen];omega),bif_t (by omega),g1,Zi k,e0,Jy,hset,if_pos (by omega),if_pos (by rw [hlen];omega),if_pos (by omega),Zi (P.length+1),if_pos (by rw [hlen];omega),if_pos (by omega),if_pos (by omega),if_pos (by rw [hlen];omega),g2,g3,hset2,Zi (64-k),e4,e5,o1,e6]
theorem quot_Shr {v k:Nat} (hk:k<=63) (hl:(lb v).length<=800000000):z43.F (lb v) (k:Int)=some (lb (v/2^k),0):=by
 have ht:Int.tdiv (k:Int) 64=0:=by rw [Y1 (by omega)];omega
 have hm:Int.tmod (k:Int) 64=(k:Int):=by rw [Jf (by omega)];omega
 have h0:wr .i64 0=0:=by decide
 have hw:wr .u64 (k:Int)=(k:Int):=Qo (by omega) (by omega)
 have hi:(if (((lb v).length:Nat):Int)<0 then (((lb v).length:Nat):Int) else (0:Int))=0:=by rw [if_neg (by omega)]
 have hr:=(Qon hk (lb v) [] (Q3 bL v) (by simp only [Z54];omega)).lfp
 simp only [Z54,Z18,Z107] at hr
 have er:z43.l0 0 (lb v).length (k:Int) (((lb v).length:Nat):Int) ((0:Int),lb v)=some ((((lb v).length:Nat):Int),shrL k (lb v)):=hr
 have hv:=Qk9 hk (Q3 bL v)
 rw [Wj bL] at hv
 have hlen:=Qn7 k (lb v)
 have hval:∀i:Nat,(shrL k (lb v)).getD i 0=(shrL k (lb v)).getD i 0:=λ_=>rfl
 have hin:inB LB (shrL k (lb v)):=by
  have key:∀l:J0,inB LB l->inB LB (shrL k l):=by
   intro l
   induction l with
   |nil=>intro _;exact inB_nil _
   |
    cons x l ih=>
    intro h
    rw [Wu] at h
    obtain ⟨n,hn⟩:=Yr h.1.1
    have hnb:n<18446744073709551616:=by have:=h.1.2;rw [hn] at this;exact_mod_cast this
    have hp:=Z66 k
    have hnk:n/2^k<2^(64-k):=by
     refine Z57 ?_
     rw [Z24,Qa4 (by omega)];exact hnb
    cases l with
    |
     nil=>
     refine Wu.2 ⟨⟨?_,?_⟩,inB_nil _⟩
     ·rw [hn];exact Z55 (n/2^k)
     ·rw [hn]
      have:=Z98 n (2^k)
      exact Int.ofNat_lt.2 (show n/2^k<18446744073709551616 by omega)
    |
     cons y l=>
     have hy:=h.2
     rw [Wu] at hy
     obtain ⟨m,hm⟩:=Yr hy.1.1
     have hmm:=Qi6 (x:=m) (k:=64-k) (by omega)
     rw [show 64-(64-k)=k by omega] at hmm
     have hmk:=Z79 m hp
     obtain ⟨_,o2⟩:=Qh5 (c:=n/2^k) (w:=m%2^k) (k:=64-k) (by omega) hnk (by rw [show 64-(64-k)=k by omega];exact hmk)
     have e6:y*(2^(64-k):Nat)%18446744073709551616+x/(2^k:Nat)=((m%2^k*2^(64-k)+n/2^k:Nat):Int):=by
      rw [hm,hn,Z40,<-hmm];rfl
     refine Wu.2 ⟨?_,ih h.2⟩
     rw [e6]
     exact ⟨Z55 _,Int.ofNat_lt.2 o2⟩
  exact key _ (Q3 bL v)
 unfold z43.F z42.F
 rw [Qb (by omega),Zf (by omega)]
 simp only [Zb,Zc]
 rw [ht,hm,h0,hw,hi,if_pos (by omega),if_pos (by omega)]
 simp only [Int.toNat_zero,Nat.sub_zero]
 rw [er]
 simp only [Zb,Z34]
 rw [Z28 (by omega),Qb2 hin (by show List.length _<=_;omega),hv]
 simp only [Zb]
 congr 3
theorem Qd7 (n:Nat):inB LB (lb n):=Q3 bL n
theorem Qs3 {x s:Nat} (hs:s<=63) (h:x*2^s<18446744073709551616):(x+1)*2^s<=18446744073709551616:=by
 rw [<-Qa4 (show s<=64 by omega)] at h ⊢
 have:=Nat.lt_of_mul_lt_mul_right h
 exact Z3 _ (by omega)
theorem Qtc {a b:Nat} (hb:2<=(lb b).length) (hab:(lb b).length<=(lb a).length) (hl:(lb a).length<=700000000) :
  ∃q,z45.F (lb a) (lb b)=some (q,lb (a%b))/\inB LB q/\q.length<=900000000/\valB LB q=((a/b:Nat):Int):=by
 obtain ⟨n,hn⟩:∃n,(lb b).length=n:=⟨_,rfl⟩
 obtain ⟨la,hla⟩:∃n,(lb a).length=n:=⟨_,rfl⟩
 have hb0:0<b:=by
  rcases Z12 b with h|h
  ·subst h;rw [lb_zero] at hb;simp at hb
  ·exact h
 obtain ⟨x,hx,hxb⟩:=limb (Qd7 b) (n-1)
 have hsplit:=Qa1 LB (l:=lb b) (k:=n-1) (by omega)
 have hd1:=Wf (B:=LB) (lb b) (n-1)
 rw [show n-1+1=n by omega,show List.drop n (lb b)=[] from Z26 (by omega),show valB LB []=0 from rfl,Int.mul_zero,Z114,hx] at hd1
 rw [Wj bL,hd1] at hsplit
 have hlow:=W8 bL (Wh (Qd7 b) (n-1))
 rw [Z8,Z53 (by omega)] at hlow
 have hlow0:=Wd (Wh (Qd7 b) (n-1))
 obtain ⟨bl,hbl⟩:=Yr hlow0
 rw [hbl] at hsplit hlow
 have hbe:b=LB^(n-1)*x+bl:=by
  have:(b:Int)=((LB^(n-1)*x+bl:Nat):Int):=by rw [hsplit,Z40,Z14];omega
  exact_mod_cast this
 have hblt:bl<LB^(n-1):=by exact_mod_cast hlow
 have hx0:0<x:=by
  have hne:lb b≠[]:=λe=>by rw [e] at hb;simp at hb
  have h1:(lb b).getLast hne≠0:=Qgn bL b hne
  rw [List.getLast_eq_getElem] at h1
  have e:(lb b).getD ((lb b).length-1) 0=(lb b)[(lb b).length-1]'(by omega):=by simp [List.getD,show (lb b).length-1<(lb b).length by omega]
  have hx':(lb b).getD ((lb b).length-1) 0=(x:Int):=by rw [hn];exact hx
  rw [hx'] at e
  rcases Z12 x with h|h
  ·subst h;exact absurd e.symm h1
  ·exact h
 obtain ⟨s,hs,s1,s2,hlead⟩:=Qkd hx0 hxb
 have hp:=Z66 s
 obtain ⟨u0,mu,_,iu,lu,vu⟩:=Qpb hs (Qd7 a) (by omega)
 obtain ⟨d0,_,md,id,ld,vd⟩:=Qpb hs (Qd7 b) (by omega)
 rw [Wj bL] at vu vd
 rw [hla] at mu lu
 rw [hn] at md ld
 obtain ⟨P,hP⟩:∃P,LB^(n-1)=P:=⟨_,rfl⟩
 have hPp:0<P:=hP▸Z109 (by decide)
 have hPn:LB^n=P*18446744073709551616:=by
  rw [<-hP,show n=n-1+1 by omega,Z44];simp
 rw [hP] at hbe hblt
 have hDlt:b*2^s<LB^n:=by
  have h1:b<P*(x+1):=by rw [Z117,Z120];omega
  have h2:b*2^s<P*(x+1)*2^s:=Z86 h1 hp
  have h3:P*((x+1)*2^s)<=P*18446744073709551616:=Z43 _ (Qs3 hs s2)
  rw [Z46] at h2
  omega
 have hDge:P*9223372036854775808<=b*2^s:=by
  have h1:P*x*2^s<=b*2^s:=Z3 _ (by omega)
  have h2:P*9223372036854775808<=P*(x*2^s):=Z43 _ s1
  rw [Z46] at h1
  omega
 have hvd:valB LB d0=((b*2^s:Nat):Int):=by rw [vd,Z14,Z87]
 have hvu:valB LB u0=((a*2^s:Nat):Int):=by rw [vu,Z14,Z87]
 have hd0z:valB LB (d0.drop n)=0:=by
  have:=Qj2 id (i:=0) (n:=n) (by omega) (by rw [Z34,hvd];exact Int.ofNat_lt.2 hDlt)
  rwa [Z18] at this
 have hD:((b*2^s:Nat):Int)=valB LB (d0.take n):=by
  rw [<-hvd,Qa1 LB (l:=d0) (k:=n) (by omega),hd0z,Int.mul_zero,Z114]
 have hD1:18446744073709551616<=2*d0.getD (n-1) 0:=by
  obtain ⟨t,ht,htb⟩:=limb id (n-1)
  have h1:=Qa1 LB (l:=d0) (k:=n-1) (by omega)
  have h2:=Wf (B:=LB) d0 (n-1)
  rw [show n-1+1=n by omega,hd0z,Int.mul_zero,Z114,ht] at h2
  rw [hvd,h2] at h1
  have h3:=W8 bL (Wh id (n-1))
  rw [Z8,Z53 (by omega)] at h3
  obtain ⟨w,hw⟩:=Yr (Wd (Wh id (n-1)))
  rw [hw,hP] at h1 h3
  have h4:b*2^s=P*t+w:=by
   have:((b*2^s:Nat):Int)=((P*t+w:Nat):Int):=by rw [h1,Z40,Z14];omega
   exact Int.natCast_inj.1 this
  have h5:w<P:=by exact_mod_cast h3
  have h6:P*9223372036854775808<P*(t+1):=by rw [Z117,Z120];omega
  have h7:=Nat.lt_of_mul_lt_mul_left h6
  rw [ht];omega
 have hD0:0<b*2^s:=Z49 hb0 hp
 obtain ⟨m,hm⟩:=Yr (Wd (Y3 iu (la+1-n)))
 have hmD:m<b*2^s:=by
  have h1:=Qa1 LB (l:=u0) (k:=la+1-n) (by omega)
  rw [hvu,hm] at h1
  obtain ⟨w,hw⟩:=Yr (Wd (Wh iu (la+1-n)))
  rw [hw] at h1
  have h2:a*2^s=w+LB^(la+1-n)*m:=by
   have:((a*2^s:Nat):Int)=((w+LB^(la+1-n)*m:Nat):Int):=by rw [h1,Z40,Z14]
   exact Int.natCast_inj.1 this
  have h3:a<LB^la:=hla▸Qbm bL
  have h4:LB^la=LB^(la+1-n)*P:=by rw [<-hP,<-Z101];congr 1;omega
  have h5:a*2^s<LB^(la+1-n)*P*2^s:=by rw [<-h4];exact Z86 h3 hp
  rw [Z46] at h5
  have h6:LB^(la+1-n)*m<LB^(la+1-n)*(P*2^s):=by omega
  have h7:=Nat.lt_of_mul_lt_mul_left h6
  have h8:P*2^s<=P*9223372036854775808:=Z43 _ (Z33 (n:=2) (by decide) hs)
  omega
 obtain ⟨u',q',r1,r2,r3,r4,r5,r6,r7⟩:=Qlz (n:=n) (d:=d0) (D:=b*2^s) (by omega) (by omega) id (by omega) hD hD1 (a:=u0) (N:=a*2^s) iu (by omega) hvu.symm (la+1-n) (by omega) m u0 (List.replicate (la+1-n) 0) hm.symm iu rfl rfl (by rw [Z110 hmD];exact hm) (by rw [Z73];omega) (Qbi (by decide) _)
  (by rw [Z26 (by rw [Z73];omega),Nat.div_eq_of_lt hmD];rfl)
 have hq:a*2^s/(b*2^s)=a/b:=Nat.mul_div_mul_right _ _ hp
 have hr:a*2^s%(b*2^s)=a%b*2^s:=Nat.mul_mod_mul_right _ _ _
 rw [hq] at r4
 rw [hr] at r7
 have er:z45.l0aa 0 n d0 (((la+1-n:Nat):Int)-1,u0,List.replicate (la+1-n) 0)=some ((-1:Int),u',q'):=r1.lfp
 refine ⟨q',?_,r3,by omega,r4⟩
 have hml:a%b<=a:=Nat.mod_le a b
 have w1:wr .i64 ((n:Int)-1)=((n-1:Nat):Int):=by rw [Qc (by omega) (by omega)];omega
 have w2:wr .i64 ((la:Int)+1)=((la+1:Nat):Int):=by rw [Qc (by omega) (by omega)];rfl
 have w3:wr .i64 ((n:Int)+1)=((n+1:Nat):Int):=by rw [Qc (by omega) (by omega)];rfl
 have w4:wr .i64 (((la+1:Nat):Int)-(n:Int))=((la+1-n:Nat):Int):=by rw [Qc (by omega) (by omega)];omega
 have w5:wr .i64 (((la+1-n:Nat):Int)-1)=((la+1-n:Nat):Int)-1:=Qc (by omega) (by omega)
 have w6:wr .u64 (s:Int)=(s:Int):=Qo (by omega) (by omega)
 have w7:wr .i64 (s:Int)=(s:Int):=Qc (by omega) (by omega)
 have hu':u'.length=la+1:=by omega
 have hlr:(lb (a%b*2^s)).length<=la+1:=by
  have h1:=W8 bL r5
  rw [r7,hu'] at h1
  exact Yf bL (Int.ofNat_lt.1 h1)
 unfold z45.F
 rw [hn,w1,if_pos (by omega),Zi (n-1),hx,hlead]
 simp only [Zb]
 rw [hla,w2,if_pos (by omega),w6,Zi (la+1),mu]
 simp only [Zb]
 rw [w3,if_pos (by omega),Zi (n+1),md]
 simp only [Zb]
 rw [if_pos (by omega),lu,Zi n,w4,if_pos (by omega),Zi (la+1-n),Z73,w5,er]
 simp only [Zb]
 rw [Qb2 r5 (by show List.length _<=_;omega),r7,Zi]
 simp only [Zb]
 rw [w7,quot_Shr hs (by omega),Nat.mul_div_cancel _ hp]
 simp only [Zb]
 have hlm:(lb (a%b)).length<=la:=by
  have:=Yf bL (B:=LB) (n:=a%b) (k:=la) (Nat.lt_of_le_of_lt hml (hla▸Qbm bL))
  exact this
 rw [Jm (by show List.length _<=_;omega)]
 rfl
theorem Qnv {a b:Nat} (hb:0<b) (ha:(lb a).length<=700000000):Yu a b:=by
 rcases Z39 a b with h|h
 ·exact Qhl h (by omega)
 rcases Z39 b 18446744073709551616 with hs|hs
 ·exact Qk0 hb hs (by omega)
 have hab:(lb b).length<=(lb a).length:=by
  rcases Z39 (lb a).length (lb b).length with h'|h'
  ·have:=Qfs bL h';omega
  ·exact h'
 have hb2:2<=(lb b).length:=by
  rcases Z39 (lb b).length 2 with h'|h'
  ·exfalso
   have h1:b<LB^(lb b).length:=Qbm bL
   have h2:LB^(lb b).length<=LB^1:=Z33 (by decide) (by omega)
   have h3:LB^1=18446744073709551616:=rfl
   omega
  ·exact h'
 obtain ⟨q,q1,q2,q3,q4⟩:=Qtc hb2 hab ha
 unfold Yu z46.F
 rw [Ws]
 simp only [Zb]
 rw [Qb (by omega),Qb3 (by omega)]
 simp only [Zb]
 have:¬cmpI (a:Int) b<0:=by unfold cmpI;rw [if_neg (by omega)];split<;>omega
 rw [Qb this,Jm (by show List.length _<=_;omega),Jm (by show List.length _<=_;omega)]
 simp only [Zb]
 rw [Qb (by omega),q1]
 simp only [Zb]
 have hml:=Nat.mod_le a b
 have hlm:(lb (a%b)).length<=(lb a).length:=Yf bL (Nat.lt_of_le_of_lt hml (Qbm bL))
 rw [Qb2 q2 (by show List.length _<=_;omega),q4,Qtx (by show List.length _<=_;omega)]
 rfl
theorem Qg9 {M:Nat} (h:sz M<=700000000):Qaz M:=λx y hx _ hy=>Qnv hy (Z11 (Qk x) (Z11 (Q5 hx) h))
theorem Qax (m n:Nat):sz (m+n)<=max (sz m) (sz n)+1:=sz_le (by
 have h1:m<10^max (sz m) (sz n):=Z16 (Jo m) (Z33 (by decide) (by omega))
 have h2:n<10^max (sz m) (sz n):=Z16 (Jo n) (Z33 (by decide) (by omega))
 rw [Z44];omega)
theorem Qdq (a b:Int):sz (a+b).natAbs<=max (sz a.natAbs) (sz b.natAbs)+1:=Z11 (Q5 (Int.natAbs_add_le a b)) (Qax _ _)
theorem Qaf (a b:Int):sz (a*b).natAbs<=sz a.natAbs+sz b.natAbs:=by rw [Z106];exact W3 _ _
def Sq (k:Nat) (q:Rat):Prop:=sz q.num.natAbs<=2*k/\sz q.den<=k
theorem Sq.mono {k j:Nat} {q:Rat} (h:Sq k q) (hj:k<=j):Sq j q:=⟨Z11 h.1 (by omega),Z11 h.2 hj⟩
theorem Sq.mk {k d:Nat} {n:Int} (h0:0<d) (hn:sz n.natAbs<=2*k) (hd:sz d<=k):Sq k (mkRat n d):=
 ⟨Z11 (Q5 (Qcp n h0)) hn,Z11 (Q5 (Qcr n h0)) hd⟩
theorem Sq.div {k:Nat} {n d:Int} (h0:0<d) (hn:sz n.natAbs<=2*k) (hd:sz d.natAbs<=k):Sq k (Rat.divInt n d):=by
 obtain ⟨e,rfl⟩:∃e:Nat,d=e:=⟨d.toNat,by omega⟩
 rw [Rat.divInt_ofNat]
 exact Sq.mk (by omega) hn hd
theorem Sq.cross {k j:Nat} {q r:Rat} (h:Sq k q) (h':Sq j r):sz (q.num*r.den).natAbs<=2*k+j:=by
 have:=Qaf q.num r.den
 have e:(r.den:Int).natAbs=r.den:=rfl
 rw [e] at this
 have:=h.1;have:=h'.2;omega
theorem Sq.dens {k j:Nat} {q r:Rat} (h:Sq k q) (h':Sq j r):sz (q.den*r.den)<=k+j:=by
 have:=W3 q.den r.den
 have:=h.2;have:=h'.2;omega
theorem Sq.add {k j:Nat} {q r:Rat} (h:Sq k q) (h':Sq j r):Sq (k+j+1) (q+r):=by
 rw [Rat.add_def']
 have h1:=h.cross h'
 have h2:=h'.cross h
 have h3:=h.dens h'
 have h4:=Qdq (q.num*r.den) (r.num*q.den)
 exact Sq.mk (Z49 q.den_pos r.den_pos) (by omega) (by omega)
theorem Sq.mul {k j:Nat} {q r:Rat} (h:Sq k q) (h':Sq j r):Sq (k+j) (q*r):=by
 rw [Rat.mul_def']
 have h1:=Qaf q.num r.num
 have h3:=h.dens h'
 have:=h.1;have:=h'.1
 exact Sq.mk (Z49 q.den_pos r.den_pos) (by omega) h3
theorem Sq.neg {k:Nat} {q:Rat} (h:Sq k q):Sq k (-q):=by
 refine ⟨?_,h.2⟩
 show sz (-q.num).natAbs<=_
 rw [Int.natAbs_neg];exact h.1
theorem Sq.int {k:Nat} {z:Int} (h:sz z.natAbs<=2*k) (h1:1<=k):Sq k (z:Rat):=⟨h,Z11 (sz_le (show 1<10^1 by decide)) h1⟩
theorem Sq.zero {k:Nat} (h1:1<=k):Sq k 0:=Sq.int (z:=0) (by simp [Js]) h1
theorem Qu6 (z:Int):fr (z:Rat)=(lb z.natAbs,neg z,[]):=by
 show (lb z.natAbs,neg z,lb (1-1))=_
 rw [lb_zero]
theorem Qnm {num:Int} {den:Nat} (h0:0<den) (hn:sz num.natAbs<=700000000) (hd:sz den<=700000000) :
  z48.F (lb num.natAbs) (neg num) (lb den)=some (fr (mkRat num den)):=by
 have hm:sz (max num.natAbs den)<=700000000:=by
  rcases Nat.le_total num.natAbs den with h|h
  ·rw [Nat.max_eq_right h];exact hd
  ·rw [Nat.max_eq_left h];exact hn
 exact frac_made (Qg9 hm) h0 (Nat.le_max_left _ _) (Nat.le_max_right _ _) hd
theorem Qgd {num den:Int} (h0:den≠0) (hn:sz num.natAbs<=700000000) (hd:sz den.natAbs<=700000000) :
  z49.F (lb num.natAbs) (neg num) (lb den.natAbs) (neg den)=some ((fr (Rat.divInt num den)).1,(fr (Rat.divInt num den)).2.1,(fr (Rat.divInt num den)).2.2,0):=by
 have hm:sz (max num.natAbs den.natAbs)<=700000000:=by
  rcases Nat.le_total num.natAbs den.natAbs with h|h
  ·rw [Nat.max_eq_right h];exact hd
  ·rw [Nat.max_eq_left h];exact hn
 exact frac_Of (Qg9 hm) h0 (Nat.le_max_left _ _) (Nat.le_max_right _ _) hd
theorem Qh1 {k j:Nat} {q r:Rat} (hq:Sq k q) (hr:Sq j r) (hs:k+j<=100000000) :
  z86.F (fr q).1 (fr q).2.1 (fr q).2.2 (fr r).1 (fr r).2.1 (fr r).2.2=some (fr (q*r)):=by
 have h1:=hq.dens hr
 have h2:=Qaf q.num r.num
 have q1:=hq.1;have q2:=hq.2;have r1:=hr.1;have r2:=hr.2
 have l1:=Qk q.num.natAbs;have l2:=Qk r.num.natAbs;have l3:=Qk q.den;have l4:=Qk r.den
 unfold z86.F
 rw [Qaa (by omega)]
 simp only [Zb]
 rw [J5 q _ _ (by omega)]
 simp only [Zb]
 rw [J5 r _ _ (by omega)]
 simp only [Zb]
 rw [Je (by omega)]
 simp only [Zb]
 rw [Qnm (Z49 q.den_pos r.den_pos) (by omega) (by omega),<-Rat.mul_def']
 rfl
theorem Qis {k j:Nat} {q r:Rat} (hq:Sq k q) (hr:Sq j r) (hs:k+j<=100000000) :
  z115.F (fr q).1 (fr q).2.1 (fr q).2.2 (fr r).1 (fr r).2.1 (fr r).2.2=some (fr (q+r)):=by
 have h1:=hq.dens hr
 have h2:=hq.cross hr;have h2':=hr.cross hq
 have h3:=Qdq (q.num*r.den) (r.num*q.den)
 have q1:=hq.1;have q2:=hq.2;have r1:=hr.1;have r2:=hr.2
 have l1:=Qk q.num.natAbs;have l2:=Qk r.num.natAbs;have l3:=Qk q.den;have l4:=Qk r.den
 have l3':(lb (q.den:Int).natAbs).length<=sz q.den:=l3
 have l4':(lb (r.den:Int).natAbs).length<=sz r.den:=l4
 have l5:=Qk (q.num*r.den).natAbs;have l6:=Qk (r.num*q.den).natAbs
 unfold z115.F
 rw [Qf3 r _ _ (by omega)]
 simp only [Zb]
 rw [Qaa (by omega)]
 simp only [Zb]
 rw [Qf3 q _ _ (by omega)]
 simp only [Zb]
 rw [Qaa (by omega)]
 simp only [Zb]
 rw [Qdo (by omega)]
 simp only [Zb]
 rw [J5 q _ _ (by omega)]
 simp only [Zb]
 rw [J5 r _ _ (by omega)]
 simp only [Zb]
 rw [Je (by omega)]
 simp only [Zb]
 rw [Qnm (Z49 q.den_pos r.den_pos) (by omega) (by omega),<-Rat.add_def']
 rfl
theorem frac_From (z:Int):z29.F (lb z.natAbs) (neg z)=some (fr (z:Rat)):=by
 rw [Qu6];rfl
theorem Qmu (q:Rat) (b:J0):z88.F (lb q.num.natAbs) (neg q.num) b=some (cmpI q.num 0):=by
 unfold z88.F
 rw [W6]
 rfl
theorem Qst (q:Rat) (b:J0):z89.F (lb q.num.natAbs) (neg q.num) b=some (lb q.num.natAbs,neg q.num):=rfl
def upN (m:Int) (low rest d:Nat):Prop:=rest≠0/\(m=1\/m=2/\d<=2*rest\/m=3/\d<2*rest\/m=4/\(d<2*rest\/d=2*rest/\low%2=1))
instance (m:Int) (low rest d:Nat):Decidable (upN m low rest d):=by unfold upN;infer_instance
def rndN (m:Int) (a d:Nat):Nat:=if upN m (a/d) (a%d) d then a/d+1 else a/d
def rnd (m:Int) (q:Rat):Int:=if q.num<0 then -(rndN m q.num.natAbs q.den:Int) else (rndN m q.num.natAbs q.den:Int)
abbrev ysz (y:Int):Int:=if leap y then 366 else 365
theorem Qrt (y:Int):cumD y 13=ysz y:=by
 unfold cumD ysz;split<;>(try split)<;>omega
def inY (y k:Int):Rat:=(y:Rat)+Rat.divInt (k-aheadY y-1) (ysz y)
def yAt (y m d:Int):Rat:=inY y (num y m d)
theorem Qkc (y:Int):0<ysz y:=by unfold ysz;split<;>omega
theorem Qqg (y:Int):ysz y≠0:=Int.ne_of_gt (Qkc y)
theorem Qug {a b c:Int} (h:c≠0):Rat.divInt a c-Rat.divInt b c=Rat.divInt (a-b) c:=by
 have hc:(c:Rat)≠0:=λe=>h (Rat.intCast_eq_zero_iff.1 e)
 rw [Z95,Z95,Z95,Rat.intCast_sub]
 grind
theorem Qet (y k j:Int):inY y k-inY y j=Rat.divInt (k-j) (ysz y):=by
 have h:=Qug (a:=k-aheadY y-1) (b:=j-aheadY y-1) (Qqg y)
 rw [show k-aheadY y-1-(j-aheadY y-1)=k-j by omega] at h
 unfold inY
 rw [<-h]
 grind
theorem Qo6 (y:Int):inY y (aheadY y+1)=y:=by
 unfold inY
 rw [show aheadY y+1-aheadY y-1=0 by omega,Rat.zero_divInt,Rat.add_zero]
theorem Qoa (y:Int):inY y (aheadY (y+1)+1)=((y+1:Int):Rat):=by
 unfold inY
 rw [Qd4,Qrt,show aheadY y+ysz y+1-aheadY y-1=ysz y by omega,Rat.divInt_self' (Qqg y),Rat.intCast_add]
 rfl
def Ym (y m d y' m' d':Int):Int:=360*(y'-y)+30*(m'-m)+(if d'>30/\30<=d then 30 else d')-(if d>30 then 30 else d)
def yf (b y m d y' m' d':Int):Rat:=
 if b=0 then Rat.divInt (Ym y m d y' m' d') 360 else if b=1 then Rat.divInt (num y' m' d'-num y m d) 365 else yAt y' m' d'-yAt y m d
structure Lg where
 f:D3
 t:D3
 op:List UInt8
 rt:List UInt8
def lgv (x:Lg):List V:=[.int .i64 x.f.1,.int .i64 x.f.2.1,.int .i64 x.f.2.2,.int .i64 x.t.1,.int .i64 x.t.2.1,.int .i64 x.t.2.2,.str x.op,.str x.rt]
theorem asL0 {R:Type} (x:Lg) (K:Int->Option R):V.asInt .i64 ((lgv x).getD 0 .undef) K=K x.f.1:=by simp [lgv,V.asInt]
theorem asL1 {R:Type} (x:Lg) (K:Int->Option R):V.asInt .i64 ((lgv x).getD 1 .undef) K=K x.f.2.1:=by simp [lgv,V.asInt]
theorem asL2 {R:Type} (x:Lg) (K:Int->Option R):V.asInt .i64 ((lgv x).getD 2 .undef) K=K x.f.2.2:=by simp [lgv,V.asInt]
theorem asL3 {R:Type} (x:Lg) (K:Int->Option R):V.asInt .i64 ((lgv x).getD 3 .undef) K=K x.t.1:=by simp [lgv,V.asInt]
theorem asL4 {R:Type} (x:Lg) (K:Int->Option R):V.asInt .i64 ((lgv x).getD 4 .undef) K=K x.t.2.1:=by simp [lgv,V.asInt]
theorem asL5 {R:Type} (x:Lg) (K:Int->Option R):V.asInt .i64 ((lgv x).getD 5 .undef) K=K x.t.2.2:=by simp [lgv,V.asInt]
theorem asL6 {R:Type} (x:Lg) (K:J1->Option R):V.asStr ((lgv x).getD 6 .undef) K=K x.op:=by simp [lgv,V.asStr]
theorem asL7 {R:Type} (x:Lg) (K:J1->Option R):V.asStr ((lgv x).getD 7 .undef) K=K x.rt:=by simp [lgv,V.asStr]
def mLeg (a:Option D3) (x:Lg):Int:=
 if ¬(rightD x.f/\rightD x.t) then 11 else if cmpD x.f x.t>0\/a.all (λd=>decide (x.f=d))=false then 12 else if (mMoney x.op).2≠0 then (mMoney x.op).2 else (mRate x.rt).2
def mLegs:Option D3->List Lg->Int
 |_,[]=>0
 |a,x::l=>if mLeg a x≠0 then mLeg a x else mLegs (some x.t) l
theorem Qdz {a:Option D3} {x:Lg} (h:mLeg a x=0):rightD x.f/\rightD x.t/\numD x.f<=numD x.t/\(∀d,a=some d->x.f=d)/\(mMoney x.op).2=0/\(mRate x.rt).2=0:=by
 unfold mLeg at h
 split at h
 ·simp at h
 rename_i h1
 have h1:rightD x.f/\rightD x.t:=Classical.not_not.1 h1
 split at h
 ·simp at h
 rename_i h2
 split at h
 ·rename_i h3;exact absurd h h3
 rename_i h3
 have h4:¬cmpD x.f x.t>0:=λe=>h2 (.inl e)
 rw [Yy h1.1 h1.2,Qbd] at h4
 refine ⟨h1.1,h1.2,by omega,λd e=>?_,by omega,h⟩
 subst e
 have h5:¬(decide (x.f=d)=false):=λe=>h2 (.inr e)
 simpa using h5
def minD (t tu:D3):D3:=if cmpD t tu<0 then t else tu
def term (b:Int) (tu:D3) (x:Lg):Rat:=((mMoney x.op).1:Rat)*(mRate x.rt).1*yf b x.f.1 x.f.2.1 x.f.2.2 (minD x.t tu).1 (minD x.t tu).2.1 (minD x.t tu).2.2
def exL (b:Int) (tu:D3):Rat->List Lg->Rat
 |s,[]=>s
 |s,x::l=>if cmpD x.f tu>=0 then s else exL b tu (s+term b tu x) l
theorem Qos:∀(l:List Lg) (a:Option D3),mLegs a l=0->∀(h:l≠[]),∀x∈l,rightD x.f/\rightD x.t/\numD x.f<=numD x.t/\numD x.t<=numD (l.getLast h).t
 |[],_,_,h=>absurd rfl h
 |
  x::l,a,h,hne=>by
  unfold mLegs at h
  split at h
  ·rename_i h1;exact absurd h h1
  rename_i h1
  obtain ⟨r1,r2,r3,r4,_,_⟩:=Qdz (by omega:mLeg a x=0)
  intro y hy
  by_cases hl:l=[]
  ·subst hl
   rw [Z113] at hy
   subst hy
   exact ⟨r1,r2,r3,Z99 _⟩
  ·rw [List.getLast_cons hl]
   have ih:=Qos l (some x.t) h hl
   rcases Z103.1 hy with rfl|hy
   ·refine ⟨r1,r2,r3,?_⟩
    obtain ⟨z,l',rfl⟩:=List.exists_cons_of_ne_nil hl
    have hz:=ih z (List.mem_cons_self ..)
    unfold mLegs at h
    split at h
    ·rename_i h2;exact absurd h h2
    rename_i h2
    have:=(Qdz (by omega:mLeg (some y.t) z=0)).2.2.2.1 y.t rfl
    rw [<-this]
    omega
   ·exact ih y hy
theorem Qi4 {y m d:Int} (h:right y m d):aheadY y+1<=num y m d/\num y m d<=aheadY (y+1):=by
 have g:=Q6 h
 have s1:=Qby g.1 ⟨g.2.1,g.2.2.1⟩
 have s2:=Qbw (y:=y) (m:=m+1) (m':=13) (by omega) (by omega)
 have s3:=Qbw (y:=y) (m:=1) (m':=m) (by omega) (by omega)
 have s4:=Qd4 y
 rw [Qed] at s3
 have h1:=h.1;have h2:=h.2
 unfold num
 omega
theorem Qgm {y k j:Int} (h:k<=j):inY y k<=inY y j:=by
 rw [Rat.le_iff_sub_nonneg,Qet]
 exact Rat.divInt_nonneg (by omega) (Int.le_of_lt (Qkc y))
theorem Qzi {a b:D3} (ha:rightD a) (hb:rightD b) (h:numD a<=numD b):yAt a.1 a.2.1 a.2.2<=yAt b.1 b.2.1 b.2.2:=by
 obtain ⟨a1,a2⟩:=Qi4 ha
 obtain ⟨b1,b2⟩:=Qi4 hb
 unfold yAt
 rcases Z84 a.1 b.1 with hy|hy|hy
 ·have i1:=Qgm (y:=a.1) (k:=numD a) (j:=aheadY (a.1+1)+1) (by unfold numD;omega)
  have i2:=Qgm (y:=b.1) (k:=aheadY b.1+1) (j:=numD b) b1
  rw [Qoa] at i1
  rw [Qo6] at i2
  have i3:((a.1+1:Int):Rat)<=(b.1:Rat):=Z80.2 (by omega)
  exact Rat.le_trans i1 (Rat.le_trans i3 i2)
 ·rw [hy]
  exact Qgm (by unfold numD at h;rw [<-hy];rw [<-hy] at h;exact h)
 ·exfalso
  have:=Qf1 (y:=b.1+1) (y':=a.1) (by omega)
  unfold numD at h
  omega
theorem Qvv {a b:D3} (ha:rightD a) (hb:rightD b) (h:numD a<=numD b):0<=Ym a.1 a.2.1 a.2.2 b.1 b.2.1 b.2.2:=by
 have ga:=Q6 ha
 have gb:=Q6 hb
 have hle:a.1<b.1\/a.1=b.1/\(a.2.1<b.2.1\/a.2.1=b.2.1/\a.2.2<=b.2.2):=by
  rcases Classical.em (b.1<a.1\/b.1=a.1/\(b.2.1<a.2.1\/b.2.1=a.2.1/\b.2.2<a.2.2)) with hh|hh
  ·have:=Qep hb ha hh
   unfold numD at h
   omega
  ·omega
 unfold Ym
 obtain ⟨a1,a2,a3⟩:=a
 obtain ⟨b1,b2,b3⟩:=b
 simp only at *
 split<;>split<;>omega
theorem Quu (b:Int) {x y:D3} (hx:rightD x) (hy:rightD y) (h:numD x<=numD y):0<=yf b x.1 x.2.1 x.2.2 y.1 y.2.1 y.2.2:=by
 unfold yf
 split
 ·exact Rat.divInt_nonneg (Qvv hx hy h) (by decide)
 ·split
  ·exact Rat.divInt_nonneg (by unfold numD at h;omega) (by decide)
  ·exact (Rat.le_iff_sub_nonneg _ _).1 (Qzi hx hy h)
theorem Qe9 {t tu:D3} (h:rightD t) (h':rightD tu):rightD (minD t tu)/\numD (minD t tu)=min (numD t) (numD tu):=by
 unfold minD
 by_cases hc:cmpD t tu<0
 ·rw [if_pos hc]
  rw [Yy h h',Wm] at hc
  exact ⟨h,by omega⟩
 ·rw [if_neg hc]
  rw [Yy h h',Wm] at hc
  exact ⟨h',by omega⟩
def okN (x:Lg):Prop:=0<=(mMoney x.op).1/\0<=(mRate x.rt).1
theorem Qw5 {b:Int} {tu:D3} {x:Lg} (hr:rightD tu) (h1:rightD x.f) (h2:rightD x.t) (h3:numD x.f<=numD x.t) (hn:okN x) (hc:¬cmpD x.f tu>=0):0<=term b tu x:=by
 obtain ⟨m1,m2⟩:=Qe9 h2 hr
 rw [Yy h1 hr,Qb7] at hc
 unfold term
 exact Z115 (Z115 (Rat.intCast_nonneg.2 hn.1) hn.2) (Quu b h1 m1 (by omega))
theorem Qlx {b:Int} {tu:D3} (hr:rightD tu):∀(l:List Lg) (s:Rat),(∀x∈l,rightD x.f/\rightD x.t/\numD x.f<=numD x.t/\okN x)->s<=exL b tu s l
 |[],s,_=>Rat.le_refl
 |
  x::l,s,h=>by
  obtain ⟨h1,h2,h3,h4⟩:=h x (List.mem_cons_self ..)
  unfold exL
  split
  ·exact Rat.le_refl
  ·rename_i hc
   refine Rat.le_trans ?_ (Qlx hr l _ λy hy=>h y (List.mem_cons_of_mem _ hy))
   have:=Qw5 (b:=b) hr h1 h2 h3 h4 hc
   generalize term b tu x=u at *
   grind
theorem Qsz {n:Nat} (h:n<18446744073709551616):wr .u64 ((BitVec.ofInt (IntKind.bits .u64) (n:Int) &&& BitVec.ofInt (IntKind.bits .u64) (1:Int)).toNat:Int)=((n%2:Nat):Int):=by
 rw [BitVec.toNat_and,Qcj h,show (1:Int)=((1:Nat):Int) from rfl,Qcj (by omega),show (1:Nat)=2^1-1 from rfl,Nat.and_two_pow_sub_one_eq_mod,Qo (by omega) (by omega)]
theorem Qro {m:Int} {low rest d:Nat} (hm:0<=m/\m<=4) (h0:rest≠0) (h1:sz low<=100000000) (h2:sz rest<=100000000):z95.F m (lb low) (lb rest) (lb d)=some (decide (upN m low rest d)):=by
 have l1:=Qk low;have l2:=Qk rest
 have l3:=Qk (rest+rest);have l4:=Qax rest rest
 unfold z95.F
 rw [Qcc (by omega)]
 simp only [Zb]
 rw [Qb3 (by omega)]
 simp only [Zb]
 have g:cmpI ((rest+rest:Nat):Int) d>=0↔d<=2*rest:=by rw [Qb7];omega
 have g':cmpI ((rest+rest:Nat):Int) d>0↔d<2*rest:=by rw [Qbd];omega
 have g'':cmpI ((rest+rest:Nat):Int) d=0↔d=2*rest:=by rw [Qa9];omega
 generalize cmpI ((rest+rest:Nat):Int) d=c at *
 unfold upN
 by_cases m1:m=1
 ·rw [bif_t m1];congr 1;symm;apply Zt;exact ⟨h0,.inl m1⟩
 rw [Qb m1]
 by_cases m2:m=2
 ·rw [bif_t m2];congr 1;apply decide_eq_decide.2;rw [g];omega
 rw [Qb m2]
 by_cases m3:m=3
 ·rw [bif_t m3];congr 1;apply decide_eq_decide.2;rw [g'];omega
 rw [Qb m3]
 by_cases m4:m=4
 ·rw [bif_t m4,Jm (by show List.length _<=_;omega)]
  simp only [Zb]
  have hlen:=Qi7 low
  by_cases hl:low=0
  ·rw [Qb (by omega)]
   by_cases c1:c>0
   ·rw [bif_t c1];congr 1;symm;apply Zt;omega
   ·have hF:∀x:Bool,(bif x then some false else some false)=some false:=λx=>by cases x<;>rfl
    rw [Qb c1,hF];congr 1;symm;apply Zf;omega
  ·rw [bif_t (by omega),if_pos (by omega)]
   have e0:(lb low).getD 0 0=((low%LB:Nat):Int):=by
    have:=Qr3 bL 0 low
    rwa [Nat.pow_zero,Nat.div_one] at this
   have e1:low%LB%2=low%2:=Nat.mod_mod_of_dvd low (by decide)
   rw [e0,Qsz (n:=low%LB) (Z79 _ (by decide)),e1]
   by_cases c1:c>0
   ·rw [bif_t c1];congr 1;symm;apply Zt;omega
   ·rw [Qb c1]
    by_cases c2:c=0
    ·rw [bif_t c2];congr 1;apply decide_eq_decide.2;omega
    ·rw [Qb c2];congr 1;symm;apply Zf;omega
 ·rw [Qb m4];congr 1;symm;apply Zf;omega
theorem Qjv (m:Int) (q:Rat):(rnd m q).natAbs=rndN m q.num.natAbs q.den/\((neg q.num=true/\rnd m q<=0)\/(neg q.num=false/\0<=rnd m q)):=by
 unfold rnd
 by_cases h:q.num<0
 ·rw [if_pos h];exact ⟨by omega,.inl ⟨Zt h,by omega⟩⟩
 ·rw [if_neg h];exact ⟨by omega,.inr ⟨Zf h,by omega⟩⟩
theorem Qm7 (m:Int):z94.F m=some (decide (0<=m/\m<=4)):=by
 unfold z94.F
 by_cases h:m>=0
 ·rw [bif_t h];congr 1;apply decide_eq_decide.2;omega
 ·rw [Qb h];congr 1;symm;apply Zf;omega
theorem Quv (b:Int):z104.F b=some (decide (0<=b/\b<=2)):=by
 unfold z104.F
 by_cases h:b>=0
 ·rw [bif_t h];congr 1;apply decide_eq_decide.2;omega
 ·rw [Qb h];congr 1;symm;apply Zf;omega
theorem Qxs {m:Int} (h:¬(0<=m/\m<=4)) (a:J0) (b:Bool) (c:J0):z96.F a b c m=some ([],false,2):=by
 unfold z96.F
 rw [Qm7,Zf h];rfl
theorem round_Whole {m:Int} {k:Nat} {q:Rat} (hm:0<=m/\m<=4) (hq:Sq k q) (hk:k<=40000000) :
  z96.F (fr q).1 (fr q).2.1 (fr q).2.2 m=some (lb (rnd m q).natAbs,neg (rnd m q),0):=by
 have q1:=hq.1;have q2:=hq.2
 have l1:=Qk q.num.natAbs
 have s1:=Q5 (Z98 q.num.natAbs q.den)
 have s2:=Q5 (Nat.mod_le q.num.natAbs q.den)
 have l2:=Qk (q.num.natAbs/q.den)
 have l3:(lb 1).length<=1:=Z11 (Qk 1) (sz_le (by decide))
 obtain ⟨a1,a2⟩:=Qjv m q
 have hj:∀b:J0,z96.j14 (lb q.num.natAbs) (neg q.num) b (lb (rndN m q.num.natAbs q.den))=some (lb (rnd m q).natAbs,neg (rnd m q),0):=λb=>by
  unfold z96.j14
  rw [Qmu]
  simp only [Zb]
  rw [Qm6,Yp (z:=rnd m q) a1.symm a2]
  rfl
 unfold z96.F
 rw [Qm7,Zt hm]
 simp only [Zb,Zn,Zc]
 rw [Qst]
 simp only [Zb]
 unfold z31.F
 simp only [Zb]
 rw [J5 q _ _ (by omega)]
 simp only [Zb]
 have hdiv:z46.F (lb q.num.natAbs) (lb q.den)=_:=Qnv q.den_pos (by omega)
 rw [hdiv]
 simp only [Zb]
 rw [Ws]
 simp only [Zb]
 by_cases hr:q.num.natAbs%q.den=0
 ·rw [Zt hr,Zn,Zc]
  have:rndN m q.num.natAbs q.den=q.num.natAbs/q.den:=by unfold rndN;rw [if_neg (λh=>h.1 hr)]
  rw [<-this];exact hj _
 ·rw [Zf hr,Zo,Zd]
  try rw [J5 q _ _ (by omega)]
  try simp only [Zb]
  rw [Qro hm hr (by omega) (by omega)]
  simp only [Zb]
  by_cases hu:upN m (q.num.natAbs/q.den) (q.num.natAbs%q.den) q.den
  ·rw [bif_t hu,Yd (by omega)]
   simp only [Zb]
   rw [show Int.toNat 1=1 from rfl,Qcc (by omega)]
   simp only [Zb]
   have:rndN m q.num.natAbs q.den=q.num.natAbs/q.den+1:=by unfold rndN;rw [if_pos hu]
   rw [<-this];exact hj _
  ·rw [Qb hu]
   have:rndN m q.num.natAbs q.den=q.num.natAbs/q.den:=by unfold rndN;rw [if_neg hu]
   rw [<-this];exact hj _
theorem Qh7 {z:Int} (h:-9223372036854775808<=z/\z<=9223372036854775808):sz z.natAbs<=20:=sz_le (by omega)
theorem count_part {n d:Int} (hn:-9223372036854775808<=n/\n<9223372036854775808) (hd:0<d/\d<9223372036854775808):z108.F n d=some (fr (Rat.divInt n d)):=by
 have s1:=Qh7 (z:=n) (by omega);have s2:=Qh7 (z:=d) (by omega)
 unfold z108.F
 rw [whole_From hn]
 simp only [Zb]
 rw [whole_From (by omega)]
 simp only [Zb]
 rw [Qgd (by omega) (by omega) (by omega)]
 rfl
theorem Qz0 {y m y' m' j k:Int} (hy:1<=y/\y<=9999) (hm:1<=m/\m<=12) (hy':1<=y'/\y'<=9999) (hm':1<=m'/\m'<=12) (hj:0<=j/\j<=31) (hk:0<=k/\k<=31) :
  wr .i64 (wr .i64 (wr .i64 (wr .i64 (360*wr .i64 (y'-y))+wr .i64 (30*wr .i64 (m'-m)))+j)-k)=360*(y'-y)+30*(m'-m)+j-k:=by
 rw [Qc (n:=y'-y) (by omega) (by omega),Qc (n:=m'-m) (by omega) (by omega),Qc (n:=360*(y'-y)) (by omega) (by omega),Qc (n:=30*(m'-m)) (by omega) (by omega),Qc (n:=360*(y'-y)+30*(m'-m)) (by omega) (by omega),Qc (n:=360*(y'-y)+30*(m'-m)+j) (by omega) (by omega),Qc (by omega) (by omega)]
theorem count_thirty {a b:D3} (ha:rightD a) (hb:rightD b):z109.F a.1 a.2.1 a.2.2 b.1 b.2.1 b.2.2=some (fr (Rat.divInt (Ym a.1 a.2.1 a.2.2 b.1 b.2.1 b.2.2) 360)):=by
 have ga:=Q6 ha
 have gb:=Q6 hb
 obtain ⟨y,m,d⟩:=a
 obtain ⟨y',m',d'⟩:=b
 simp only at ga gb ⊢
 have key:∀{j k:Int},0<=j/\j<=31->0<=k/\k<=31->Ym y m d y' m' d'=360*(y'-y)+30*(m'-m)+j-k->z108.F (wr .i64 (wr .i64 (wr .i64 (wr .i64 (360*wr .i64 (y'-y))+wr .i64 (30*wr .i64 (m'-m)))+j)-k)) 360=some (fr (Rat.divInt (Ym y m d y' m' d') 360)):=λ{j k} hj hk e=>by
  rw [Qz0 ga.1 ⟨ga.2.1,ga.2.2.1⟩ gb.1 ⟨gb.2.1,gb.2.2.1⟩ hj hk,e,count_part (by omega) (by omega)]
 unfold z109.F
 by_cases h1:d>30
 ·rw [bif_t h1]
  by_cases h2:d'>30
  ·rw [bif_t h2];unfold z109.j6
   rw [key (by omega) (by omega) (by unfold Ym;rw [if_pos (by omega),if_pos h1])];rfl
  ·rw [Qb h2];unfold z109.j6
   rw [key (by omega) (by omega) (by unfold Ym;rw [if_neg (by omega),if_pos h1])];rfl
 ·rw [Qb h1]
  by_cases h2:d'>30
  ·rw [bif_t h2]
   by_cases h3:d=30
   ·rw [bif_t h3];unfold z109.j9
    rw [key (by omega) (by omega) (by unfold Ym;rw [if_pos (by omega),if_neg h1])];rfl
   ·rw [Qb h3];unfold z109.j9
    rw [key (by omega) (by omega) (by unfold Ym;rw [if_neg (by omega),if_neg h1])];rfl
  ·rw [Qb h2];unfold z109.j9
   rw [key (by omega) (by omega) (by unfold Ym;rw [if_neg (by omega),if_neg h1])];rfl
theorem Qas {a:D3} (h:rightD a):1<=numD a/\numD a<=3652059:=Qol h
theorem Qeh {a:D3} (h:rightD a):aheadY a.1+1<=numD a/\numD a<=aheadY (a.1+1):=Qi4 h
theorem count_days {a b:D3} (ha:rightD a) (hb:rightD b):z113.F a.1 a.2.1 a.2.2 b.1 b.2.1 b.2.2=some (numD b-numD a):=by
 have b1:=Qas ha;have b2:=Qas hb
 have en1:numD a=num a.1 a.2.1 a.2.2:=rfl
 have en2:numD b=num b.1 b.2.1 b.2.2:=rfl
 unfold z113.F z112.F
 rw [date_Number,if_pos ha]
 simp only [Zb,decide_true,Zn,Zc]
 rw [date_Number,if_pos hb]
 simp only [Zb,decide_true,Zn,Zc]
 rw [Qc (by omega) (by omega)]
theorem count_year {y:Int} (hy:goodY y):z114.F y=some (ysz y):=by
 unfold z114.F ysz
 rw [date_Leap]
 simp only [Zb]
 by_cases h:leap y
 ·rw [bif_t ⟨hy,h⟩,if_pos h]
 ·rw [Qb (λe=>h e.2),if_neg h]
theorem Qq0 {y:Int} (hy:goodY y):right y 1 1:=⟨by decide,by have:=Qdp hy (m:=1) ⟨by decide,by decide⟩;omega⟩
theorem Qye {y:Int} (hy:goodY y):right y 12 31:=⟨by decide,by
 unfold dDays;rw [if_neg (by omega),if_neg (by decide),if_neg (by decide)];exact Z99 _⟩
theorem Qqx (y:Int):num y 1 1=aheadY y+1:=by unfold num;rw [Qed];omega
theorem Qq9 {y:Int} (hy:goodY y):num y 12 31=aheadY (y+1):=by
 have h1:=Qd4 y
 have h2:=Qby hy (m:=12) ⟨by decide,by decide⟩
 have h3:dDays y 12=31:=by unfold dDays;rw [if_neg (by omega),if_neg (by decide),if_neg (by decide)]
 rw [h3,show (12:Int)+1=13 from rfl] at h2
 unfold num;omega
theorem Qii (y:Int):365<=ysz y/\ysz y<=366:=by unfold ysz;split<;>omega
theorem Qcm {n d:Int} (hn:-9223372036854775808<=n/\n<=9223372036854775808) (hd:0<d/\d<10000):Sq 10 (Rat.divInt n d):=
 Sq.div hd.1 (Z11 (Qh7 hn) (by decide)) (Z11 (sz_le (k:=4) (by omega)) (by decide))
theorem count_actual {a b:D3} (ha:rightD a) (hb:rightD b) (h:numD a<=numD b):z116.F a.1 a.2.1 a.2.2 b.1 b.2.1 b.2.2=some (fr (yAt b.1 b.2.1 b.2.2-yAt a.1 a.2.1 a.2.2)):=by
 have ga:=Q6 ha
 have gb:=Q6 hb
 have b1:=Qas ha;have b2:=Qas hb
 have en1:numD a=num a.1 a.2.1 a.2.2:=rfl
 have en2:numD b=num b.1 b.2.1 b.2.2:=rfl
 have y1:=Qeh ha;have y2:=Qeh hb
 have z1:=Qii a.1;have z2:=Qii b.1
 unfold z116.F
 by_cases hy:a.1=b.1
 ·rw [bif_t hy,count_days ha hb]
  simp only [Zb]
  rw [count_year ga.1]
  simp only [Zb]
  rw [count_part (by omega) (by omega)]
  have:yAt b.1 b.2.1 b.2.2-yAt a.1 a.2.1 a.2.2=Rat.divInt (numD b-numD a) (ysz a.1):=by
   show inY b.1 (numD b)-inY a.1 (numD a)=_
   rw [<-hy,Qet]
  rw [this];rfl
 ·rw [Qb hy]
  have hlt:a.1<b.1:=by
   rcases Z84 a.1 b.1 with h1|h1|h1
   ·exact h1
   ·exact (hy h1).elim
   ·have:=Qf1 (y:=b.1+1) (y':=a.1) (by omega)
    unfold numD at h;omega
  have hdl:rightD (a.1,12,31):=Qye ga.1
  have hdf:rightD (b.1,1,1):=Qq0 gb.1
  have d1:=count_days ha hdl
  have d2:=count_days hdf hb
  simp only at d1 d2
  rw [d1]
  simp only [Zb]
  rw [d2]
  simp only [Zb]
  rw [count_year ga.1]
  simp only [Zb]
  have n1:numD (a.1,12,31)=aheadY (a.1+1):=Qq9 ga.1
  have n2:numD (b.1,1,1)=aheadY b.1+1:=Qqx b.1
  rw [n1,n2]
  have m1:=Qcz (y:=a.1+1) (by omega)
  have m2:=Qcz (y:=b.1) (by omega)
  rw [Qc (n:=aheadY (a.1+1)-numD a+1) (by omega) (by omega),Qc (n:=b.1-a.1) (by omega) (by omega),Qc (n:=b.1-a.1-1) (by omega) (by omega),count_part (by omega) (by omega)]
  simp only [Zb]
  rw [count_part (by omega) (by omega)]
  simp only [Zb]
  have s1:=Qcm (n:=aheadY (a.1+1)-numD a+1) (d:=ysz a.1) (by omega) (by omega)
  have s2:=Qcm (n:=b.1-a.1-1) (d:=1) (by omega) (by omega)
  have s3:=Qcm (n:=numD b-(aheadY b.1+1)) (d:=ysz b.1) (by omega) (by omega)
  rw [Qis s1 s2 (by decide)]
  simp only [Zb]
  rw [count_year gb.1]
  simp only [Zb]
  rw [count_part (by omega) (by omega)]
  simp only [Zb]
  rw [Qis (s1.add s2) s3 (by decide)]
  have e1:=Qet a.1 (aheadY (a.1+1)+1) (numD a)
  have e3:=Qet b.1 (numD b) (aheadY b.1+1)
  rw [Qoa,show aheadY (a.1+1)+1-numD a=aheadY (a.1+1)-numD a+1 by omega] at e1
  rw [Qo6] at e3
  have e2:Rat.divInt (b.1-a.1-1) 1=(b.1:Rat)-((a.1+1:Int):Rat):=by
   rw [Z95,show ((1:Int):Rat)=1 from rfl,show b.1-a.1-1=b.1-(a.1+1) by omega,Rat.intCast_sub]
   grind
  have:Rat.divInt (aheadY (a.1+1)-numD a+1) (ysz a.1)+Rat.divInt (b.1-a.1-1) 1+Rat.divInt (numD b-(aheadY b.1+1)) (ysz b.1)=yAt b.1 b.2.1 b.2.2-yAt a.1 a.2.1 a.2.2:=by
   rw [<-e1,<-e3,e2]
   unfold yAt
   show _=inY b.1 (numD b)-inY a.1 (numD a)
   grind
  rw [this];rfl
theorem count_Year {bs:Int} {a b:D3} (hbs:0<=bs/\bs<=2) (ha:rightD a) (hb:rightD b) (h:numD a<=numD b) :
  z117.F bs a.1 a.2.1 a.2.2 b.1 b.2.1 b.2.2=some ((fr (yf bs a.1 a.2.1 a.2.2 b.1 b.2.1 b.2.2)).1,(fr (yf bs a.1 a.2.1 a.2.2 b.1 b.2.1 b.2.2)).2.1,(fr (yf bs a.1 a.2.1 a.2.2 b.1 b.2.1 b.2.2)).2.2,0):=by
 have b1:=Qas ha;have b2:=Qas hb
 have en1:numD a=num a.1 a.2.1 a.2.2:=rfl
 have en2:numD b=num b.1 b.2.1 b.2.2:=rfl
 unfold z117.F
 rw [Quv,Zt hbs]
 simp only [Zb,Zn,Zc]
 rw [date_Check,if_pos ha]
 simp only [Zb,decide_true,Zn,Zc]
 rw [date_Check,if_pos hb]
 simp only [Zb,decide_true,Zn]
 unfold z117.j4
 rw [Zc,date_Cmp]
 simp only [Zb]
 have hc:=Yy ha hb
 rw [show dcmp a.1 a.2.1 a.2.2 b.1 b.2.1 b.2.2=cmpD a b from rfl,hc,Qb (by rw [Qbd];omega)]
 unfold yf
 by_cases h0:bs=0
 ·rw [bif_t h0,if_pos h0,count_thirty ha hb];rfl
 ·rw [Qb h0,if_neg h0]
  by_cases h1:bs=1
  ·rw [bif_t h1,if_pos h1,count_days ha hb]
   simp only [Zb]
   rw [count_part (by omega) (by omega)];rfl
  ·rw [Qb h1,if_neg h1,count_actual ha hb h];rfl
theorem Qog (y k:Int) (hy:goodY y) (hk:-9223372036854775808<=k-aheadY y-1/\k-aheadY y-1<=9223372036854775808):Sq 15 (inY y k):=by
 unfold inY
 have z:=Qii y
 have s1:=Qcm (n:=k-aheadY y-1) (d:=ysz y) hk (by omega)
 have s2:Sq 4 (y:Rat):=Sq.int (Z11 (sz_le (k:=4) (by omega)) (by decide)) (by decide)
 exact s2.add s1
theorem Qgs (bs:Int) {a b:D3} (ha:rightD a) (hb:rightD b):Sq 32 (yf bs a.1 a.2.1 a.2.2 b.1 b.2.1 b.2.2):=by
 have ga:=Q6 ha;have gb:=Q6 hb
 have b1:=Qas ha;have b2:=Qas hb
 have en1:numD a=num a.1 a.2.1 a.2.2:=rfl
 have en2:numD b=num b.1 b.2.1 b.2.2:=rfl
 have y1:=Qeh ha;have y2:=Qeh hb
 have m1:=Qcz (y:=a.1) (by omega)
 have m2:=Qcz (y:=b.1) (by omega)
 unfold yf
 split
 ·refine (Qcm ?_ ?_).mono (by decide)
  ·unfold Ym;split<;>split<;>omega
  ·omega
 ·split
  ·exact (Qcm (by omega) (by omega)).mono (by decide)
  ·unfold yAt
   rw [Rat.sub_eq_add_neg]
   exact (((Qog b.1 _ gb.1 (by omega)).add (Qog a.1 _ ga.1 (by omega)).neg)).mono (by decide)
abbrev lgT (x:Lg) (i:Int):Int×Int×Int×Int×Int×Int×J1×J1×Int:=(x.f.1,x.f.2.1,x.f.2.2,x.t.1,x.t.2.1,x.t.2.2,x.op,x.rt,i)
theorem Qma {α:Type} (a b:D3) (x y:α):(bif (!(decide (a.1=b.1)&&(decide (a.2.1=b.2.1)&&decide (a.2.2=b.2.2)))) then x else y)=if a=b then y else x:=by
 by_cases h:a=b
 ·subst h;simp
 ·rw [if_neg h]
  have:¬(a.1=b.1/\a.2.1=b.2.1/\a.2.2=b.2.2):=λe=>h (by
   obtain ⟨a1,a2,a3⟩:=a
   obtain ⟨b1,b2,b3⟩:=b
   obtain ⟨rfl,rfl,rfl⟩:=e;rfl)
  by_cases h1:a.1=b.1
  ·by_cases h2:a.2.1=b.2.1
   ·have h3:¬a.2.2=b.2.2:=λe=>this ⟨h1,h2,e⟩
    rw [Zt h1,Zt h2,Zf h3];rfl
   ·rw [Zt h1,Zf h2];rfl
  ·rw [Zf h1];rfl
theorem Qc7 (d:D3) (x:Lg):mLeg (some d) x=if ¬(rightD x.f/\rightD x.t) then 11 else if cmpD x.f x.t>0 then 12 else if x.f=d then (if (mMoney x.op).2≠0 then (mMoney x.op).2 else (mRate x.rt).2) else 12:=by
 unfold mLeg
 split
 ·rfl
 ·by_cases h:cmpD x.f x.t>0
  ·rw [if_pos (.inl h),if_pos h]
  ·rw [if_neg h]
   by_cases h':x.f=d
   ·rw [if_pos h',if_neg (λe=>e.elim h (by simp [h']))]
   ·rw [if_neg h',if_pos (.inr (by simp [h']))]
theorem Qfj (x:Lg):mLeg none x=if ¬(rightD x.f/\rightD x.t) then 11 else if cmpD x.f x.t>0 then 12 else (if (mMoney x.op).2≠0 then (mMoney x.op).2 else (mRate x.rt).2):=by
 unfold mLeg
 split
 ·rfl
 ·by_cases h:cmpD x.f x.t>0
  ·rw [if_pos (.inl h),if_pos h]
  ·rw [if_neg h,if_neg (λe=>e.elim h (by simp))]
theorem Qla {R:Type} {l:List Lg} {i:Nat} (hi:i<l.length) (hl:l.length<=1000000000) (a:Lg) (rec:(Int×Int×Int×Int×Int×Int×J1×J1×Int)->Option R) (done:((Int×Int×Int×Int×Int×Int×J1×J1×Int)⊕(Int))->Option R) :
  z103.l0P (l.map lgv) (l.map lgv) (l.length:Int) rec done (lgT a i)=if mLeg (some a.t) l[i]≠0 then done (.inr (mLeg (some a.t) l[i])) else rec (lgT l[i] ((i+1:Nat):Int)):=by
 have ek:wr .i64 ((i:Int)+1)=((i+1:Nat):Int):=by rw [Qc (by omega) (by omega)];rfl
 have hb:(0:Int)<=(i:Int)/\(i:Int)<((l.map lgv).length:Int):=by rw [Z13];omega
 have hj2:z103.j1026a rec done l[i].op i (l.map lgv) l[i].rt=bif !decide ((mMoney l[i].op).2=0) then done (.inr (mMoney l[i].op).2) else bif !decide ((mRate l[i].rt).2=0) then done (.inr (mRate l[i].rt).2) else rec (lgT l[i] ((i+1:Nat):Int)):=by
  unfold z103.j1026a
  rw [terms_Money]
  simp only [Zb]
  by_cases h:(mMoney l[i].op).2=0
  ·rw [Zt h,Zn,Zc,Zc,terms_Rate]
   simp only [Zb]
   rw [if_pos hb,Zi]
   simp only [Qal lgv hi,asL0,asL1,asL2,asL3,asL4,asL5,asL6,asL7,ek]
  ·rw [Zf h,Zo,Zd,Zd,Zd]
 have hj:∀b:Bool,z103.j1024a rec done b l[i].f.1 l[i].f.2.1 l[i].f.2.2 l[i].t.1 l[i].t.2.1 l[i].t.2.2 a.t.1 a.t.2.1 a.t.2.2 l[i].op i (l.map lgv) l[i].rt=bif b then done (.inr 11) else bif decide (cmpD l[i].f l[i].t>0) then done (.inr 12) else if l[i].f=a.t then z103.j1026a rec done l[i].op i (l.map lgv) l[i].rt else done (.inr 12):=λb=>by
  unfold z103.j1024a
  cases b with
  |true=>rfl
  |
   false=>
   rw [Zc,Zc,date_Cmp]
   simp only [Zb]
   rw [Qma l[i].f a.t]
 unfold z103.l0P
 simp only
 rw [bif_t (by omega),if_pos hb,Zi]
 simp only [Qal lgv hi,asL0,asL1,asL2,asL3,asL4,asL5,asL6,asL7]
 rw [date_Check]
 simp only [Zb]
 by_cases h1:rightD l[i].f
 ·rw [if_pos h1,Zt rfl,Zn,Zc,date_Check]
  simp only [Zb]
  by_cases h2:rightD l[i].t
  ·rw [if_pos h2,Zt rfl,Zn,hj,Zc]
   by_cases h3:cmpD l[i].f l[i].t>0
   ·have hm:mLeg (some a.t) l[i]=12:=by rw [Qc7,if_neg (λe=>e ⟨h1,h2⟩),if_pos h3]
    rw [bif_t h3,hm];rfl
   ·rw [Qb h3]
    by_cases h4:l[i].f=a.t
    ·have hm:mLeg (some a.t) l[i]=if (mMoney l[i].op).2≠0 then (mMoney l[i].op).2 else (mRate l[i].rt).2:=by rw [Qc7,if_neg (λe=>e ⟨h1,h2⟩),if_neg h3,if_pos h4]
     rw [if_pos h4,hj2,hm]
     by_cases h5:(mMoney l[i].op).2=0
     ·rw [Zt h5,Zn,Zc,if_neg (show ¬((mMoney l[i].op).2≠0) from λe=>e h5)]
      by_cases h6:(mRate l[i].rt).2=0
      ·rw [Zt h6,Zn,Zc,if_neg (λe=>e h6)]
      ·rw [Zf h6,Zo,Zd,if_pos h6]
     ·rw [Zf h5,Zo,Zd,if_pos (show (mMoney l[i].op).2≠0 from h5),if_pos h5]
    ·have hm:mLeg (some a.t) l[i]=12:=by rw [Qc7,if_neg (λe=>e ⟨h1,h2⟩),if_neg h3,if_neg h4]
     rw [if_neg h4,hm];rfl
  ·have hm:mLeg (some a.t) l[i]=11:=by rw [Qc7,if_pos (λe=>h2 e.2)]
   rw [if_neg h2,Zf (by decide),Zo,hj,Zd,hm];rfl
 ·have hm:mLeg (some a.t) l[i]=11:=by rw [Qc7,if_pos (λe=>h1 e.1)]
  rw [if_neg h1,Zf (by decide),Zo,Zd,hj,Zd,hm];rfl
theorem Qnr {l:List Lg} (hl:l.length<=1000000000):∀(f i:Nat) (a:Lg),i+f=l.length->∃o,Runs (λrec x=>z103.l0P (l.map lgv) (l.map lgv) (l.length:Int) rec some x) (lgT a i) o/\(match o with | .inl _=>(0:Int) | .inr e=>e)=mLegs (some a.t) (l.drop i)
 |
  0,i,a,hf=>by
  refine ⟨.inl (lgT a i),.done λrec=>?_,?_⟩
  ·unfold z103.l0P
   simp only
   rw [Qb (by omega)]
  ·rw [Z26 (by omega)];rfl
 |
  f+1,i,a,hf=>by
  have hi:i<l.length:=by omega
  rw [Z30 hi]
  by_cases h:mLeg (some a.t) l[i]≠0
  ·refine ⟨.inr (mLeg (some a.t) l[i]),.done λrec=>?_,?_⟩
   ·rw [Qla hi hl,if_pos h]
   ·unfold mLegs;rw [if_pos h]
  ·obtain ⟨o,r1,r2⟩:=Qnr hl f (i+1) l[i] (by omega)
   refine ⟨o,.step (λrec=>?_) r1,?_⟩
   ·rw [Qla hi hl,if_neg h]
   ·unfold mLegs;rw [if_neg h];exact r2
theorem accrue_Check {l:List Lg} (hl:l.length<=1000000000):z103.F (l.map lgv)=some (mLegs none l):=by
 cases l with
 |nil=>rfl
 |
  cons x l=>
  have hi:0<(x::l).length:=by simp
  have hb:(0:Int)<=0/\(0:Int)<(((x::l).map lgv).length:Int):=by rw [Z13];simp only [Z9];omega
  obtain ⟨o,r1,r2⟩:=Qnr hl l.length 1 x (by simp only [Z9];omega)
  have e1:z103.l0 ((x::l).map lgv) ((x::l).map lgv) ((x::l).length:Int) (x.f.1,x.f.2.1,x.f.2.2,x.t.1,x.t.2.1,x.t.2.2,x.op,x.rt,(1:Int))=some o:=r1.lfp
  have e2:z103.l0a ((x::l).map lgv) ((x::l).map lgv) ((x::l).length:Int) (x.f.1,x.f.2.1,x.f.2.2,x.t.1,x.t.2.1,x.t.2.2,x.op,x.rt,(1:Int))=some o:=r1.lfp
  have g0:((x::l).map lgv).getD 0 []=lgv x:=rfl
  have hj2:z103.j13 x.op ((x::l).map lgv) x.rt=bif !decide ((mMoney x.op).2=0) then some (mMoney x.op).2 else bif !decide ((mRate x.rt).2=0) then some (mRate x.rt).2 else some (mLegs (some x.t) l):=by
   unfold z103.j13
   rw [terms_Money]
   simp only [Zb]
   by_cases h:(mMoney x.op).2=0
   ·rw [Zt h,Zn,Zc,Zc,terms_Rate]
    simp only [Zb]
    rw [if_pos hb]
    simp only [g0,asL0,asL1,asL2,asL3,asL4,asL5,asL6,asL7]
    rw [Z13,e2]
    simp only [Zb]
    rw [List.drop_one,List.tail_cons] at r2
    rw [<-r2]
    cases o<;>rfl
   ·rw [Zf h,Zo,Zd,Zd,Zd]
  have hj:∀b:Bool,z103.j11 b x.f.1 x.f.2.1 x.f.2.2 x.t.1 x.t.2.1 x.t.2.2 x.op ((x::l).map lgv) x.rt=bif b then some 11 else bif decide (cmpD x.f x.t>0) then some 12 else z103.j13 x.op ((x::l).map lgv) x.rt:=λb=>by
   unfold z103.j11
   cases b with
   |true=>rfl
   |
    false=>
    rw [Zc,Zc,date_Cmp]
    simp only [Zb]
  have em:mLegs none (x::l)=if mLeg none x≠0 then mLeg none x else mLegs (some x.t) l:=rfl
  unfold z103.F
  rw [bif_t hb.2,if_pos hb]
  simp only [g0,asL0,asL1,asL2,asL3,asL4,asL5,asL6,asL7]
  rw [date_Check]
  simp only [Zb]
  rw [em]
  by_cases h1:rightD x.f
  ·rw [if_pos h1,Zt rfl,Zn,Zc,date_Check]
   simp only [Zb]
   by_cases h2:rightD x.t
   ·rw [if_pos h2,Zt rfl,Zn,hj,Zc]
    by_cases h3:cmpD x.f x.t>0
    ·have hm:mLeg none x=12:=by rw [Qfj,if_neg (λe=>e ⟨h1,h2⟩),if_pos h3]
     rw [bif_t h3,hm];rfl
    ·have hm:mLeg none x=if (mMoney x.op).2≠0 then (mMoney x.op).2 else (mRate x.rt).2:=by rw [Qfj,if_neg (λe=>e ⟨h1,h2⟩),if_neg h3]
     rw [Qb h3,hj2,hm]
     by_cases h5:(mMoney x.op).2=0
     ·rw [Zt h5,Zn,Zc,if_neg (show ¬((mMoney x.op).2≠0) from λe=>e h5)]
      by_cases h6:(mRate x.rt).2=0
      ·rw [Zt h6,Zn,Zc,if_neg (λe=>e h6)]
      ·rw [Zf h6,Zo,Zd,if_pos h6]
     ·rw [Zf h5,Zo,Zd,if_pos (show (mMoney x.op).2≠0 from h5),if_pos h5]
   ·have hm:mLeg none x=11:=by rw [Qfj,if_pos (λe=>h2 e.2)]
    rw [if_neg h2,Zf (by decide),Zo,hj,Zd,hm];rfl
  ·have hm:mLeg none x=11:=by rw [Qfj,if_pos (λe=>h1 e.1)]
   rw [if_neg h1,Zf (by decide),Zo,Zd,hj,Zd,hm];rfl
def okL (l:List Lg):Prop:=∀x∈l,rightD x.f/\rightD x.t/\numD x.f<=numD x.t
theorem Qfh {l:List Lg} {a:Option D3} (h:mLegs a l=0):okL l:=λx hx=>by
 have:=Qos l a h (List.ne_nil_of_mem hx) x hx
 exact ⟨this.1,this.2.1,this.2.2.1⟩
theorem Qeq (s:J1):Sq 16 ((mMoney s).1:Rat):=Sq.int (Z11 (Qgq s) (by decide)) (by decide)
theorem Qbs (s:J1):Sq 100 (mRate s).1:=⟨Z11 (Qgk s).1 (by decide),(Qgk s).2⟩
theorem Qg7 {b:Int} {tu:D3} {x:Lg} (h1:rightD x.f) (h2:rightD x.t) (hr:rightD tu):Sq 148 (term b tu x):=
 ((Qeq x.op).mul (Qbs x.rt)).mul (Qgs b h1 (Qe9 h2 hr).1)
theorem Qu7 {tu:D3} {x:Lg} (h1:rightD x.f) (h2:rightD x.t) (h3:numD x.f<=numD x.t) (hr:rightD tu) (hc:¬cmpD x.f tu>=0):numD x.f<=numD (minD x.t tu):=by
 rw [Yy h1 hr,Qb7] at hc
 rw [(Qe9 h2 hr).2];omega
theorem Qnu {l:List Lg} {b:Int} {tu:D3} (hb:0<=b/\b<=2) (hr:rightD tu) (hk:okL l) (hl:l.length<=20000):∀(f i:Nat) (s:Rat),i+f=l.length->Sq (1+149*i) s ->
  ∃t,Runs (λrec x=>z119.l0P b (l.map lgv) (l.length:Int) tu.1 tu.2.1 tu.2.2 rec some x) ((i:Int),(fr s).1,(fr s).2.1,(fr s).2.2) (t,(fr (exL b tu s (l.drop i))).1,(fr (exL b tu s (l.drop i))).2.1,(fr (exL b tu s (l.drop i))).2.2)
 |
  0,i,s,hf,hs=>by
  refine ⟨(i:Int),.done λrec=>?_⟩
  rw [Z26 (by omega)]
  unfold z119.l0P
  simp only
  rw [Qb (by omega)];rfl
 |
  f+1,i,s,hf,hs=>by
  have hi:i<l.length:=by omega
  obtain ⟨h1,h2,h3⟩:=hk l[i] (Z15 hi)
  have ek:wr .i64 ((i:Int)+1)=((i+1:Nat):Int):=by rw [Qc (by omega) (by omega)];rfl
  rw [Z30 hi]
  have hd:∀{R:Type} (rec done:(Int×J0×Bool×J0)->Option R),z119.l0P b (l.map lgv) (l.length:Int) tu.1 tu.2.1 tu.2.2 rec done ((i:Int),(fr s).1,(fr s).2.1,(fr s).2.2) =
    bif decide (cmpD l[i].f tu>=0) then done ((i:Int),(fr s).1,(fr s).2.1,(fr s).2.2) else rec (((i+1:Nat):Int),(fr (s+term b tu l[i])).1,(fr (s+term b tu l[i])).2.1,(fr (s+term b tu l[i])).2.2):=λrec done=>by
   unfold z119.l0P
   simp only
   rw [bif_t (by omega),if_pos (by rw [Z13];omega),Zi]
   simp only [Qal lgv hi,asL0,asL1,asL2,asL3,asL4,asL5,asL6,asL7]
   rw [date_Cmp]
   simp only [Zb]
   by_cases hc:cmpD l[i].f tu>=0
   ·rw [bif_t hc,bif_t hc]
   ·rw [Qb hc,Qb hc,terms_Money]
    simp only [Zb]
    rw [terms_Rate]
    simp only [Zb]
    have he:z118.F l[i].t.1 l[i].t.2.1 l[i].t.2.2 tu.1 tu.2.1 tu.2.2=some (minD l[i].t tu):=by
     unfold z118.F minD
     rw [date_Cmp]
     simp only [Zb]
     by_cases h:cmpD l[i].t tu<0
     ·rw [bif_t h,if_pos h]
     ·rw [Qb h,if_neg h]
    rw [he]
    simp only [Zb]
    obtain ⟨m1,m2⟩:=Qe9 h2 hr
    rw [count_Year hb h1 m1 (Qu7 h1 h2 h3 hr hc)]
    simp only [Zb]
    rw [frac_From]
    simp only [Zb]
    rw [Qh1 (Qeq _) (Qbs _) (by decide)]
    simp only [Zb]
    rw [Qh1 ((Qeq _).mul (Qbs _)) (Qgs b h1 m1) (by decide)]
    simp only [Zb]
    rw [Qis hs (((Qeq _).mul (Qbs _)).mul (Qgs b h1 m1)) (by omega)]
    simp only [Zb]
    rw [ek]
    rfl
  by_cases hc:cmpD l[i].f tu>=0
  ·refine ⟨(i:Int),.done λrec=>?_⟩
   rw [hd,bif_t hc]
   unfold exL;rw [if_pos hc]
  ·obtain ⟨t,r1⟩:=Qnu hb hr hk hl f (i+1) (s+term b tu l[i]) (by omega) ((hs.add (Qg7 h1 h2 hr)).mono (by omega))
   refine ⟨t,?_⟩
   have e:exL b tu s (l[i]::l.drop (i+1))=exL b tu (s+term b tu l[i]) (l.drop (i+1)):=by
    rw [exL,if_neg hc]
   rw [e]
   exact .step (λrec=>by rw [hd,Qb hc]) r1
theorem Qi9 {b:Int} {tu:D3} (hr:rightD tu):∀(l:List Lg) (s:Rat) (k:Nat),okL l->Sq k s->Sq (k+149*l.length) (exL b tu s l)
 |[],s,k,_,hs=>hs
 |
  x::l,s,k,hk,hs=>by
  have hk':okL l:=λy hy=>hk y (List.mem_cons_of_mem _ hy)
  obtain ⟨h1,h2,h3⟩:=hk x (List.mem_cons_self ..)
  unfold exL
  split
  ·exact hs.mono (by omega)
  ·have:=Qi9 (b:=b) hr l (s+term b tu x) (k+148+1) hk' (hs.add (Qg7 h1 h2 hr))
   exact this.mono (by simp only [Z9];omega)
theorem Quj:fr 0=([],false,[]):=Qoo
theorem accrue_exact {l:List Lg} {b:Int} {tu:D3} (hb:0<=b/\b<=2) (hr:rightD tu) (hk:okL l) (hl:l.length<=20000):z119.F b (l.map lgv) tu.1 tu.2.1 tu.2.2=some (fr (exL b tu 0 l)):=by
 obtain ⟨t,r⟩:=Qnu hb hr hk hl l.length 0 0 (by omega) (Sq.zero (by decide))
 rw [Z34] at r
 have e:z119.l0 b (l.map lgv) (l.length:Int) tu.1 tu.2.1 tu.2.2 ((0:Int),[],false,[])=some (t,(fr (exL b tu 0 l)).1,(fr (exL b tu 0 l)).2.1,(fr (exL b tu 0 l)).2.2):=by
  have h:=r.lfp
  rw [Quj] at h
  exact h
 unfold z119.F
 rw [Z13,e]
 rfl
def mExact (b:Int) (l:List Lg) (tu:D3):Int:=if mLegs none l≠0 then mLegs none l else if ¬rightD tu then 11 else if ¬(0<=b/\b<=2) then 2 else 0
theorem accrue_good (b:Int):z107.F b=some (decide (0<=b/\b<=2)):=by
 obtain ⟨w,e,hw⟩:=Qpa b
 unfold z107.F
 rw [e]
 simp only [Zb]
 rw [hw]
 congr 1
 by_cases h:0<=b/\b<=2
 ·rw [Zf (λe=>e h),Zt h];rfl
 ·rw [Zt h,Zf h];rfl
theorem accrue_Exact {l:List Lg} {b:Int} {tu:D3} (hl:l.length<=20000):z120.F b (l.map lgv) tu.1 tu.2.1 tu.2.2 =
  some (if mExact b l tu=0 then ((fr (exL b tu 0 l)).1,(fr (exL b tu 0 l)).2.1,(fr (exL b tu 0 l)).2.2,0) else ([],false,[],mExact b l tu)):=by
 unfold z120.F mExact
 rw [accrue_Check (by omega)]
 simp only [Zb]
 by_cases h:mLegs none l=0
 ·rw [Zt h,Zn,Zc,date_Check,if_neg (show ¬(mLegs none l≠0) from λe=>e h)]
  simp only [Zb]
  by_cases h2:rightD tu
  ·rw [if_pos h2,Zt rfl,Zn,Zc,accrue_good,if_neg (show ¬¬rightD tu from λe=>e h2)]
   simp only [Zb]
   by_cases h3:0<=b/\b<=2
   ·rw [Zt h3,Zn,Zc,accrue_exact h3 h2 (Qfh h) hl,if_neg (show ¬¬(0<=b/\b<=2) from λe=>e h3)]
    rfl
   ·rw [Zf h3,Zo,Zd,if_pos (show ¬(0<=b/\b<=2) from h3)]
    rfl
  ·rw [if_neg h2,Zf (by decide),Zo,Zd,if_pos (show ¬rightD tu from h2)]
   rfl
 ·rw [Zf h,Zo,Zd,if_pos (show mLegs none l≠0 from h),if_neg h]
theorem Qu9 {b:Int} {tu:D3} (hr:rightD tu) {l:List Lg} (hk:okL l) (hl:l.length<=20000):Sq 4000000 (exL b tu 0 l):=
 (Qi9 hr l 0 1 hk (Sq.zero (by decide))).mono (by omega)
theorem accrue_Posted {l:List Lg} {b m:Int} {tu:D3} (hl:l.length<=20000):z121.F b m (l.map lgv) tu.1 tu.2.1 tu.2.2 =
  some (if mExact b l tu=0 then (if 0<=m/\m<=4 then (lb (rnd m (exL b tu 0 l)).natAbs,neg (rnd m (exL b tu 0 l)),0) else ([],false,2)) else ([],false,mExact b l tu)):=by
 unfold z121.F
 rw [accrue_Exact hl]
 simp only [Zb]
 by_cases h:mExact b l tu=0
 ·rw [if_pos h,if_pos h]
  simp only
  have hx:=h
  unfold mExact at hx
  have hg:mLegs none l=0:=by
   by_cases hh:mLegs none l=0
   ·exact hh
   ·rw [if_pos hh] at hx;exact hx
  rw [if_neg (λe=>e hg)] at hx
  have hr:rightD tu:=by
   by_cases hh:rightD tu
   ·exact hh
   ·rw [if_pos hh] at hx;simp at hx
  simp only [decide_true,Zn,Zc]
  by_cases hm:0<=m/\m<=4
  ·rw [if_pos hm,round_Whole hm (Qu9 hr (Qfh hg) hl) (by decide)];rfl
  ·rw [if_neg hm,Qxs hm];rfl
 ·rw [if_neg h,if_neg h]
  simp only
  rw [Zf h,Zo,Zd]
open Classical in
theorem Qik (m:Int) {q:Rat} {k:Nat} (h:Sq k q):sz (rnd m q).natAbs<=2*k+2:=by
 obtain ⟨a1,_⟩:=Qjv m q
 rw [a1]
 have h1:rndN m q.num.natAbs q.den<=q.num.natAbs+1:=by
  have:=Z98 q.num.natAbs q.den
  unfold rndN
  split<;>omega
 have h2:=Q5 h1
 have h3:=Qax q.num.natAbs 1
 have h4:sz 1<=1:=sz_le (by decide)
 have:=h.1
 omega
theorem Qxw {l:List Lg} {b:Int} {tu:D3} (hb:0<=b/\b<=2) (hr:rightD tu) (hg:mLegs none l=0):mExact b l tu=0:=by
 unfold mExact
 rw [if_neg (λe=>e hg),if_neg (λe=>e hr),if_neg (λe=>e hb)]
theorem Qr8 {n:Nat} (hl:(lb n).length<=100000000):∃b:Int,z90.F (lb n)=some b/\0<=b/\b<=64*((lb n).length:Int):=by
 unfold z90.F
 rw [Ws,Zb]
 by_cases h:n=0
 ·rw [Zt h,Zd]
  exact ⟨0,rfl,Z99 _,by omega⟩
 ·rw [Zf h,Zc]
  have h0:0<(lb n).length:=by
   rcases Z12 (lb n).length with e|e
   ·exact absurd ((Qi7 n).1 (by omega)) h
   ·exact e
  have hw:wr .i64 ((((lb n).length:Nat):Int)-1)=(((lb n).length-1:Nat):Int):=by rw [Qc (by omega) (by omega)];omega
  rw [hw,if_pos (by omega),Zi]
  obtain ⟨x,hx,hx2⟩:=limb (Q3 bL n) ((lb n).length-1)
  have hx':(lb n).getD ((lb n).length-1) 0=(x:Int):=hx
  have hpos:0<x:=by
   rcases Z12 x with e|e
   ·exfalso
    have hne:lb n≠[]:=λe=>by rw [e] at h0;exact absurd h0 (by decide)
    have ht:(lb n).getLast hne≠0:=Qgn bL n hne
    rw [List.getLast_eq_getElem] at ht
    rw [e] at hx'
    apply ht
    have:(lb n)[(lb n).length-1]'(by omega)=(lb n).getD ((lb n).length-1) 0:=by rw [Zl,Z1 (by omega)];rfl
    rw [this,hx'];rfl
   ·exact e
  obtain ⟨k,h1,_,_,h4⟩:=bits_Len64 hpos hx2
  rw [hx',h4,Zb]
  rw [Qc (n:=64*(((lb n).length-1:Nat):Int)) (by omega) (by omega),Qc (by omega) (by omega)]
  exact ⟨_,rfl,by omega,by omega⟩
theorem digits_Pow {n t:Nat} (ht:t<=1200) (h:64*(lb n).length*t<=262144) (hs:sz n<=100000):z91.F (lb n) (t:Int)=some (lb (n^t),0):=by
 have l1:=Qk n
 obtain ⟨b,hb,h1,h2⟩:=Qr8 (n:=n) (by omega)
 unfold z91.F
 rw [Qb (by omega),Qb (by omega),hb,Zb]
 have hm:b*(t:Int)<=((64*(lb n).length*t:Nat):Int):=by
  rw [Z14]
  exact Z62 (by omega) (by omega)
 have hm0:0<=b*(t:Int):=Z42 h1 (by omega)
 have hp:t*sz n<=700000000:=Z11 (Z118 ht hs) (by decide)
 rw [Qc (by omega) (by omega),Qb (by omega),digits_power (by omega) hp]
 rfl
def lvl (a r:Rat) (n:Nat):Rat:=if r=0 then a/(n:Rat) else a*r*(1+r)^n/((1+r)^n-1)
theorem Qmx (u v:Rat) (hv:v≠0):∀n:Nat,v^n≠0/\(u/v)^n=u^n/v^n
 |0=>by rw [Rat.pow_zero,Rat.pow_zero,Rat.pow_zero];exact ⟨by decide,by grind⟩
 |
  n+1=>by
  obtain ⟨h1,h2⟩:=Qmx u v hv n
  have h3:v^n*v≠0:=by
   intro e
   rcases Rat.mul_eq_zero.1 e with e|e
   ·exact h1 e
   ·exact hv e
  rw [Rat.pow_succ,Rat.pow_succ,Rat.pow_succ,h2]
  exact ⟨h3,by grind⟩
theorem Qsa (an rn ad rd U W:Rat) (h1:ad≠0) (h2:rd≠0) (h3:W≠0) (h4:U-W≠0):(an*rn*U)/(ad*rd*(U-W))=(an/ad)*(rn/rd)*(U/W)/(U/W-1):=by
 have h5:U/W-1≠0:=by
  intro h
  apply h4
  have:U/W*W=U:=Rat.div_mul_cancel h3
  grind
 grind
theorem Qer (u:Nat):∀n:Nat,((u^n:Nat):Rat)=(u:Rat)^n
 |0=>by rw [Nat.pow_zero,Rat.pow_zero];rfl
 |n+1=>by rw [Z44,Rat.pow_succ,<-Qer u n,Rat.natCast_mul]
theorem Qcy (q:Rat):(q.num:Rat)/((q.den:Nat):Rat)=q:=by
 have h:=Rat.mkRat_eq_div q.num q.den
 rw [Rat.mkRat_self] at h
 exact h.symm
theorem Qar {n:Nat} (h:n≠0):((n:Nat):Rat)≠0:=λe=>by
 have:((n:Nat):Rat)=((0:Nat):Rat):=e
 exact h (Rat.natCast_inj.1 this)
theorem Qi2 {a r:Rat} {n:Nat} (hr:0<r) (hn:0<n) :
  Rat.divInt (a.num*r.num*(((r.num.natAbs+r.den)^n:Nat):Int)) ((a.den*r.den*((r.num.natAbs+r.den)^n-r.den^n):Nat):Int)=lvl a r n:=by
 have hr0:r≠0:=λe=>by rw [e] at hr;exact absurd hr (by decide)
 have hnum:0<r.num:=by
  have h1:0<=r.num:=Z119.2 (by grind)
  have h2:r.num≠0:=λe=>hr0 (Rat.num_eq_zero.1 e)
  omega
 have hlt:r.den^n<(r.num.natAbs+r.den)^n:=Nat.pow_lt_pow_left (by omega) (by omega)
 have had:((a.den:Nat):Rat)≠0:=Qar (by have:=a.den_pos;omega)
 have hrd:((r.den:Nat):Rat)≠0:=Qar (by have:=r.den_pos;omega)
 obtain ⟨w1,w2⟩:=Qmx ((r.num.natAbs+r.den:Nat):Rat) ((r.den:Nat):Rat) hrd n
 have hg:1+r=((r.num.natAbs+r.den:Nat):Rat)/((r.den:Nat):Rat):=by
  have e:((r.num.natAbs:Nat):Rat)=(r.num:Rat):=by
   have:(r.num:Int)=((r.num.natAbs:Nat):Int):=by omega
   rw [this];rfl
  rw [Rat.natCast_add,e]
  have:=Qcy r
  grind
 have hsub:(((r.num.natAbs+r.den)^n-r.den^n:Nat):Rat)=((r.num.natAbs+r.den:Nat):Rat)^n-((r.den:Nat):Rat)^n:=by
  have e:((r.num.natAbs+r.den)^n-r.den^n)+r.den^n=(r.num.natAbs+r.den)^n:=by omega
  have e':(((r.num.natAbs+r.den)^n-r.den^n+r.den^n:Nat):Rat)=(((r.num.natAbs+r.den)^n:Nat):Rat):=congrArg (λk:Nat=>(k:Rat)) e
  rw [Rat.natCast_add,Qer,Qer] at e'
  grind
 have hd:((r.num.natAbs+r.den:Nat):Rat)^n-((r.den:Nat):Rat)^n≠0:=by
  rw [<-hsub]
  exact Qar (by omega)
 unfold lvl
 rw [if_neg hr0,hg,w2,Z95]
 have ea:=Qcy a
 have er:=Qcy r
 have h:=Qsa (a.num:Rat) (r.num:Rat) ((a.den:Nat):Rat) ((r.den:Nat):Rat) (((r.num.natAbs+r.den:Nat):Rat)^n) (((r.den:Nat):Rat)^n) had hrd w1 hd
 rw [ea,er] at h
 rw [<-h,Rat.intCast_mul,Rat.intCast_mul]
 have c1:(((r.num.natAbs+r.den)^n:Nat):Int)=(((r.num.natAbs+r.den)^n:Nat):Int):=rfl
 rw [Rat.intCast_natCast,Rat.intCast_natCast,Qer,Rat.natCast_mul,Rat.natCast_mul,hsub]
theorem Qoj (n:Nat):neg ((n:Nat):Int)=false:=Zf (by omega)
theorem power_plain (n:Nat):z92.F (lb n)=some (lb n,false):=by
 unfold z92.F
 rw [whole_Of,Zb,Z59]
theorem Qtp {k j:Nat} {q r:Rat} (hq:Sq k q) (hr:Sq j r) (h0:r≠0) (hs:k+j<=100000000) :
  z55.F (fr q).1 (fr q).2.1 (fr q).2.2 (fr r).1 (fr r).2.1 (fr r).2.2=some ((fr (q/r)).1,(fr (q/r)).2.1,(fr (q/r)).2.2,0):=by
 have q1:=hq.1;have q2:=hq.2;have r1:=hr.1;have r2:=hr.2
 have h1:=hq.cross hr
 have h2:=hr.cross hq
 rw [Z87] at h2
 have hm:=Qax (q.num*r.den).natAbs ((q.den:Int)*r.num).natAbs
 exact Qo4 (Qg9 (M:=(q.num*r.den).natAbs+((q.den:Int)*r.num).natAbs) (by omega)) h0 (by omega) (by omega) (by omega) (by omega)
theorem Qiu (n:Nat) {t:Nat} (ht:t≠0):sz (n^t)<=t*sz n:=sz_le (by
 have:=Nat.pow_lt_pow_left (Jo n) ht
 rw [<-Nat.pow_mul,Z24] at this
 exact this)
theorem power_Level {a r:Rat} {n:Nat} {k:Nat} (ha:Sq k a) (hk:k<=10000000) (hr:0<=r) (hr':Sq k r) (hn:1<=n/\n<=1200) (hb:64*sz (r.num.natAbs+r.den)*n<=262144) :
  z93.F (fr a).1 (fr a).2.1 (fr a).2.2 (fr r).1 (fr r).2.1 (fr r).2.2 (n:Int)=some ((fr (lvl a r n)).1,(fr (lvl a r n)).2.1,(fr (lvl a r n)).2.2,0):=by
 have hnum:0<=r.num:=Z119.2 hr
 unfold z93.F
 rw [Qb (by omega),Zf (by omega)]
 unfold z93.j1
 rw [Zc]
 have es:=Qmu r (fr r).2.2
 rw [es,Zb,Qb (by rw [Wm];omega),Zb]
 by_cases h0:r=0
 ·have hn0:((n:Int):Rat)≠0:=Qar (n:=n) (by omega)
  have sn:sz n<=4:=sz_le (by omega)
  rw [bif_t (by rw [Qa9,h0];rfl),whole_From (by omega),Zb]
  simp only
  rw [frac_From,Zb,Qtp ha (Sq.int (k:=4) (z:=(n:Int)) (by rw [Z48];omega) (by decide)) hn0 (by omega)]
  have e:lvl a r n=a/((n:Int):Rat):=by unfold lvl;rw [if_pos h0];rfl
  rw [e];rfl
 ·have hpos:0<r:=by grind
  have hne:r.num≠0:=λe=>h0 (Rat.num_eq_zero.1 e)
  have a1:=ha.1;have a2:=ha.2;have r1:=hr'.1;have r2:=hr'.2
  have hden:=r.den_pos
  generalize hu:r.num.natAbs+r.den=u at *
  have hnu:n*sz u<=4096:=by
   have e:64*sz u*n=64*(n*sz u):=by rw [Z46,Z24 (sz u) n]
   omega
  have hsu:sz u<=4096:=Z11 (Nat.le_mul_of_pos_left _ (by omega)) hnu
  have lu:=Qk u
  have hvu:sz r.den<=sz u:=Q5 (by omega)
  have lv:=Qk r.den
  have b1:64*(lb u).length*n<=262144:=Z11 (Z3 n (by omega)) hb
  have b2:64*(lb r.den).length*n<=262144:=Z11 (Z3 n (by omega)) hb
  have hle:r.den^n<=u^n:=Nat.pow_le_pow_left (by omega) n
  have hlt:r.den^n<u^n:=Nat.pow_lt_pow_left (by omega) (by omega)
  have sp:sz (u^n)<=n*sz u:=Qiu u (by omega)
  have lp:=Qk (u^n)
  have sl:sz (u^n-r.den^n)<=n*sz u:=Z11 (Q5 (Nat.sub_le _ _)) sp
  have ll:=Qk (u^n-r.den^n)
  have ln:=Qk r.num.natAbs
  have ln2:=Qk a.num.natAbs
  have s1:=Qaf a.num r.num
  have l1:=Qk (a.num*r.num).natAbs
  have s2:=Qaf (a.num*r.num) ((u^n:Nat):Int)
  have s3:=W3 a.den r.den
  have l3:=Qk (a.den*r.den)
  have l4:=Qk a.den
  have s4:=W3 (a.den*r.den) (u^n-r.den^n)
  rw [Qb (by rw [Qa9];exact hne)]
  have eD:=J5 r (fr r).1 (fr r).2.1 (by omega)
  rw [eD,Zb,show z89.F (fr r).1 (fr r).2.1 (fr r).2.2=some ((fr r).1,(fr r).2.1) from rfl,Zb]
  simp only
  rw [show z31.F (lb r.num.natAbs) (neg r.num)=some (lb r.num.natAbs) from rfl,Zb,Qcc (by omega),Zb,hu,digits_Pow hn.2 b1 (by omega),Zb,digits_Pow hn.2 b2 (by omega),Zb]
  simp only [decide_true,Zn,Zc]
  unfold z93.j13
  simp only
  rw [Qgi (by omega),if_pos hle,Zb,show z89.F (lb a.num.natAbs) (neg a.num) (lb (a.den-1))=some (lb a.num.natAbs,neg a.num) from rfl,Zb,show z89.F (lb r.num.natAbs) (neg r.num) (lb (r.den-1))=some (lb r.num.natAbs,neg r.num) from rfl,Zb]
  simp only
  have m1:=Qaa (x:=a.num) (y:=r.num) (by omega)
  have m2:=Qaa (x:=a.num*r.num) (y:=((u^n:Nat):Int)) (by rw [Z48];omega)
  have o1:=Qgd (num:=a.num*r.num*((u^n:Nat):Int)) (den:=((a.den*r.den*(u^n-r.den^n):Nat):Int)) (by
   have h1:0<a.den:=a.den_pos
   have h2:0<a.den*r.den:=Z49 h1 hden
   have h3:0<a.den*r.den*(u^n-r.den^n):=Z49 h2 (by omega)
   omega) (by rw [Z48] at s2;omega) (by rw [Z48];omega)
  rw [Z48] at m2
  rw [Qoj] at m2
  rw [Z48 ((a.den*r.den*(u^n-r.den^n):Nat)),Qoj] at o1
  rw [m1,Zb,power_plain,Zb]
  simp only
  rw [m2,Zb,J5 a _ _ (by omega),Zb,Je (by omega),Zb,Je (by omega),Zb,power_plain,Zb]
  simp only
  rw [o1,Zb,<-hu,Qi2 hpos (by omega)]
theorem Qp0 (s:J1):0<=(mRate s).1:=by
 unfold mRate
 split
 ·exact Rat.le_refl
 ·split
  ·exact Rat.le_refl
  ·rename_i h
   show (0:Rat)<=mkRat (mDec s).1 (10^(mDec s).2.1)/100
   have h0:0<=(mDec s).1:=by omega
   rw [Rat.mkRat_eq_div]
   have e1:((0:Int):Rat)<=((mDec s).1:Rat):=Z80.2 h0
   have e2:(0:Rat)<=((mDec s).1:Rat):=e1
   have hp:(0:Nat)<10^(mDec s).2.1:=Z109 (by decide)
   have e3:((0:Nat):Rat)<((10^(mDec s).2.1:Nat):Rat):=Rat.natCast_lt_natCast.2 hp
   have e4:(0:Rat)<((10^(mDec s).2.1:Nat):Rat):=e3
   generalize ((mDec s).1:Rat)=x at *
   generalize ((10^(mDec s).2.1:Nat):Rat)=y at *
   have e5:0<=x/y:=by
    rw [Rat.div_def]
    exact Z115 e2 (Rat.le_of_lt (Rat.inv_pos.2 e4))
   grind
theorem J6 (s:J1):0<=(mMoney s).1/\(mMoney s).1<=10^30:=by
 unfold mMoney
 have h10:(0:Int)<=10^30:=by decide
 split
 ·exact ⟨Z99 _,h10⟩
 ·split
  ·exact ⟨Z99 _,h10⟩
  ·rename_i h;exact ⟨by show 0<=(mWhole s).1;omega,by show (mWhole s).1<=_;omega⟩
def perR (s:J1) (every:Int):Rat:=(mRate s).1*Rat.divInt every 12
theorem Qna {e:Int} (he:1<=e/\e<=12):Sq 2 (Rat.divInt e 12):=Sq.div (by decide) (sz_le (by omega)) (sz_le (by decide))
theorem Qim (s:J1) {e:Int} (he:1<=e/\e<=12):Sq 102 (perR s e):=(Qbs s).mul (Qna he)
theorem Qzk {e:Int} (he:1<=e):0<Rat.divInt e 12:=by
 rw [Z95]
 have:((1:Int):Rat)<=(e:Rat):=Z80.2 he
 have e1:(1:Rat)<=(e:Rat):=this
 show 0<(e:Rat)/12
 grind
theorem Qe2 (s:J1) {e:Int} (he:1<=e):0<=perR s e:=Z115 (Qp0 s) (Rat.le_of_lt (Qzk he))
theorem level_Rate {s:J1} {e:Int} (h:(mRate s).2=0) (he:1<=e/\e<=12):z87.F s e=some ((fr (perR s e)).1,(fr (perR s e)).2.1,(fr (perR s e)).2.2,0):=by
 unfold z87.F
 rw [terms_Rate,Zb,h]
 simp only [decide_true,Zn,Zc]
 rw [Qb (by omega),Qb (by omega)]
 unfold z87.j2
 have se:sz e.natAbs<=2:=sz_le (by omega)
 have s12:sz (Int.natAbs 12)<=2:=sz_le (by decide)
 have o:=Qgd (num:=e) (den:=12) (by decide) (by omega) (by omega)
 rw [whole_From (by omega),Zb,whole_From (by decide),Zb]
 simp only
 rw [o,Zb]
 simp only
 rw [Qh1 (Qbs s) (Qna he) (by decide),Zb]
 rfl
def payN (m:Int) (a:Int) (s:J1) (e:Int) (n:Nat):Int:=rnd m (lvl (a:Rat) (perR s e) n)
theorem Qo5 {a r:Rat} {n k:Nat} (ha:Sq k a) (hr:0<=r) (hr':Sq k r) (hn:1<=n) (hk:4<=k) (hb:64*sz (r.num.natAbs+r.den)*n<=262144):Sq (2*k+4100) (lvl a r n):=by
 have a1:=ha.1;have a2:=ha.2;have r1:=hr'.1;have r2:=hr'.2
 by_cases h0:r=0
 ·have sn:sz n<=4:=by
   have h1:sz 1<=1:=sz_le (by decide)
   have h2:0<sz (r.num.natAbs+r.den):=by
    have:=Q5 (show 1<=r.num.natAbs+r.den by have:=r.den_pos;omega)
    have e1:sz 1≠0:=by decide +kernel
    omega
   have:64*1*n<=262144:=Z11 (Z3 n (Z43 64 h2)) hb
   exact sz_le (by omega)
  unfold lvl
  rw [if_pos h0]
  have e:a/(n:Rat)=Rat.divInt (a.num) ((a.den*n:Nat):Int):=by
   rw [Z95,Rat.intCast_natCast,Rat.natCast_mul]
   have:=Qcy a
   have hn0:((n:Nat):Rat)≠0:=Qar (by omega)
   have had:((a.den:Nat):Rat)≠0:=Qar (by have:=a.den_pos;omega)
   grind
  rw [e]
  have hm:=W3 a.den n
  exact Sq.div (by have:=Z49 a.den_pos (show 0<n by omega);omega) (by omega) (by rw [Z48];omega)
 ·have hpos:0<r:=by grind
  rw [<-Qi2 hpos (by omega)]
  have hden:=r.den_pos
  have hnum:0<=r.num:=Z119.2 hr
  have hne:r.num≠0:=λe=>h0 (Rat.num_eq_zero.1 e)
  generalize hu:r.num.natAbs+r.den=u at *
  have hnu:n*sz u<=4096:=by
   have e:64*sz u*n=64*(n*sz u):=by rw [Z46,Z24 (sz u) n]
   omega
  have sp:sz (u^n)<=n*sz u:=Qiu u (by omega)
  have sl:sz (u^n-r.den^n)<=n*sz u:=Z11 (Q5 (Nat.sub_le _ _)) sp
  have hlt:r.den^n<u^n:=Nat.pow_lt_pow_left (by omega) (by omega)
  have s1:=Qaf a.num r.num
  have s2:=Qaf (a.num*r.num) ((u^n:Nat):Int)
  have s3:=W3 a.den r.den
  have s4:=W3 (a.den*r.den) (u^n-r.den^n)
  rw [Z48] at s2
  refine Sq.div ?_ (by omega) (by rw [Z48];omega)
  have h1:0<a.den:=a.den_pos
  have h2:0<a.den*r.den:=Z49 h1 hden
  have h3:0<a.den*r.den*(u^n-r.den^n):=Z49 h2 (by omega)
  omega
theorem Qph (s:J1) {e:Int} (he:1<=e/\e<=12) {n:Nat} (hn:n<=30):64*sz ((perR s e).num.natAbs+(perR s e).den)*n<=262144:=by
 have h:sz (perR s e).num.natAbs<=102/\sz (perR s e).den<=102:=by
  have h1:=Qgk s
  have se:sz e.natAbs<=2:=sz_le (by omega)
  have s12:sz 12<=2:=sz_le (by decide)
  unfold perR
  have hd:Rat.divInt e 12=mkRat e 12:=rfl
  have m1:=Qcp e (show 0<12 by decide)
  have m2:=Qcr e (show 0<12 by decide)
  rw [<-hd] at m1 m2
  have n1:=Q5 m1
  have n2:=Q5 m2
  rw [Rat.mul_def']
  have p0:0<(mRate s).1.den*(Rat.divInt e 12).den:=Z49 (mRate s).1.den_pos (Rat.divInt e 12).den_pos
  have k1:=Q5 (Qcp ((mRate s).1.num*(Rat.divInt e 12).num) p0)
  have k2:=Q5 (Qcr ((mRate s).1.num*(Rat.divInt e 12).num) p0)
  have k3:=Qaf (mRate s).1.num (Rat.divInt e 12).num
  have k4:=W3 (mRate s).1.den (Rat.divInt e 12).den
  constructor<;>omega
 have hm:=Qax (perR s e).num.natAbs (perR s e).den
 have hs:sz ((perR s e).num.natAbs+(perR s e).den)<=104:=by omega
 exact Z11 (Z118 (Z43 64 hs) hn) (by decide)
theorem level_Payment {a:Int} {s:J1} {e m:Int} {n:Nat} (ha:0<=a) (hz:sz a.natAbs<=200) (h:(mRate s).2=0) (he:1<=e/\e<=12) (hn:1<=n/\n<=30) (hm:0<=m/\m<=4) :
  z97.F (lb a.natAbs) (neg a) s e (n:Int) m=some (lb (payN m a s e n).natAbs,neg (payN m a s e n),0):=by
 have hq:Sq 102 (a:Rat):=Sq.int (by omega) (by decide)
 have hb:=Qph s he hn.2
 unfold z97.F
 rw [level_Rate h he,Zb]
 simp only [decide_true,Zn,Zc]
 rw [W6,Zb,Qb (by rw [Wm];omega),frac_From,Zb,power_Level hq (by decide) (Qe2 s he.1) (Qim s he) ⟨hn.1,by omega⟩ hb,Zb]
 simp only [decide_true,Zn,Zc]
 rw [round_Whole hm (Qo5 hq (Qe2 s he.1) (Qim s he) hn.1 (by decide) hb) (by decide),Zb]
 rfl
def Qje (m:Int) (a:Int) (n:Nat):Int:=rnd m (Rat.divInt a n)
theorem level_Part {a:Int} {m:Int} {n:Nat} (ha:0<=a) (hz:sz a.natAbs<=200) (hn:1<=n/\n<=1200) (hm:0<=m/\m<=4):z98.F (lb a.natAbs) (neg a) (n:Int) m=some (lb (Qje m a n).natAbs,neg (Qje m a n),0):=by
 have sn:sz n<=4:=sz_le (by omega)
 unfold z98.F
 rw [W6,Zb,Qb (by rw [Wm];omega),Qb (by omega),Qb (by omega)]
 unfold z98.j2
 rw [whole_From (by omega),Zb]
 simp only
 rw [Qgd (by omega) (by omega) (by rw [Z48];omega),Zb]
 simp only
 rw [round_Whole hm (Sq.div (k:=200) (by omega) (by omega) (by rw [Z48];omega)) (by decide),Zb]
 rfl
theorem Qhh {t:Tm} (h:kindsOK t):(0<=t.kind/\t.kind<=2)/\(0<=t.basis/\t.basis<=2)/\(0<=t.mode/\t.mode<=4)/\Qcn t.every:=h
structure Rw where
 due:D3
 o:Int
 n:Int
 b:Int
 pay:Int
 c:Int
deriving DecidableEq
def rwv (x:Rw):List V:=[.int .i64 x.due.1,.int .i64 x.due.2.1,.int .i64 x.due.2.2,.str (itxt x.o),.str (itxt x.n),.str (itxt x.b),.str (itxt x.pay),.str (itxt x.c)]
theorem asW0 {R:Type} (x:Rw) (K:Int->Option R):V.asInt .i64 ((rwv x).getD 0 .undef) K=K x.due.1:=by simp [rwv,V.asInt]
theorem asW1 {R:Type} (x:Rw) (K:Int->Option R):V.asInt .i64 ((rwv x).getD 1 .undef) K=K x.due.2.1:=by simp [rwv,V.asInt]
theorem asW2 {R:Type} (x:Rw) (K:Int->Option R):V.asInt .i64 ((rwv x).getD 2 .undef) K=K x.due.2.2:=by simp [rwv,V.asInt]
theorem asW3 {R:Type} (x:Rw) (K:J1->Option R):V.asStr ((rwv x).getD 3 .undef) K=K (itxt x.o):=by simp [rwv,V.asStr]
theorem asW4 {R:Type} (x:Rw) (K:J1->Option R):V.asStr ((rwv x).getD 4 .undef) K=K (itxt x.n):=by simp [rwv,V.asStr]
theorem asW5 {R:Type} (x:Rw) (K:J1->Option R):V.asStr ((rwv x).getD 5 .undef) K=K (itxt x.b):=by simp [rwv,V.asStr]
theorem asW6 {R:Type} (x:Rw) (K:J1->Option R):V.asStr ((rwv x).getD 6 .undef) K=K (itxt x.pay):=by simp [rwv,V.asStr]
theorem asW7 {R:Type} (x:Rw) (K:J1->Option R):V.asStr ((rwv x).getD 7 .undef) K=K (itxt x.c):=by simp [rwv,V.asStr]
def okP (ps:List (D3×D3)):Prop:=∀p∈ps,rightD p.1/\rightD p.2/\numD p.1<=numD p.2
theorem Qzq {z:Int} (h0:0<=z) (h:z<=10^30):sz z.natAbs<=31:=sz_le (by
 have e:(10:Int)^30=1000000000000000000000000000000:=by decide
 rw [e] at h
 omega)
theorem Qg0 (m:Int) {q:Rat} (h:0<=q):0<=rnd m q:=by
 have:=Z119.2 h
 unfold rnd
 rw [if_neg (by omega)]
 omega
theorem divInt_nonneg {a b:Int} (h:0<=a) (h':0<b):0<=Rat.divInt a b:=by
 rw [Z95,Rat.div_def]
 have e1:((0:Int):Rat)<=(a:Rat):=Z80.2 h
 have e2:((0:Int):Rat)<(b:Rat):=Rat.intCast_lt_intCast.2 h'
 exact Z115 e1 (Rat.le_of_lt (Rat.inv_pos.2 e2))
theorem Qry {a r:Rat} {n:Nat} (ha:0<=a) (hr:0<=r) (hn:1<=n):0<=lvl a r n:=by
 by_cases h0:r=0
 ·unfold lvl
  rw [if_pos h0,Rat.div_def]
  have e:((0:Nat):Rat)<=((n:Nat):Rat):=Rat.natCast_le_natCast.2 (Z94 n)
  have hn0:((0:Nat):Rat)<((n:Nat):Rat):=Rat.natCast_lt_natCast.2 (by omega)
  exact Z115 ha (Rat.le_of_lt (Rat.inv_pos.2 hn0))
 ·have hpos:0<r:=by grind
  rw [<-Qi2 hpos (by omega)]
  have hnum:0<=r.num:=Z119.2 hr
  have hne:r.num≠0:=λe=>h0 (Rat.num_eq_zero.1 e)
  have hna:0<=a.num:=Z119.2 ha
  have hlt:r.den^n<(r.num.natAbs+r.den)^n:=Nat.pow_lt_pow_left (by omega) (by omega)
  have h2:0<a.den*r.den:=Z49 a.den_pos r.den_pos
  have h3:0<a.den*r.den*((r.num.natAbs+r.den)^n-r.den^n):=Z49 h2 (by omega)
  exact divInt_nonneg (Z42 (Z42 hna hnum) (by omega)) (by omega)
theorem Qw3 {z:Int} (h:0<=z):(0:Rat)<=(z:Rat):=by
 have e1:((0:Int):Rat)<=(z:Rat):=Z80.2 h
 exact e1
theorem Qm4:∀(a:D3) (l:List D3),rightD a->(∀x∈l,rightD x)->(∀j (h:j<l.length),numD (if h0:j=0 then a else l[j-1]'(by omega))<=numD l[j])->okP (pairs a l)
 |a,[],_,_,_=>λp hp=>by simp [pairs] at hp
 |
  a,b::l,ha,hl,hn=>by
  intro p hp
  have hb:=hl b (List.mem_cons_self ..)
  rcases Z103.1 (show p∈(a,b)::pairs b l from hp) with rfl|hp
  ·exact ⟨ha,hb,hn 0 (by simp)⟩
  ·refine Qm4 b l hb (λx hx=>hl x (List.mem_cons_of_mem _ hx)) (λj hj=>?_) p hp
   have:=hn (j+1) (by simp only [Z9];omega)
   rw [dif_neg (by omega)] at this
   by_cases h0:j=0
   ·subst h0;exact this
   ·rw [dif_neg h0]
    obtain ⟨i,rfl⟩:∃i,j=i+1:=⟨j-1,by omega⟩
    exact this
theorem Qjp {t:Tm} (h:mCheck t=0):okP t.periods:=by
 have d:=Qsy h
 refine Qm4 t.start t.dates d.start (λx hx=>?_) (λj hj=>?_)
 ·obtain ⟨i,hi,rfl⟩:=Z90 hx
  exact d.right i hi
 ·by_cases h0:j=0
  ·subst h0
   rw [dif_pos rfl]
   exact Int.le_of_lt (d.first 0 hj)
  ·rw [dif_neg h0]
   exact Int.le_of_lt (d.lt (j-1) j (by omega) hj (by omega))
theorem Qk7 (t:Tm):t.periods.length=t.count.toNat:=by
 show (pairs t.start t.dates).length=_
 rw [Qln,t.dates_len]
theorem Qxp {t:Tm} {most:Int} (h:Good t most) (hm:most<=40):mCheck t=0:=by
 have hb:=Qja h.kinds.2.2.2 (c:=t.count) ⟨h.count.1,by have:=h.count.2;omega⟩
 have hc:=h.count
 have hev:=h.kinds.2.2.2
 exact h.check (by
  have h1:t.every<=12:=by rcases hev with h|h|h|h|h|h<;>omega
  have h2:t.every*t.count<=12*t.count:=Z62 h1 (by omega)
  omega) (by omega)
def kDue:J1:=[100,117,101]
def Qab (v:J1):Int:=if (mMoney v).2≠0 then (mMoney v).2 else if (mMoney v).1=0 then 19 else 0
def mVal (k:Int) (v:J1):Int:=
 if k=3 then (if v=[] then 0 else 4) else if k=2 then (mRate v).2 else if k=0/\v=kDue then 0 else Qab v
theorem script_money (v:J1):z79.F v=some (Qab v):=by
 unfold z79.F Qab
 rw [terms_Money,Zb]
 by_cases h:(mMoney v).2=0
 ·simp only [h,decide_true,Zd,ne_eq,not_true_eq_false,if_false]
  rw [W6,Zb]
  by_cases h0:(mMoney v).1=0
  ·rw [if_pos h0,bif_t (Qa9.2 h0)]
  ·rw [if_neg h0,Qb (λe=>h0 (Qa9.1 e))]
 ·rw [if_pos h,Qb h]
theorem script_value {k:Int} (hk:0<=k/\k<=3) (y m d:Int) (v:J1):z80.F k y m d v=some (mVal k v):=by
 unfold z80.F mVal
 by_cases h0:k=0
 ·rw [bif_t h0,if_neg (by omega),if_neg (by omega)]
  by_cases hv:v=kDue
  ·rw [if_pos ⟨h0,hv⟩];exact bif_t hv
  ·rw [if_neg (λh=>hv h.2)]
   refine (Qb hv).trans ?_
   rw [script_money];rfl
 ·rw [Qb h0,if_neg (show ¬(k=0/\v=kDue) from λh=>h0 h.1)]
  by_cases h1:k=1
  ·rw [bif_t h1,if_neg (by omega),if_neg (by omega),script_money];rfl
  ·rw [Qb h1]
   by_cases h2:k=2
   ·rw [bif_t h2,if_neg (by omega),if_pos h2,terms_Rate];rfl
   ·rw [Qb h2,if_pos (show k=3 by omega)]
    by_cases hv:v=[]
    ·rw [if_pos hv,Zt hv];rfl
    ·rw [if_neg hv,Zf hv];rfl
structure Evt where
 k:Int
 y:Int
 m:Int
 d:Int
 v:List UInt8
deriving DecidableEq
def Evt.r (e:Evt):List V:=[.int .i64 e.k,.int .i64 e.y,.int .i64 e.m,.int .i64 e.d,.str e.v]
structure EvtOK (e:Evt):Prop where
 k:0<=e.k/\e.k<=3
 d:right e.y e.m e.d
 v:mVal e.k e.v=0
 l:e.v.length<=4096
def Seq:Int->Int->Int->List Evt->Prop
 |_,_,_,[]=>True
 |y,m,d,e::t=>¬dcmp e.y e.m e.d y m d<0/\EvtOK e/\Seq e.y e.m e.d t
theorem Quc {v:J1} (h:Qab v=0):(mWhole v).2=0/\0<(mWhole v).1/\(mWhole v).1<=10^30:=by
 have e:mMoney v=if (mWhole v).2≠0 then (0,(mWhole v).2) else if (mWhole v).1<0\/10^30<(mWhole v).1 then (0,19) else ((mWhole v).1,0):=rfl
 unfold Qab at h
 by_cases h1:(mWhole v).2=0
 ·rw [if_neg (λhh=>hh h1)] at e
  by_cases h2:(mWhole v).1<0\/10^30<(mWhole v).1
  ·rw [if_pos h2] at e;rw [e] at h;simp at h
  ·rw [if_neg h2] at e
   rw [e] at h
   by_cases h3:(mWhole v).1=0
   ·simp [h3] at h
   ·exact ⟨h1,by omega,by omega⟩
 ·rw [if_pos h1] at e
  rw [e] at h
  simp [h1] at h
theorem eK {R:Type} (t:Evt) (K:Int->Option R):V.asInt .i64 ((Evt.r t).getD 0 .undef) K=K t.k:=rfl
theorem eY {R:Type} (t:Evt) (K:Int->Option R):V.asInt .i64 ((Evt.r t).getD 1 .undef) K=K t.y:=rfl
theorem eM {R:Type} (t:Evt) (K:Int->Option R):V.asInt .i64 ((Evt.r t).getD 2 .undef) K=K t.m:=rfl
theorem eD {R:Type} (t:Evt) (K:Int->Option R):V.asInt .i64 ((Evt.r t).getD 3 .undef) K=K t.d:=rfl
theorem eV {R:Type} (t:Evt) (K:J1->Option R):V.asStr ((Evt.r t).getD 4 .undef) K=K t.v:=rfl
theorem Qao {L:List Evt} {i:Nat} (h:i<L.length):(L.map Evt.r).getD i []=Evt.r L[i]:=by
 rw [Zl,List.getElem?_map,Z1 h];rfl
theorem Qg5:∀{L:List Evt} {y m d:Int},Seq y m d L->∀e∈L,EvtOK e
 |[],_,_,_,_,e,he=>by simp at he
 |
  a::t,_,_,_,h,e,he=>by
  rcases Z103.1 he with rfl|he
  ·exact h.2.1
  ·exact Qg5 h.2.2 e he
def eErr (y m d:Int) (e:Evt):Int:=
 if e.k<0\/3<e.k then 2 else if ¬right e.y e.m e.d then 11 else if dcmp e.y e.m e.d y m d<0 then 12 else mVal e.k e.v
def mChk:Int->Int->Int->Int->List Evt->Int×Int
 |_,_,_,_,[]=>(0,0)
 |i,y,m,d,e::t=>if eErr y m d e≠0 then (i,eErr y m d e) else mChk (i+1) e.y e.m e.d t
theorem Qt1 (e:Evt) (y m d:Int):z81.F e.k e.y e.m e.d e.v y m d=some (eErr y m d e):=by
 unfold z81.F eErr
 by_cases h0:e.k<0
 ·rw [bif_t h0,if_pos (.inl h0)];rfl
 ·rw [Qb h0]
  unfold z81.j1
  by_cases h4:e.k>=4
  ·rw [bif_t h4,if_pos (.inr (by omega))]
  ·rw [Qb h4,if_neg (by omega),date_Check,Zb]
   by_cases hr:right e.y e.m e.d
   ·rw [if_pos hr,if_neg (λhh=>hh hr),show (!decide ((0:Int)=0))=false from rfl]
    simp only [Zc]
    rw [date_Cmp,Zb]
    by_cases hd:dcmp e.y e.m e.d y m d<0
    ·rw [bif_t hd,if_pos hd]
    ·rw [Qb hd,if_neg hd,script_value (by omega)];rfl
   ·rw [if_neg hr,if_pos hr];rfl
def outC:(Int×Int×Int×Int)⊕(Int×Int×Int×Int×Int)->Int×Int
 |.inl _=>(0,0)
 |.inr q=>(q.1,q.2.1)
theorem Qj5 {L:List Evt} (hL:L.length<=10000):∀(f i:Nat) (y m d:Int),i+f=L.length->∃x,Runs (λrec x=>z82.l0P (L.map Evt.r) (L.length:Int) rec some x) ((i:Int),y,m,d) x/\outC x=mChk (i:Int) y m d (L.drop i)
 |
  0,i,y,m,d,h=>by
  refine ⟨.inl ((i:Int),y,m,d),.done λrec=>?_,?_⟩
  ·unfold z82.l0P
   simp only
   rw [Qb (by omega)]
  ·rw [Z68 (by omega)];rfl
 |
  f+1,i,y,m,d,h=>by
  have hi:i<L.length:=by omega
  have l2:(L.map Evt.r).length=L.length:=by simp
  have hst:∀rec:(Int×Int×Int×Int)->Option ((Int×Int×Int×Int)⊕(Int×Int×Int×Int×Int)),z82.l0P (L.map Evt.r) (L.length:Int) rec some ((i:Int),y,m,d)=if eErr y m d L[i]≠0 then some (.inr ((i:Int),eErr y m d L[i],y,m,d)) else rec (((i+1:Nat):Int),L[i].y,L[i].m,L[i].d):=λrec=>by
   unfold z82.l0P
   simp only
   rw [bif_t (by omega),if_pos (by omega),Zi,Qao hi]
   simp only [eK,eY,eM,eD,eV]
   rw [Qt1,Zb,Qc (by omega) (by omega)]
   by_cases he:eErr y m d L[i]=0
   ·rw [Zt he,if_neg (λhh=>hh he)];rfl
   ·rw [Zf he,if_pos he];rfl
  rw [Z30 hi,mChk]
  by_cases he:eErr y m d L[i]=0
  ·obtain ⟨x,hx,ho⟩:=Qj5 hL f (i+1) L[i].y L[i].m L[i].d (by omega)
   exact ⟨x,.step (λrec=>by rw [hst,if_neg (λhh=>hh he)]) hx,by rw [if_neg (λhh=>hh he),ho];rfl⟩
  ·exact ⟨_,.done λrec=>by rw [hst,if_pos he],by rw [if_pos he];rfl⟩
theorem Qwo {L:List Evt} (hL:L.length<=10000):z82.F (L.map Evt.r)=some (mChk 0 0 0 0 L):=by
 have l2:(L.map Evt.r).length=L.length:=by simp
 obtain ⟨x,hx,ho⟩:=Qj5 hL L.length 0 0 0 0 (by omega)
 have e:z82.l0 (L.map Evt.r) (L.length:Int) (0,0,0,0)=some x:=hx.lfp
 rw [Z34] at ho
 have ho:outC x=mChk 0 0 0 0 L:=ho
 unfold z82.F
 rw [l2,Qb (by omega),e,<-ho]
 cases x<;>rfl
theorem Qiq:∀(L:List Evt) (i y m d:Int),(∀e∈L,e.v.length<=4096)->(mChk i y m d L).2=0->Seq y m d L/\(mChk i y m d L).1=0
 |[],_,_,_,_,_,_=>⟨trivial,rfl⟩
 |
  e::t,i,y,m,d,hl,h=>by
  rw [mChk] at h ⊢
  by_cases he:eErr y m d e=0
  ·rw [if_neg (λhh=>hh he)] at h ⊢
   obtain ⟨h1,h2⟩:=Qiq t (i+1) e.y e.m e.d (λx hx=>hl x (by simp [hx])) h
   refine ⟨⟨?_,?_,h1⟩,h2⟩
   ·intro hd
    unfold eErr at he
    split at he
    ·simp at he
    ·split at he
     ·simp at he
     ·first|(simp at he;done)|(rw [if_pos hd] at he;simp at he)
   ·unfold eErr at he
    split at he
    ·simp at he
    ·rename_i hk
     split at he
     ·simp at he
     ·rename_i hr
      split at he
      ·simp at he
      ·exact ⟨by omega,Classical.byContradiction hr,he,hl e (by simp)⟩
  ·rw [if_pos he] at h;exact (he h).elim
theorem Qwb {y m d:Int} (h:right y m d):¬dcmp y m d 0 0 0<0:=by
 obtain ⟨hy,_⟩:=Q6 h
 unfold dcmp
 rw [if_neg (by omega),if_pos (by omega)];omega
end Go.Proofs.YtihfdjkjpncjfaaGreatDoor.A
end
section
namespace Go.Proofs.YtihfdjkjpncjfaaGreatDoor.A
open Go Go.RowKit Go.ChangeShapes Go.WideShapes Go.ChangeAt
abbrev MS:=Int×J2×Int×Int×Int
theorem Qcq {z:Int} (h:0<=z/\z<=4294967296):(itxt z).length<=20/\sz z.natAbs<=100000000:=by
 have h1:sz z.natAbs<=10:=sz_le (k:=10) (by omega)
 have h2:=Qsp z
 exact ⟨by omega,by omega⟩
end Go.Proofs.YtihfdjkjpncjfaaGreatDoor.A
end
section
namespace Go.Proofs.YtihfdjkjpncjfaaGreatDoor.A
open Go
def kd (y m d:Int):Int:=372*y+31*m+d
theorem Qwc {y m d y' m' d':Int} (h:right y m d) (h':right y' m' d') (hk:kd y' m' d'<=kd y m d):¬dcmp y m d y' m' d'<0:=by
 obtain ⟨_,a1,a2,a3,a4⟩:=Q6 h
 obtain ⟨_,b1,b2,b3,b4⟩:=Q6 h'
 unfold kd at hk
 unfold dcmp
 split
 ·omega
 ·split
  ·omega
  ·split
   ·omega
   ·split
    ·omega
    ·split
     ·omega
     ·split<;>omega
def lastOf:Int->Int->Int->List Evt->D3
 |y,m,d,[]=>(y,m,d)
 |_,_,_,e::t=>lastOf e.y e.m e.d t
theorem Qnp:∀{L:List Evt} {y m d:Int} {e:Evt},Seq y m d L->EvtOK e->¬dcmp e.y e.m e.d (lastOf y m d L).1 (lastOf y m d L).2.1 (lastOf y m d L).2.2<0->Seq y m d (L++[e])
 |[],_,_,_,_,_,ho,hd=>⟨hd,ho,trivial⟩
 |a::t,_,_,_,_,h,ho,hd=>⟨h.1,h.2.1,Qnp h.2.2 ho hd⟩
theorem Qqs:∀(L:List Evt) (y m d:Int) (e:Evt),lastOf y m d (L++[e])=(e.y,e.m,e.d)
 |[],_,_,_,_=>rfl
 |a::t,_,_,_,e=>Qqs t a.y a.m a.d e
theorem Quo {y m d:Int} (h:right y m d):∃y' m' d' ok,z9.F y m d=some (y',m',d',ok)/\(ok=true->right y' m' d'/\kd y m d<=kd y' m' d'):=by
 obtain ⟨hy,hm1,hm2,hd1,hd2⟩:=Q6 h
 unfold z9.F
 rw [Qhb,Zb]
 by_cases h1:d<dDays y m
 ·rw [bif_t h1,Qc (by omega) (by omega)]
  exact ⟨_,_,_,_,rfl,λ_=>⟨⟨by omega,by omega⟩,by unfold kd;omega⟩⟩
 ·rw [Qb h1]
  by_cases h2:m<12
  ·rw [bif_t h2,Qc (by omega) (by omega)]
   have:=Qdp (y:=y) (m:=m+1) hy (by omega)
   exact ⟨_,_,_,_,rfl,λ_=>⟨⟨by omega,by omega⟩,by unfold kd;omega⟩⟩
  ·rw [Qb h2,Qc (by omega) (by omega)]
   refine ⟨_,_,_,_,rfl,λhk=>?_⟩
   simp only [decide_eq_true_eq] at hk
   have:=Qdp (y:=y+1) (m:=1) (by omega) (by omega)
   exact ⟨⟨by omega,by omega⟩,by unfold kd;omega⟩
theorem Qhq {D:J0} {i:Nat} (hi:i<D.length) (hi2:i<=100) (hD:0<=D.getD i 0/\D.getD i 0<256):∀(f k:Nat) (y m d:Int),k+f=((D.getD i 0)%71).toNat->right y m d->∃y' m' d',Runs (λrec x=>z13.l2P (i:Int) D rec some x) ((k:Int),y,m,d) ((((D.getD i 0)%71).toNat:Int),y',m',d')/\right y' m' d'/\kd y m d<=kd y' m' d'
 |
  0,k,y,m,d,h,hr=>by
  have e2:Int.tmod (D.getD i 0) 71=(D.getD i 0)%71:=Z76 hD.1
  refine ⟨y,m,d,.done λrec=>?_,hr,Z99 _⟩
  unfold z13.l2P
  simp only
  rw [if_pos (by omega),Zi,Qc (by omega) (by omega),e2,Qb (by omega)]
  congr 2;omega
 |
  f+1,k,y,m,d,h,hr=>by
  have e2:Int.tmod (D.getD i 0) 71=(D.getD i 0)%71:=Z76 hD.1
  obtain ⟨y1,m1,d1,ok,hn,hok⟩:=Quo hr
  have hst:∀rec:(Int×Int×Int×Int)->Option (Int×Int×Int×Int),z13.l2P (i:Int) D rec some ((k:Int),y,m,d)=if ok=true then rec (((k+1:Nat):Int),y1,m1,d1) else rec (((k+1:Nat):Int),y,m,d):=λrec=>by
   unfold z13.l2P
   simp only
   rw [if_pos (by omega),Zi,Qc (by omega) (by omega),e2,bif_t (by omega),hn,Zb,Qc (n:=(k:Int)+1) (by omega) (by omega)]
   cases ok<;>rfl
  cases ok with
  |
   true=>
   obtain ⟨g1,g2⟩:=hok rfl
   obtain ⟨y',m',d',r,hr',hk'⟩:=Qhq hi hi2 hD f (k+1) y1 m1 d1 (by omega) g1
   exact ⟨y',m',d',.step (λrec=>by rw [hst,if_pos rfl]) r,hr',by omega⟩
  |
   false=>
   obtain ⟨y',m',d',r,hr',hk'⟩:=Qhq hi hi2 hD f (k+1) y m d (by omega) hr
   exact ⟨y',m',d',.step (λrec=>by rw [hst,if_neg (by simp)]) r,hr',hk'⟩
theorem Qwh {n:Nat} (h0:0<n) (h:n<=10^30):Qab (txt n)=0:=by
 unfold Qab
 rw [Qc1 h,if_neg (by simp),if_neg (by simp only;omega)]
theorem Qwu {n:Nat} (h:n<=10^30):mDec (txt n)=((n:Int),0,0):=by
 have hl:(txt n).length<=31:=Qb8 (by omega) (by decide)
 have hd:=Qgg n
 have hok:=Qo2 n
 obtain ⟨_,hne,hz⟩:=Qs6 hok
 have hcd:cutDot (txt n)=(txt n,none):=by
  have:∀{s:J1},Q1 s->cutDot s=(s,none):=by
   intro s
   induction s with
   |nil=>intro _;rfl
   |
    cons b t ih=>
    intro h
    have hb:=h b (by simp)
    unfold digit at hb
    unfold cutDot
    rw [if_neg (by rintro rfl;simp at hb),ih λx hx=>h x (by simp [hx])]
  exact this hd
 have hpl:plainB (txt n)=true:=by
  unfold plainB
  rw [Zf hne,Jt.2 hd];rfl
 have hlead:(decide (1<(txt n).length)&&decide (((txt n).getD 0 0).toNat=48))=false:=by
  by_cases h1:1<(txt n).length
  ·rw [Zf (hz h1),Bool.and_false]
  ·rw [Zf h1,Z59]
 unfold mDec
 rw [if_neg (by omega),Qke hd,hcd]
 unfold Qat
 simp only [hpl,hlead,Option.isSome_none,Zn,Z59,Bool.or_self,Z25,if_false,Option.getD_none,Z54,Z45]
 rw [if_neg (by decide),Qhx]
theorem Qwp {n:Nat} (h:n<900):mVal 2 (txt n)=0:=by
 unfold mVal
 rw [if_neg (by decide),if_pos rfl]
 unfold mRate
 rw [Qwu (by omega)]
 simp only [ne_eq,not_true_eq_false,if_false]
 rw [if_neg (by simp only [Nat.pow_zero];omega)]
theorem Qxi {k v y m d:Int} (hk:0<=k/\k<256) (hv:1<=v/\v<=4294967296) (hr:right y m d) :
  ((Int.tmod k 4=3->EvtOK ⟨Int.tmod k 4,y,m,d,[]⟩)/\(Int.tmod k 4=2->EvtOK ⟨Int.tmod k 4,y,m,d,itxt (v%900)⟩)/\(Int.tmod k 4=0->EvtOK ⟨Int.tmod k 4,y,m,d,kDue⟩)/\(Int.tmod k 4<2->EvtOK ⟨Int.tmod k 4,y,m,d,itxt v⟩))/\0<=Int.tmod k 4/\Int.tmod k 4<=3:=by
 have e:Int.tmod k 4=k%4:=Z76 hk.1
 have hk4:0<=Int.tmod k 4/\Int.tmod k 4<=3:=by rw [e];omega
 generalize Int.tmod k 4=q at *
 have it:∀z:Int,0<=z->itxt z=txt z.toNat:=λz hz=>by
  unfold itxt;rw [if_neg (by omega)]
  congr 1;omega
 refine ⟨⟨λh=>?_,λh=>?_,λh=>?_,λh=>?_⟩,hk4⟩
 ·subst h;exact ⟨⟨by simp only;omega,by simp only;omega⟩,hr,rfl,by simp⟩
 ·subst h
  have l:=(Qcq (z:=v%900) (by omega)).1
  exact ⟨⟨by simp only;omega,by simp only;omega⟩,hr,by rw [it _ (by omega)];exact Qwp (by omega),by show (itxt (v%900)).length<=4096;omega⟩
 ·subst h
  exact ⟨⟨by simp only;omega,by simp only;omega⟩,hr,rfl,by show kDue.length<=4096;decide⟩
 ·have l:=(Qcq (z:=v) (by omega)).1
  refine ⟨by show 0<=q/\q<=3;omega,hr,?_,by show (itxt v).length<=4096;omega⟩
  show mVal q (itxt v)=0
  unfold mVal
  rw [if_neg (by omega),if_neg (by omega)]
  split
  ·rfl
  ·rw [it _ (by omega)];exact Qwh (by omega) (by omega)
structure Qh0 (e:Evt) (o:Int×Int×Int×Int):Prop where
 ok:EvtOK e
 len:e.v.length<=200
 y:e.y=o.2.1
 m:e.m=o.2.2.1
 d:e.d=o.2.2.2
theorem Qjb {acc:List Evt} (hacc:acc.length<=100) {i:Nat} (hi:i<=100) {k v:Int} (hk:0<=k/\k<256) (hv:1<=v/\v<=4294967296) {o:Int×Int×Int×Int} (hr:right o.2.1 o.2.2.1 o.2.2.2) {t:J1}
  (ht:(Int.tmod k 4=3/\t=[])\/(Int.tmod k 4=2/\t=itxt (v%900))\/(Int.tmod k 4<2/\t=itxt v)) :
  ∃e:Evt,Qh0 e o/\∀rec:MS->Option MS,z13.j1021a rec some k (acc.map Evt.r) o (i:Int) t=rec (((i+1:Nat):Int),(acc++[e]).map Evt.r,o.2.1,o.2.2.1,o.2.2.2):=by
 have w:wr .i64 ((i:Int)+1)=((i+1:Nat):Int):=by rw [Qc (by omega) (by omega)];rfl
 obtain ⟨⟨g3,g2,g0,g1⟩,hk4⟩:=Qxi (y:=o.2.1) (m:=o.2.2.1) (d:=o.2.2.2) hk hv hr
 have push:∀(v:J1) (rec:MS->Option MS),(if ((acc.map Evt.r).length+(([[(.int .i64 (Int.tmod k (4:Int))),(.int .i64 o.2.1),(.int .i64 o.2.2.1),(.int .i64 o.2.2.2),(.str v)]]:J2)).length)*48<=140737488355328 then (rec ((wr .i64 ((i:Int)+(1:Int))),((acc.map Evt.r)++([[(.int .i64 (Int.tmod k (4:Int))),(.int .i64 o.2.1),(.int .i64 o.2.2.1),(.int .i64 o.2.2.2),(.str v)]]:J2)),o.2.1,o.2.2.1,o.2.2.2)) else none)=rec (((i+1:Nat):Int),(acc++[(⟨Int.tmod k 4,o.2.1,o.2.2.1,o.2.2.2,v⟩:Evt)]).map Evt.r,o.2.1,o.2.2.1,o.2.2.2):=λv rec=>by
  have l2:(acc.map Evt.r).length=acc.length:=by simp
  rw [l2,if_pos (by show (acc.length+1)*48<=_;omega),w,Z71];rfl
 have tok:EvtOK ⟨Int.tmod k 4,o.2.1,o.2.2.1,o.2.2.2,t⟩/\t.length<=200:=by
  rcases ht with ⟨h,rfl⟩|⟨h,rfl⟩|⟨h,rfl⟩
  ·exact ⟨g3 h,by simp⟩
  ·have l:=(Qcq (z:=v%900) (by omega)).1
   exact ⟨g2 h,by omega⟩
  ·have l:=(Qcq (z:=v) (by omega)).1
   exact ⟨g1 h,by omega⟩
 by_cases h0:Int.tmod k 4=0
 ·by_cases h1:Int.tmod (wr .i64 (Int.tdiv k 4)) 3=0
  ·refine ⟨⟨Int.tmod k 4,o.2.1,o.2.2.1,o.2.2.2,t⟩,⟨tok.1,tok.2,rfl,rfl,rfl⟩,λrec=>?_⟩
   unfold z13.j1021a
   rw [bif_t h0,Zt h1]
   exact push t rec
  ·refine ⟨⟨Int.tmod k 4,o.2.1,o.2.2.1,o.2.2.2,kDue⟩,⟨g0 h0,(show kDue.length<=200 by decide),rfl,rfl,rfl⟩,λrec=>?_⟩
   unfold z13.j1021a
   rw [bif_t h0,Zf h1]
   exact push kDue rec
 ·refine ⟨⟨Int.tmod k 4,o.2.1,o.2.2.1,o.2.2.2,t⟩,⟨tok.1,tok.2,rfl,rfl,rfl⟩,λrec=>?_⟩
  unfold z13.j1021a
  rw [Qb h0]
  exact push t rec
theorem Qou {acc:List Evt} (hacc:acc.length<=100) {i:Nat} (hi:i<=100) {k v:Int} (hk:0<=k/\k<256) (hv:1<=v/\v<=4294967296) {o:Int×Int×Int×Int} (hr:right o.2.1 o.2.2.1 o.2.2.2) :
  ∃e:Evt,Qh0 e o/\∀rec:MS->Option MS,z13.j1015a rec some v k (acc.map Evt.r) o (i:Int)=rec (((i+1:Nat):Int),(acc++[e]).map Evt.r,o.2.1,o.2.2.1,o.2.2.2):=by
 have e2:Int.tmod v 900=v%900:=Z76 (by omega)
 have e4:Int.tmod k 4=k%4:=Z76 hk.1
 by_cases h2:Int.tmod k 4=2
 ·obtain ⟨l1,l2⟩:=Qcq (z:=v%900) (by omega)
  obtain ⟨e,h3,h4⟩:=Qjb hacc hi hk hv hr (t:=itxt (v%900)) (.inr (.inl ⟨h2,rfl⟩))
  refine ⟨e,h3,λrec=>?_⟩
  unfold z13.j1015a
  rw [Qav (z:=v) (by omega),Zb,bif_t h2,e2,Qav (z:=v%900) (by omega),Zb]
  unfold z13.j1019a
  rw [Zf (show ¬Int.tmod k 4=3 by omega)]
  simp only [Zo,Zd]
  rw [Qkn l2,Zb]
  exact h4 rec
 ·by_cases h3:Int.tmod k 4=3
  ·obtain ⟨e,g3,g4⟩:=Qjb hacc hi hk hv hr (t:=[]) (.inl ⟨h3,rfl⟩)
   refine ⟨e,g3,λrec=>?_⟩
   unfold z13.j1015a
   rw [Qav (z:=v) (by omega),Zb,Qb h2]
   unfold z13.j1019a
   rw [Zt h3]
   exact g4 rec
  ·obtain ⟨l1,l2⟩:=Qcq (z:=v) (by omega)
   obtain ⟨e,g3,g4⟩:=Qjb hacc hi hk hv hr (t:=itxt v) (.inr (.inr ⟨by omega,rfl⟩))
   refine ⟨e,g3,λrec=>?_⟩
   unfold z13.j1015a
   rw [Qav (z:=v) (by omega),Zb,Qb h2]
   unfold z13.j1019a
   rw [Zf h3]
   simp only [Zo,Zd]
   rw [Qkn l2,Zb]
   exact g4 rec
structure Qey (acc:List Evt) (y m d:Int):Prop where
 seq:Seq 0 0 0 acc
 len:∀e∈acc,e.v.length<=200
 r:right y m d
 ahead:∀y' m' d',right y' m' d'->kd y m d<=kd y' m' d'->¬dcmp y' m' d' (lastOf 0 0 0 acc).1 (lastOf 0 0 0 acc).2.1 (lastOf 0 0 0 acc).2.2<0
theorem Qn5 {D K U:J0} (hD:∀n∈D,0<=n/\n<256) (hK:∀n∈K,0<=n/\n<256) (hU:∀n∈U,0<=n/\n<4294967296):∀(f i:Nat) (acc:List Evt) (y m d:Int),i+f=16->acc.length<=i->Qey acc y m d ->
  ∃x:MS,∃E:List Evt,Runs (λrec x=>z13.l0P D K U rec some x) ((i:Int),acc.map Evt.r,y,m,d) x/\x.2.1=E.map Evt.r/\E.length<=16/\∃y' m' d',Qey E y' m' d'
 |
  0,i,acc,y,m,d,h,ha,hv=>by
  refine ⟨((i:Int),acc.map Evt.r,y,m,d),acc,.done λrec=>?_,rfl,by omega,_,_,_,hv⟩
  unfold z13.l0P
  simp only
  by_cases hl:(i:Int)<((D.length:Nat):Int)
  ·rw [bif_t hl,Qb (by omega)]
  ·rw [Qb hl]
 |
  f+1,i,acc,y,m,d,h,ha,hv=>by
  by_cases hl:i<D.length
  ·have mem:∀{l:J0} {j:Nat},j<l.length->l.getD j 0∈l:=λ{l j} hj=>by
    rw [Zl,Z1 hj];exact Z15 hj
   obtain ⟨y1,m1,d1,r,hr1,hkd⟩:=Qhq hl (by omega) (hD _ (mem hl)) _ 0 y m d (Z18 _) hv.r
   have e1:z13.l2 (i:Int) D (0,y,m,d)=some ((((D.getD i 0)%71).toNat:Int),y1,m1,d1):=r.lfp
   generalize ((((D.getD i 0)%71).toNat:Nat):Int)=q at e1
   have hval:∀k:Int,0<=k/\k<256->∃e:Evt,Qh0 e (q,y1,m1,d1)/\∀rec:MS->Option MS,z13.j1014a rec some (i:Int) U k (acc.map Evt.r) (q,y1,m1,d1)=rec (((i+1:Nat):Int),(acc++[e]).map Evt.r,y1,m1,d1):=λk hk=>by
    by_cases hu:i<U.length
    ·have:=hU _ (mem hu)
     obtain ⟨e,h1,h2⟩:=Qou (acc:=acc) (by omega) (i:=i) (by omega) hk (v:=1+U.getD i 0) (by omega) (o:=(q,y1,m1,d1)) hr1
     refine ⟨e,h1,λrec=>?_⟩
     unfold z13.j1014a
     rw [bif_t (by omega),if_pos (by omega),Zi,Qc (n:=U.getD i 0) (by omega) (by omega),Qc (by omega) (by omega)]
     exact h2 rec
    ·obtain ⟨e,h1,h2⟩:=Qou (acc:=acc) (by omega) (i:=i) (by omega) hk (v:=100*((i:Int)+1)) (by omega) (o:=(q,y1,m1,d1)) hr1
     refine ⟨e,h1,λrec=>?_⟩
     unfold z13.j1014a
     rw [Qb (by omega),Qc (n:=(i:Int)+1) (by omega) (by omega),Qc (by omega) (by omega)]
     exact h2 rec
   have hkind:∃k:Int,(0<=k/\k<256)/\∀rec:MS->Option MS,z13.l0P D K U rec some ((i:Int),acc.map Evt.r,y,m,d)=z13.j1014a rec some (i:Int) U k (acc.map Evt.r) (q,y1,m1,d1):=by
    by_cases hk:i<K.length
    ·have:=hK _ (mem hk)
     refine ⟨K.getD i 0,this,λrec=>?_⟩
     unfold z13.l0P
     simp only
     rw [bif_t (by omega),bif_t (by omega),e1,Zb,bif_t (by omega),if_pos (by omega),Zi,Qc (by omega) (by omega)]
    ·refine ⟨(i:Int),by omega,λrec=>?_⟩
     unfold z13.l0P
     simp only
     rw [bif_t (by omega),bif_t (by omega),e1,Zb,Qb (by omega)]
   obtain ⟨k,hk,hst⟩:=hkind
   obtain ⟨e,he,hev⟩:=hval k hk
   have hm:Qey (acc++[e]) y1 m1 d1:=by
    refine ⟨Qnp hv.seq he.ok (by rw [he.y,he.m,he.d];exact hv.ahead y1 m1 d1 hr1 hkd),λe' h'=>?_,hr1,λy' m' d' h' hk'=>?_⟩
    ·rcases Z50.1 h' with h'|h'
     ·exact hv.len e' h'
     ·simp only [Z113] at h';subst h';exact he.len
    ·rw [Qqs,he.y,he.m,he.d];exact Qwc h' hr1 hk'
   obtain ⟨x,E,hx,h1,h2,h3⟩:=Qn5 hD hK hU f (i+1) (acc++[e]) y1 m1 d1 (by omega) (by simp;omega) hm
   exact ⟨x,E,.step (λrec=>by rw [hst,hev]) hx,h1,h2,h3⟩
  ·refine ⟨((i:Int),acc.map Evt.r,y,m,d),acc,.done λrec=>?_,rfl,by omega,_,_,_,hv⟩
   unfold z13.l0P
   simp only
   rw [Qb (by omega)]
theorem Qs4 {D K U:J0} (hD:∀n∈D,0<=n/\n<256) (hK:∀n∈K,0<=n/\n<256) (hU:∀n∈U,0<=n/\n<4294967296) {a b c y m d:Int} (hr:right y m d) :
  ∃E:List Evt,z13.F a b c D K U y m d=some (E.map Evt.r)/\E.length<=16/\∃y' m' d',Qey E y' m' d':=by
 obtain ⟨x,E,hx,h1,h2,h3⟩:=Qn5 hD hK hU 16 0 [] y m d (by omega) (by simp) ⟨trivial,by simp,hr,λy' m' d' h' _=>Qwb h'⟩
 have e:z13.l0 D K U (0,[],y,m,d)=some x:=hx.lfp
 refine ⟨E,?_,h2,h3⟩
 unfold z13.F
 rw [e,Zb,h1]
end Go.Proofs.YtihfdjkjpncjfaaGreatDoor.A
end
