/- Part 4 of the proof of ScriptPrints.card. -/
import Derived.Test.YtjfipepaaddlmaaGreatDoorCu3
import Derived.Deep.DeepHandedRow
import Derived.Lib.LaidTab
set_option linter.unusedVariables false
set_option linter.unusedSimpArgs false
section
namespace Go.Proofs.YtjfipepaaddlmaaGreatDoor.A
open Go
def sz (n:Nat):Nat:=(toB 10 n).length
theorem Qbk (n:Nat):n<10^sz n:=Qfn b10
theorem Qx {n k:Nat} (h:n<10^k):sz n<=k:=Ji b10 h
theorem Jz {m n:Nat} (h:m<=n):sz m<=sz n:=Qx (Nat.lt_of_le_of_lt h (Qbk n))
theorem Q7 (n:Nat):(lb n).length<=sz n:=Ji bL (Z11 (Qbk n) (Nat.pow_le_pow_left (by decide) _))
theorem Wa (n:Nat):(dg n).length<=sz n:=Ji b4 (Z11 (Qbk n) (Nat.pow_le_pow_left (by decide) _))
theorem W8 (m n:Nat):sz (m*n)<=sz m+sz n:=Qx (by rw [Z91];exact Nat.mul_lt_mul_of_lt_of_le (Qbk m) (Z66 (Qbk n)) (Z97 (by decide)))
theorem Qf7:sz 0=0:=by simp [sz,toB_zero]
theorem lb_zero:lb 0=[]:=toB_zero LB
theorem Qec:dg 0=[]:=toB_zero 10000
def isD (b:UInt8):Bool:=decide (48<=b.toNat)&&decide (b.toNat<=57)
def digs (s:J1):Bool:=s.all isD
theorem Yh {s:J1}:digs s=true↔Qu s:=by simp [digs,Qu,digit,isD]
theorem Qiz (b c:UInt8):(b == c)=decide (b.toNat=c.toNat):=by
 rw [Z59];simp [UInt8.toNat_inj]
theorem Qsa (b:UInt8):([48,49,50,51,52,53,54,55,56,57]:J1).contains b=isD b:=by
 rw [Z59]
 simp only [List.contains_cons,List.contains_nil,Qiz,isD]
 simp
 omega
theorem Qdh {α:Type} {p:α->Bool}:∀{l:List α},l.dropWhile p=[]↔∀x∈l,p x=true
 |[]=>by simp
 |
  a::l=>by
  by_cases h:p a=true
  ·rw [List.dropWhile_cons_of_pos h,Qdh (l:=l)];simp [h]
  ·rw [List.dropWhile_cons_of_neg h];simp [h]
theorem Qm0 (s cs:J1):Lib.trimS s cs=[]↔∀b∈s,cs.contains b=true:=by
 unfold Lib.trimS Lib.trimLeftS Lib.trimRightS
 rw [Qdh]
 constructor
 ·intro h
  cases he:s.reverse.dropWhile (cs.contains ·) with
  |
   nil=>
   rw [Qdh] at he
   exact λb hb=>he b (List.mem_reverse.2 hb)
  |
   cons x l=>
   have h1:=List.head?_dropWhile_not (cs.contains ·) s.reverse
   rw [he] at h1
   have h2:=h x (by rw [he];simp)
   simp only [List.head?_cons] at h1
   rw [h2] at h1;simp at h1
 ·intro h
  have he:s.reverse.dropWhile (cs.contains ·)=[]:=Qdh.2 λb hb=>h b (List.mem_reverse.1 hb)
  rw [he];simp
theorem Qkh (s:J1) (hs:s.length<=9223372036854775807):∃r,z3.F s [48,49,50,51,52,53,54,55,56,57]=some r/\decide (r=[])=digs s:=by
 unfold z3.F
 rw [if_pos ⟨hs,by decide,by decide⟩]
 refine ⟨_,rfl,?_⟩
 rw [Z59,decide_eq_true_iff,Qm0,digs,Z14]
 simp only [Qsa]
def numOK (s:J1):Bool:=!decide (s=[])&&digs s && !(decide (1<s.length)&&decide ((s.getD 0 0).toNat=48))
def mDigits (s:J1):Nat×Int:=if 4096<s.length then (0,7) else if numOK s then ((tv 0 s).toNat,0) else (0,5)
theorem Qtl {s:J1} {i:Nat} (hi:i<s.length) (h:(s.getD i 0).toNat<128):Utf8.decode ⟨s.toArray⟩ i=((s.getD i 0).toNat,1):=by
 have e:(ByteArray.mk s.toArray).get! (i+0)=s.getD i 0:=by
  show s.toArray[i+0]! = _
  simp [List.getD,hi]
 unfold Utf8.decode
 simp only [e]
 rw [if_pos h]
theorem Qml {n:Int} (h1:-2147483648<=n) (h2:n<2147483648):wr .i32 n=n:=by
 simp only [wr,IntKind.wrap,IntKind.signed,IntKind.bits]
 simp;omega
theorem Qkb {s:J1} (hs:Qu s) (hl:s.length<=18):∀(f i:Nat) (d:Int),i+f=s.length->0<=d/\d<(10^i:Nat) ->
  Runs (λrec x=>z37.l2P s rec some x) (d,i) (tv d (s.drop i),s.length)
 |
  0,i,d,hf,_=>by
  have:i=s.length:=by omega
  subst this
  refine .done λrec=>?_
  unfold z37.l2P
  simp only
  rw [if_neg (by omega),Z27 (Z5 _)]
  rfl
 |
  f+1,i,d,hf,hd=>by
  have hi:i<s.length:=by omega
  have hb:=hs s[i] (Z9 hi)
  unfold digit at hb
  have eg:s.getD i 0=s[i]:=by simp [List.getD,hi]
  have hp:(10^i:Nat)<=10^17:=Z54 (by decide) (by omega)
  have hp':((10^i:Nat):Int)<=100000000000000000:=Int.ofNat_le.2 hp
  have ih:=Qkb hs hl f (i+1) (10*d+(s[i].toNat:Int)-48) (by omega) ⟨by omega,by rw [Z38,Z26];omega⟩
  rw [Z17 hi]
  refine .step (λrec=>?_) ih
  unfold z37.l2P
  simp only
  rw [if_pos hi,Qtl hi (by rw [eg];omega),eg]
  simp only
  rw [Qml (by omega) (by omega),Qq (n:=(s[i].toNat:Int)-48) (by omega) (by omega),Qq (n:=10*d) (by omega) (by omega),Qq (by omega) (by omega)]
  congr 2;omega
theorem Qvd {s:J1} {n j k:Nat} (hs:Qu s) (hk:k<=s.length) (hk':k<=18) (hn:n<10^j) (hj:j<=8192) {R:Type} (rec done:(J1×Bool×J0)->Option R) :
  z37.j1011a rec done (k:Int) s (lb n)=rec (s.drop k,false,lb (n*1000000000000000000+(tv 0 (s.take k)).toNat)):=by
 have hds:Qu (s.take k):=λb hb=>hs b (Z52 hb)
 have hlen:(s.take k).length=k:=by rw [Z13];omega
 have htb:=W6 hds
 rw [hlen] at htb
 have hp:(10^k:Nat)<=10^18:=Z54 (by decide) hk'
 have hp':((10^k:Nat):Int)<=1000000000000000000:=Int.ofNat_le.2 hp
 have r:=Qkb hds (by omega) (s.take k).length 0 0 (by omega) ⟨Int.le_refl 0,by decide⟩
 have er:z37.l2a (s.take k) ((0:Int),0)=some (tv 0 (s.take k),(s.take k).length):=r.lfp
 obtain ⟨U,hU⟩:∃U:Nat,1000000000000000000=U:=⟨_,rfl⟩
 have hU':Int.toNat 1000000000000000000=U:=by omega
 have hUs:sz U<=19:=Qx (by omega)
 have hsn:=Z48 (Q7 n) (Qx hn)
 have hsu:=Z48 (Q7 U) hUs
 have hsm:=Z48 (Q7 (n*U)) (Z48 (W8 n U) (Nat.add_le_add (Qx hn) hUs))
 have hst:=Z48 (Q7 (tv 0 (s.take k)).toNat) (Qx (k:=18) (by omega))
 have e1:z15.F [(1000000000000000000:Int)]=some (lb U):=by rw [Yb (by omega),hU']
 have e2:z15.F [tv 0 (s.take k)]=some (lb (tv 0 (s.take k)).toNat):=Yb (by omega)
 have e3:z36.F (lb n) (lb U)=some (lb (n*U)):=Qbb (by omega)
 have e4:z35.F (lb (n*U)) (lb (tv 0 (s.take k)).toNat)=some (lb (n*U+(tv 0 (s.take k)).toNat)):=Qe8 (by omega)
 have e5:(0:Int)<=(k:Int)/\(k:Int)<=((s.length:Nat):Int):=by omega
 rw [hU]
 unfold z37.j1011a
 rw [if_pos e5,Zi,er]
 simp only [Zb]
 rw [e1]
 simp only [Zb]
 rw [e3]
 simp only [Zb]
 rw [e2]
 simp only [Zb]
 rw [e4]
 simp only [Zb]
 rw [if_pos e5]
theorem Ql8:∀(m:Nat) (s:J1),s.length<=m->Qu s->∀(n j:Nat) (first:Bool),n<10^j->j+s.length<=8192->((first=true/\n=0)\/(first=false/\s.length%18=0)) ->
  ∃f',Runs (λrec x=>z37.l0P rec some x) (s,first,lb n) ([],f',lb (tv n s).toNat)
 |
  0,s,hm,hs,n,j,first,hn,hj,hf=>by
  have:s=[]:=List.length_eq_zero_iff.1 (by omega)
  subst this
  refine ⟨first,.done λrec=>?_⟩
  simp [z37.l0P,tv]
 |
  m+1,s,hm,hs,n,j,first,hn,hj,hf=>by
  by_cases hne:s=[]
  ·subst hne
   refine ⟨first,.done λrec=>?_⟩
   simp [z37.l0P,tv]
  ·have hpos:0<s.length:=Z21.2 hne
   have key:∃k:Nat,0<k/\k<=s.length/\k<=18/\(n=0\/k=18)/\(s.length-k)%18=0 /\
     ∀rec,z37.l0P rec some (s,first,lb n)=z37.j1011a rec some (k:Int) s (lb n):=by
    have hd:(!decide (s=([]:J1)))=true:=by rw [Zf hne];rfl
    rcases hf with ⟨rfl,hn0⟩|⟨rfl,h18⟩
    ·have em:Int.tmod (s.length:Int) 18=((s.length%18:Nat):Int):=by rw [Qae (by omega)];rfl
     by_cases h0:s.length%18=0
     ·refine ⟨18,by omega,by omega,by omega,.inr rfl,by omega,λrec=>?_⟩
      unfold z37.l0P
      simp only [hd,Zn,Zd,Zc]
      rw [em,bif_t (by omega)];rfl
     ·refine ⟨s.length%18,by omega,Nat.mod_le _ _,by omega,.inl hn0,by omega,λrec=>?_⟩
      unfold z37.l0P
      simp only [hd,Zn,Zd,Zc]
      rw [em,Qc (by omega)]
    ·refine ⟨18,by omega,by omega,by omega,.inr rfl,by omega,λrec=>?_⟩
     unfold z37.l0P
     simp only [hd,Zo,Zd]
     rfl
   obtain ⟨k,k0,k1,k2,k3,k4,k5⟩:=key
   have hds:Qu (s.take k):=λb hb=>hs b (Z52 hb)
   have hdd:Qu (s.drop k):=λb hb=>hs b (Z70 hb)
   have hlen:(s.take k).length=k:=by rw [Z13];omega
   have htb:=W6 hds
   rw [hlen] at htb
   have htv:tv n (s.take k)=((n*1000000000000000000+(tv 0 (s.take k)).toNat:Nat):Int):=by
    rw [Qbu,hlen]
    rcases k3 with h|h
    ·subst h;simp;omega
    ·subst h
     have:((10^18:Nat):Int)=1000000000000000000:=rfl
     rw [this];omega
   have hn':n*1000000000000000000+(tv 0 (s.take k)).toNat<10^(j+k):=by
    have hp0:0<10^j:=Z97 (by decide)
    rcases k3 with h|h
    ·subst h
     have:10^k<=10^(j+k):=Z54 (by decide) (by omega)
     omega
    ·subst h
     have e18:(10^(j+18):Nat)=10^j*1000000000000000000:=by rw [Z91]
     have e18':((10^18:Nat):Int)=1000000000000000000:=rfl
     rw [e18]
     have:(n+1)*1000000000000000000<=10^j*1000000000000000000:=Z19 _ hn
     omega
   obtain ⟨f',r⟩:=Ql8 m (s.drop k) (by rw [Z22];omega) hdd (n*1000000000000000000+(tv 0 (s.take k)).toNat) (j+k) false hn' (by rw [Z22];omega) (.inr ⟨rfl,by rw [Z22];exact k4⟩)
   refine ⟨f',.step (y:=(s.drop k,false,lb (n*1000000000000000000+(tv 0 (s.take k)).toNat))) (λrec=>?_) ?_⟩
   ·rw [k5,Qvd hs k1 k2 hn (by omega)]
   ·have e:tv n s=tv ((n*1000000000000000000+(tv 0 (s.take k)).toNat:Nat):Int) (s.drop k):=by
     conv=>lhs;rw [<-List.take_append_drop k s]
     rw [Qcy,htv]
    rw [e];exact r
theorem digits_Parse (s:J1):z37.F s=some (lb (mDigits s).1,(mDigits s).2):=by
 unfold z37.F mDigits
 by_cases h1:4096<s.length
 ·rw [bif_t (by omega),if_pos h1,lb_zero]
 ·rw [Qc (by omega),if_neg h1]
  by_cases h2:s=[]
  ·subst h2;rw [bif_t rfl];simp [numOK,lb_zero]
  ·rw [Qc h2]
   obtain ⟨r,t1,t2⟩:=Qkh s (by omega)
   rw [t1]
   simp only [Zb]
   rw [t2]
   cases hd:digs s with
   |false=>simp [numOK,hd,lb_zero]
   |
    true=>
    have hds:=Yh.1 hd
    obtain ⟨f',r⟩:=Ql8 s.length s (Z5 _) hds 0 0 true (by decide) (by omega) (.inl ⟨rfl,rfl⟩)
    rw [lb_zero] at r
    have er:z37.l0 (s,true,[])=some ([],f',lb (tv ((0:Nat):Int) s).toNat):=r.lfp
    simp only [Zn,Zc]
    rw [er]
    have hpos:0<s.length:=Z21.2 h2
    by_cases h3:1<s.length
    ·rw [bif_t (by omega),if_pos (by omega)]
     by_cases h4:(s.getD 0 0).toNat=48
     ·rw [bif_t (by omega)]
      have:numOK s=false:=by simp [numOK,h3];intro _ _ ;simpa [List.getD] using h4
      rw [this];simp [lb_zero]
     ·rw [Qc (by omega)]
      have:numOK s=true:=by simp only [numOK,Zf h2,hd,Zf h4];simp
      rw [this];rfl
    ·rw [Qc (by omega)]
     have:numOK s=true:=by simp only [numOK,Zf h2,hd,Zf h3];simp
     rw [this];rfl
theorem Qgp (a:Int) (h0:0<=a) (h1:a<9223372036854775808):wr .i64 ((BitVec.ofInt (IntKind.bits .i64) a &&& BitVec.ofInt (IntKind.bits .i64) (1:Int)).toNat:Int)=a%2:=by
 have e:(BitVec.ofInt (IntKind.bits .i64) a &&& BitVec.ofInt (IntKind.bits .i64) (1:Int)).toNat=(a%2).toNat:=by
  rw [BitVec.toNat_and]
  have e1:(BitVec.ofInt (IntKind.bits .i64) (1:Int)).toNat=2^1-1:=rfl
  have e2:(BitVec.ofInt (IntKind.bits .i64) a).toNat=(a%18446744073709551616).toNat:=by
   rw [BitVec.toNat_ofInt];rfl
  rw [e1,Nat.and_two_pow_sub_one_eq_mod,e2]
  omega
 rw [e,Qg (by omega) (by omega)];omega
theorem shr1 (a:Int):Int.fdiv a (2^(min 1 (64:Nat)))=a/2:=by
 rw [Int.fdiv_eq_ediv_of_nonneg _ (by decide)];rfl
theorem Qei:∀(f t n out:Nat),t<=f->t<9223372036854775808->sz out+t*sz n<=800000000 ->
  ∃n',Runs (λrec x=>z44.l0P rec some x) ((t:Int),lb n,lb out) ((0:Int),n',lb (out*n^t))
 |
  0,t,n,out,hf,ht,hb=>by
  have:t=0:=by omega
  subst this
  refine ⟨lb n,.done λrec=>?_⟩
  simp [z44.l0P]
 |
  f+1,t,n,out,hf,ht,hb=>by
  rcases Z15 t with h0|h0
  ·subst h0
   refine ⟨lb n,.done λrec=>?_⟩
   simp [z44.l0P]
  ·have hn:=Q7 n
   have ho:=Q7 out
   have hsq:=W8 n n
   have hon:=W8 out n
   have e2:(t:Int)/2=((t/2:Nat):Int):=by omega
   have em:(t:Int)%2=((t%2:Nat):Int):=by omega
   have hq:t*sz n=2*(t/2*sz n)+t%2*sz n:=by
    conv=>lhs;rw [<-Z58 t 2]
    rw [Z40,Z83]
   have hq2:t/2*sz (n*n)<=2*(t/2*sz n):=by
    have:=Nat.mul_le_mul_left (t/2) hsq
    have e:t/2*(sz n+sz n)=2*(t/2*sz n):=by rw [Nat.mul_add];omega
    omega
   have hpow:n^t=n^(t%2)*(n*n)^(t/2):=by
    rw [<-Nat.pow_two,<-Nat.pow_mul,<-Z91];congr 1;omega
   by_cases hodd:t%2=1
   ·rw [hodd,Z94] at hq
    by_cases h1:1<t
    ·have hge:1<=t/2:=by omega
     have hge':sz n<=t/2*sz n:=Nat.le_mul_of_pos_left _ hge
     obtain ⟨n',r⟩:=Qei f (t/2) (n*n) (out*n) (by omega) (by omega) (by omega)
     refine ⟨n',.step (λrec=>?_) (by rw [hpow,hodd,Nat.pow_one,<-Z83];exact r)⟩
     unfold z44.l0P
     simp only
     rw [bif_t (by omega),Qgp _ (by omega) (by omega),em,hodd,bif_t (by omega),Qbb (by omega)]
     simp only [Zb]
     rw [bif_t (by omega),Qbb (by omega),shr1,e2]
     rfl
    ·have ht1:t=1:=by omega
     subst ht1
     obtain ⟨n',r⟩:=Qei f 0 n (out*n) (by omega) (by omega) (by omega)
     refine ⟨n',.step (λrec=>?_) (by simpa using r)⟩
     unfold z44.l0P
     simp only
     rw [bif_t (by omega),Qgp _ (by omega) (by omega),bif_t (by decide),Qbb (by omega)]
     simp only [Zb]
     rw [Qc (by omega),shr1]
     rfl
   ·have h2:t%2=0:=by omega
    rw [h2,Nat.zero_mul,Z79] at hq
    have hge:1<=t/2:=by omega
    have hge':sz n<=t/2*sz n:=Nat.le_mul_of_pos_left _ hge
    obtain ⟨n',r⟩:=Qei f (t/2) (n*n) out (by omega) (by omega) (by omega)
    refine ⟨n',.step (λrec=>?_) (by rw [hpow,h2,Nat.pow_zero,Z94];exact r)⟩
    unfold z44.l0P
    simp only
    rw [bif_t (by omega),Qgp _ (by omega) (by omega),em,h2,Qc (by omega),bif_t (by omega),Qbb (by omega)]
    simp only [Zb]
    rw [shr1,e2]
theorem digits_power {n t:Nat} (ht:t<9223372036854775808) (h:t*sz n<=700000000):z44.F (lb n) (t:Int)=some (lb (n^t)):=by
 have h1:sz 1<=1:=Qx (by decide)
 obtain ⟨n',r⟩:=Qei t t n 1 (Z5 _) ht (by omega)
 have e:z44.l0 ((t:Int),lb n,lb 1)=some ((0:Int),n',lb (1*n^t)):=r.lfp
 unfold z44.F
 rw [Yb (by omega)]
 simp only [Zb]
 rw [show Int.toNat 1=1 from rfl,e,Z94]
 rfl
theorem digits_Ten {t:Nat} (ht:t<=4096):z45.F (t:Int)=some (lb (10^t),0):=by
 have h1:sz 10<=2:=Qx (by decide)
 have h2:=Nat.mul_le_mul_left t h1
 unfold z45.F
 rw [Qc (by omega),Qc (by omega),Yb (by omega)]
 simp only [Zb]
 rw [show Int.toNat 10=10 from rfl,digits_power (by omega) (by omega)]
 rfl
def Y8 (a b:Nat):Prop:=z25.F (lb a) (lb b)=some (lb (a/b),lb (a%b),0)
def Qbr (M:Nat):Prop:=∀x y,x<=M->y<=M->0<y->Y8 x y
theorem Qco {m n:Int}:cmpI m n<0↔m<n:=by unfold cmpI;split<;>(try split)<;>omega
theorem Jf {m n:Int}:cmpI m n>0↔n<m:=by unfold cmpI;split<;>(try split)<;>omega
theorem Qfw {m n:Int}:cmpI m n=0↔m=n:=by unfold cmpI;split<;>(try split)<;>omega
theorem Qde {a:Nat} (h0:0<a) (h:a<18446744073709551616):lb a=[(a:Int)]:=by
 show toB LB a=_
 rw [Wv bL h0,Nat.mod_eq_of_lt h,Nat.div_eq_of_lt h,toB_zero]
theorem Qmc {a b:Int} (ha:0<=a/\a<18446744073709551616) (hb:0<b):z19.F 0 a b=some (a/b,a%b):=by
 unfold z19.F
 rw [Qc (by omega),Qc (by omega),bif_t rfl,if_neg (by omega),if_neg (by omega),J5 ha.1,Qae ha.1]
 have h1:=Int.ediv_nonneg ha.1 (Int.le_of_lt hb)
 have h2:=Int.ediv_le_self b ha.1
 rw [Qq h1 (by omega)]
theorem Qsn {a b:Int} (ha:0<=a/\a<18446744073709551616) (hb:0<b):z20.F [a] b=some ([a/b],a%b):=by
 have h0:z20.l0 [a] b ((0:Int),(0:Int),[(0:Int)])=some (a%b,(-1:Int),[a/b]):=by
  refine (Runs.step (y:=(a%b,(-1:Int),[a/b])) (λrec=>?_) (Runs.done λrec=>?_):Runs (λrec x=>z20.l0P [a] b rec some x) _ _).lfp
  ·unfold z20.l0P
   simp only [Z16]
   rw [bif_t (by omega),if_pos (by omega),show [a].getD (Int.toNat 0) 0=a from rfl,Qmc ha hb]
   rfl
  ·unfold z20.l0P
   simp only
   rw [Qc (by omega)]
 unfold z20.F
 simp only [Z16]
 rw [if_pos (by omega)]
 show ((z20.l0 [a] b ((0:Int),wr .i64 0,[(0:Int)])).bind _)=_
 rw [Qg (by omega) (by omega),h0]
 rfl
theorem Qjy {a b:Nat} (h:a<b) (hs:(lb a).length<=900000000):Y8 a b:=by
 unfold Y8 z25.F
 rw [Wx]
 simp only [Zb]
 rw [Qc (by omega),Qeh hs]
 simp only [Zb]
 have:cmpI (a:Int) b<0:=by unfold cmpI;rw [if_pos (by omega)];decide
 rw [bif_t this,Nat.div_eq_of_lt h,Nat.mod_eq_of_lt h,lb_zero]
theorem Qqp {a b:Nat} (ha:a<18446744073709551616) (hb:0<b):Y8 a b:=by
 have hl:(lb a).length<=1:=Ji bL (by simpa using ha)
 rcases Z53 a b with h|h
 ·exact Qjy h (by omega)
 ·unfold Y8 z25.F
  rw [Wx]
  simp only [Zb]
  rw [Qc (by omega),Qeh (by omega)]
  simp only [Zb]
  have:¬cmpI (a:Int) b<0:=by unfold cmpI;rw [if_neg (by omega)];split<;>omega
  rw [Qc this,Qde (by omega) ha,Qde hb (by omega),Qc0 (by show List.length _<=_;simp),Qc0 (by show List.length _<=_;simp)]
  simp only [Zb,Z16]
  rw [bif_t (by omega),if_pos (by omega),show [(b:Int)].getD 0 0=b from rfl,Qsn (by omega) (by omega)]
  simp only [Zb]
  have b1:a/b<=a:=Nat.div_le_self a b
  have b2:a%b<=a:=Nat.mod_le a b
  obtain ⟨q,hq⟩:∃q,a/b=q:=⟨_,rfl⟩
  obtain ⟨m,hm⟩:∃m,a%b=m:=⟨_,rfl⟩
  have e1:((a:Int)/b)=(q:Int):=by rw [<-hq];rfl
  have e2:((a:Int)%b)=(m:Int):=by rw [<-hm];rfl
  rw [hq] at b1 ⊢
  rw [hm] at b2 ⊢
  rw [e1,e2,Yb (by omega)]
  simp only [Zb]
  rw [Yb (by omega)]
  rfl
theorem quot_Gcd {M:Nat} (hD:Qbr M) {a b:Nat} (ha:a<=M) (hb:b<=M):z61.F (lb a) (lb b)=some (lb (Nat.gcd a b)):=by
 have key:∀(f a b:Nat),b<f->a<=M->b<=M->Runs (λrec x=>z61.l0P rec some x) (lb a,lb b) (lb (Nat.gcd a b),[]):=by
  intro f
  induction f with
  |zero=>intro a b h;omega
  |
   succ f ih=>
   intro a b h ha hb
   rcases Z15 b with h0|h0
   ·subst h0
    refine .done λrec=>?_
    unfold z61.l0P
    simp only [Wx,Zb]
    rw [Nat.gcd_zero_right,lb_zero];rfl
   ·have hm:=Z88 a h0
    have hmm:=Nat.mod_le a b
    have e:Nat.gcd a b=Nat.gcd b (a%b):=by rw [Nat.gcd_comm,Nat.gcd_rec,Nat.gcd_comm]
    rw [e]
    refine .step (λrec=>?_) (ih b (a%b) (by omega) hb (by omega))
    unfold z61.l0P
    simp only [Wx,Zb]
    rw [Zf (by omega),Zo,Zd,hD a b ha hb h0]
    rfl
 unfold z61.F
 have e:z61.l0 (lb a,lb b)=some (lb (Nat.gcd a b),[]):=(key (b+1) a b (by omega) ha hb).lfp
 rw [e];rfl
theorem Qwv (z:Int):decide (cmpI z 0<0)=neg z:=by
 unfold cmpI;apply decide_eq_decide.2;split<;>(try split)<;>omega
theorem Qf3 {z:Int} {g:Nat} (h:g∣z.natAbs) (h0:0<g):(z/(g:Int)).natAbs=z.natAbs/g/\(z/(g:Int)<0↔z<0):=by
 obtain ⟨k,hk⟩:=Int.ofNat_dvd_left.2 h
 subst hk
 have hg:(g:Int)≠0:=by omega
 rw [Int.mul_ediv_cancel_left _ hg,Z78,Int.natAbs_natCast,Nat.mul_div_cancel_left _ h0]
 refine ⟨rfl,?_⟩
 constructor
 ·intro h;exact Int.mul_neg_of_pos_of_neg (by omega) h
 ·intro h
  rcases Int.lt_or_le k 0 with h'|h'
  ·exact h'
  ·have:=Z60 (show (0:Int)<=g by omega) h';omega
theorem frac_made {M:Nat} (hD:Qbr M) {num:Int} {den:Nat} (h0:0<den) (hn:num.natAbs<=M) (hd:den<=M) (hs:sz den<=700000000) :
  z62.F (lb num.natAbs) (neg num) (lb den)=some (lb (mkRat num den).num.natAbs,neg (mkRat num den).num,lb ((mkRat num den).den-1)):=by
 have hg:0<Nat.gcd num.natAbs den:=Nat.gcd_pos_of_pos_right _ h0
 have hgd:Nat.gcd num.natAbs den<=den:=Nat.gcd_le_right _ h0
 have hdv:=Nat.gcd_dvd_right num.natAbs den
 have hdv2:=Nat.gcd_dvd_left num.natAbs den
 have hp:0<den/Nat.gcd num.natAbs den:=Nat.div_pos hgd hg
 have hle:den/Nat.gcd num.natAbs den<=den:=Nat.div_le_self _ _
 have hsz:=Z48 (Q7 _) (Z48 (Jz hle) hs)
 obtain ⟨q1,q2⟩:=Qf3 hdv2 hg
 unfold z62.F z60.F
 simp only [Zb]
 rw [quot_Gcd hD hn hd]
 simp only [Zb]
 rw [Rat.num_mkRat,Rat.den_mkRat,if_neg (by omega),if_neg (by omega),Nat.gcd_comm den]
 generalize Nat.gcd num.natAbs den=g at *
 have d1:z25.F (lb num.natAbs) (lb g)=_:=hD _ _ hn (by omega) hg
 have d2:z25.F (lb den) (lb g)=_:=hD _ _ hd (by omega) hg
 rw [d1]
 simp only [Zb]
 rw [d2]
 simp only [Zb]
 rw [Yb (by omega)]
 simp only [Zb]
 rw [show Int.toNat 1=1 from rfl,Qgi (by omega),if_pos (by omega)]
 simp only [Zb]
 rw [Qa3]
 simp only [Zb]
 rw [Qwv,Yr (z:=num/(g:Int)) q1.symm (by
  have hz:num/(g:Int)<0↔num<0:=q2
  by_cases h:num<0
  ·exact .inl ⟨Zt h,by omega⟩
  ·exact .inr ⟨Zf h,by omega⟩)]
 rfl
abbrev fr (q:Rat):J0×Bool×J0:=(lb q.num.natAbs,neg q.num,lb (q.den-1))
theorem frac_Of {M:Nat} (hD:Qbr M) {num den:Int} (h0:den≠0) (hn:num.natAbs<=M) (hd:den.natAbs<=M) (hs:sz den.natAbs<=700000000) :
  z63.F (lb num.natAbs) (neg num) (lb den.natAbs) (neg den)=some ((fr (Rat.divInt num den)).1,(fr (Rat.divInt num den)).2.1,(fr (Rat.divInt num den)).2.2,0):=by
 have hc:cmpI den 0=if den<0 then -1 else 1:=by
  unfold cmpI
  by_cases h:den<0
  ·rw [if_pos h,if_pos h]
  ·rw [if_neg h,if_neg h,if_neg h0]
 unfold z63.F
 rw [Qa3]
 simp only [Zb]
 rw [hc]
 by_cases h:den<0
 ·have e:Rat.divInt num den=mkRat (-num) den.natAbs:=by
   have:den = -((den.natAbs:Nat):Int):=by omega
   conv=>lhs;rw [this]
   rw [Rat.divInt_neg',Rat.divInt_ofNat]
  rw [if_pos h,Qc (by decide),bif_t rfl,Qn0]
  simp only [Zb]
  unfold z63.j4 z60.F
  simp only [Zb]
  rw [frac_made hD (by omega) (by omega) hd hs,e]
  rfl
 ·have e:Rat.divInt num den=mkRat num den.natAbs:=by
   have:den=((den.natAbs:Nat):Int):=by omega
   conv=>lhs;rw [this]
   rw [Rat.divInt_ofNat]
  rw [if_neg h,Qc (by decide),Qc (by decide)]
  unfold z63.j4 z60.F
  simp only [Zb]
  rw [frac_made hD (by omega) hn hd hs,e]
  rfl
theorem Qpu (q:Rat) (a:J0) (b:Bool) (hs:sz q.den<=700000000):z65.F a b (lb (q.den-1))=some (lb q.den):=by
 have h1:sz 1<=1:=Qx (by decide)
 have h2:=Z48 (Q7 (q.den-1)) (Z48 (Jz (Nat.sub_le _ _)) hs)
 have h3:=Z48 (Q7 1) h1
 unfold z65.F
 rw [Yb (by omega)]
 simp only [Zb]
 rw [show Int.toNat 1=1 from rfl,Qe8 (by omega),Nat.sub_add_cancel q.den_pos]
 rfl
theorem Qkm (q:Rat) (a:J0) (b:Bool) (hs:sz q.den<=700000000):z66.F a b (lb (q.den-1))=some (lb (q.den:Int).natAbs,neg (q.den:Int)):=by
 unfold z66.F
 rw [Qpu q a b hs]
 simp only [Zb]
 rw [Yr (z:=(q.den:Int)) (by omega) (.inr ⟨rfl,by omega⟩)]
 rfl
theorem Qir (q r:Rat):q/r=Rat.divInt (q.num*r.den) (q.den*r.num):=by
 rw [Rat.div_def,Rat.inv_def]
 conv=>lhs;rw [<-Rat.num_divInt_den q,Rat.divInt_mul_divInt]
theorem Qsw {M:Nat} (hD:Qbr M) {q r:Rat} (h0:r≠0) (hn:(q.num*r.den).natAbs<=M) (hd:(q.den*r.num).natAbs<=M) (hs:sz q.num.natAbs+sz r.den<=600000000) (hs':sz r.num.natAbs+sz q.den<=600000000) :
  z67.F (lb q.num.natAbs) (neg q.num) (lb (q.den-1)) (lb r.num.natAbs) (neg r.num) (lb (r.den-1))=some ((fr (q/r)).1,(fr (q/r)).2.1,(fr (q/r)).2.2,0):=by
 have e1:sz (r.den:Int).natAbs=sz r.den:=rfl
 have e2:sz (q.den:Int).natAbs=sz q.den:=rfl
 have l1:=Q7 q.num.natAbs
 have l2:=Q7 (r.den:Int).natAbs
 have l3:=Q7 (q.den:Int).natAbs
 have l4:=Q7 r.num.natAbs
 have hr:r.num≠0:=λh=>h0 (Rat.num_eq_zero.1 h)
 have hqd:=q.den_nz
 have m1:=W8 (q.den:Int).natAbs r.num.natAbs
 rw [<-Z78] at m1
 unfold z67.F
 rw [Qkm r _ _ (by omega)]
 simp only [Zb]
 rw [Qhb (by omega)]
 simp only [Zb]
 rw [Qkm q _ _ (by omega)]
 simp only [Zb]
 rw [Qhb (by omega)]
 simp only [Zb]
 rw [frac_Of hD (Int.mul_ne_zero (by omega) hr) hn hd (by show sz _<=_;omega),Qir]
 rfl
def cutNeg (s:J1):J1×Bool:=match s with|[]=>([],false)|b::t=>if b=45 then (t,true) else (b::t,false)
theorem Qnf (s:J1):(cutNeg s).1.length<=s.length:=by
 unfold cutNeg;split
 ·simp
 ·split<;>simp
theorem Qft (s:J1):z33.F s [45]=some (cutNeg s):=by
 unfold z33.F z32.F z31.F cutNeg
 cases s with
 |nil=>rfl
 |
  cons b t=>
  have e1:([45]:J1).length=1:=rfl
  have e2:Int.toNat ((1:Nat):Int)=1:=rfl
  simp only [e1,e2]
  rw [bif_t (by simp;omega),if_pos (by simp;omega)]
  simp only [Zb,List.take_succ_cons,List.take_zero,List.drop_succ_cons,Z45,List.cons.injEq,and_true]
  by_cases h:b=45
  ·rw [Zt h,if_pos h,if_pos (by simp;omega)];rfl
  ·rw [Zf h,if_neg h];rfl
def mWhole (s:J1):Int×Int:=
 if (mDigits (cutNeg s).1).2≠0 then (0,(mDigits (cutNeg s).1).2)
 else if (cutNeg s).2&&decide ((mDigits (cutNeg s).1).1=0) then (0,5)
 else (if (cutNeg s).2 then -((mDigits (cutNeg s).1).1:Int) else (mDigits (cutNeg s).1).1,0)
theorem whole_Parse (s:J1):z38.F s=some (lb (mWhole s).1.natAbs,neg (mWhole s).1,(mWhole s).2):=by
 unfold z38.F mWhole
 rw [Qft]
 simp only [Zb]
 rw [digits_Parse]
 simp only [Zb]
 generalize mDigits (cutNeg s).1=d
 generalize (cutNeg s).2=below
 by_cases h:d.2=0
 ·have h':¬(d.2≠0):=λhh=>hh h
  rw [Zt h,if_neg h']
  simp only [Zn,Zc]
  cases below with
  |
   true=>
   simp only [Zd,Z24,if_true]
   rw [Wx]
   simp only [Zb]
   by_cases h0:d.1=0
   ·rw [Zt h0]
    simp only [if_true,Zd]
    rw [show Int.natAbs 0=0 from rfl,lb_zero];rfl
   ·rw [Zf h0]
    simp only [Zc]
    rw [Yr (z:=-(d.1:Int)) (by omega) (.inl ⟨rfl,by omega⟩)]
    simp
  |
   false=>
   simp only [Zc,Z37]
   rw [Yr (z:=(d.1:Int)) (by omega) (.inr ⟨rfl,by omega⟩)]
   simp
 ·rw [Zf h,if_pos h]
  simp only [Zo,Zd]
  rw [show Int.natAbs 0=0 from rfl,lb_zero];rfl
def cutDot:J1->J1×Option J1
 |[]=>([],none)
 |b::t=>if b=46 then ([],some t) else (b::(cutDot t).1,(cutDot t).2)
theorem Qcu:∀{t:J1},(cutDot t).2=none->(cutDot t).1=t
 |[],_=>rfl
 |
  b::t,h=>by
  unfold cutDot at h ⊢
  split at h
  ·simp at h
  ·rename_i hb
   rw [if_neg hb]
   simp only at h ⊢
   rw [Qcu h]
theorem Qcq:∀{t r:J1},(cutDot t).2=some r->t=(cutDot t).1++46::r
 |[],r,h=>by simp [cutDot] at h
 |
  b::t,r,h=>by
  unfold cutDot at h ⊢
  split at h
  ·rename_i hb
   rw [if_pos hb,hb]
   simp only [Zs] at h
   rw [h];rfl
  ·rename_i hb
   rw [if_neg hb]
   simp only at h ⊢
   conv=>lhs;rw [Qcq h]
   rfl
theorem Jw (b:UInt8) (t:J1) (c:UInt8):byteIdx (b::t) c=if b=c then 0 else if byteIdx t c<0 then -1 else byteIdx t c+1:=by
 unfold byteIdx
 rw [Z8,List.range_succ_eq_map,List.find?_cons]
 by_cases h:b=c
 ·simp [h]
 ·have h1:((b::t).getD 0 0 == c)=false:=by simp [h]
  rw [h1,if_neg h]
  simp only
  rw [List.find?_map]
  have e:((λi=>(b::t).getD i 0 == c)∘Nat.succ)=λi=>t.getD i 0 == c:=by funext i;simp [List.getD]
  rw [e]
  cases (List.range t.length).find? λi=>t.getD i 0 == c with
  |none=>simp
  |some i=>simp;omega
theorem Qnm:∀t:J1,byteIdx t 46=if (cutDot t).2=none then -1 else ((cutDot t).1.length:Int)
 |[]=>by simp [byteIdx,cutDot]
 |
  b::t=>by
  have e:cutDot (b::t)=if b=46 then ([],some t) else (b::(cutDot t).1,(cutDot t).2):=by rw [cutDot]
  rw [Jw,Qnm t,e]
  by_cases h:b=46
  ·simp [h]
  ·rw [if_neg h,if_neg h]
   by_cases h2:(cutDot t).2=none
   ·simp [h2]
   ·simp [h2];omega
def plainB (s:J1):Bool:=!decide (s=[])&&digs s
def zeros (s:J1):Bool:=s.all (· == 48)
theorem dec_plain (s:J1) (h:s.length<=9223372036854775807):z49.F s=some (plainB s):=by
 unfold z49.F plainB
 by_cases h0:s=[]
 ·rw [Zt h0];rfl
 ·rw [Zf h0]
  obtain ⟨r,t1,t2⟩:=Qkh s h
  simp only [Zo,Zd]
  rw [t1]
  simp only [Zb]
  rw [t2];simp
theorem Qvl (b:UInt8):([48]:J1).contains b=(b == 48):=by
 simp only [List.contains_cons,List.contains_nil,Bool.or_false]
theorem Ql0 (s:J1) (hs:s.length<=9223372036854775807):∃r,z3.F s [48]=some r/\decide (r=[])=zeros s:=by
 unfold z3.F
 rw [if_pos ⟨hs,by decide,by decide⟩]
 refine ⟨_,rfl,?_⟩
 rw [Z59,decide_eq_true_iff,Qm0,zeros,Z14]
 simp only [Qvl]
theorem Qkl:∀{s:J1},Qu s->tv 0 (trimL s [48])=tv 0 s/\Qu (trimL s [48])/\(trimL s [48]).length<=s.length/\(trimL s [48]≠[]->((trimL s [48]).getD 0 0).toNat≠48)
 |[],h=>by simp [trimL,tv,Qu]
 |
  b::s,h=>by
  have ih:=Qkl (s:=s) λx hx=>h x (by simp [hx])
  by_cases hb:b=48
  ·have e:trimL (b::s) [48]=trimL s [48]:=by unfold trimL;exact List.dropWhile_cons_of_pos (by rw [hb];decide)
   rw [e]
   refine ⟨?_,ih.2.1,by rw [Z8];omega,ih.2.2.2⟩
   rw [ih.1,hb];rfl
  ·have e:trimL (b::s) [48]=b::s:=by unfold trimL;exact List.dropWhile_cons_of_neg (by simp [hb])
   rw [e]
   refine ⟨rfl,h,Z5 _,λ_ hh=>hb (UInt8.toNat_inj.1 hh)⟩
theorem Qiv {s:J1} (hd:Qu s) (hl:s.length<=4096):z37.F (if trimL s [48]=[] then [48] else trimL s [48])=some (lb (tv 0 s).toNat,0):=by
 obtain ⟨h1,h2,h3,h4⟩:=Qkl hd
 rw [digits_Parse]
 by_cases h:trimL s [48]=[]
 ·rw [if_pos h]
  rw [h] at h1
  rw [<-h1];rfl
 ·rw [if_neg h,<-h1]
  unfold mDigits
  have:numOK (trimL s [48])=true:=by
   unfold numOK
   rw [Zf h,Yh.2 h2,Zf (h4 h)];simp
  rw [if_neg (by omega),this];rfl
def Yu (below:Bool) (a:J1) (o:Option J1):Int×Nat×Int:=
 if !plainB a||(o.isSome && !plainB (o.getD []))||(decide (1<a.length)&&decide ((a.getD 0 0).toNat=48)) then (0,0,5)
 else if below&&zeros (a++o.getD []) then (0,0,5)
 else if 64<(o.getD []).length then (0,0,10)
 else (if below then -tv 0 (a++o.getD []) else tv 0 (a++o.getD []),(o.getD []).length,0)
def mDec (s:J1):Int×Nat×Int:=if 4096<s.length then (0,0,7) else Yu (cutNeg s).2 (cutDot (cutNeg s).1).1 (cutDot (cutNeg s).1).2
abbrev decR (m:Int×Nat×Int):J0×Bool×Int×Int:=(lb m.1.natAbs,neg m.1,(m.2.1:Int),m.2.2)
theorem Y0 (e:Int):decR (0,0,e)=([],false,0,e):=by unfold decR;simp [lb_zero]
theorem Qjm (n:Int) (h:0<=n) (below:Bool):z30.F (lb n.toNat) below=some (lb (if below then -n else n).natAbs,neg (if below then -n else n)):=by
 cases below
 ·rw [Yr (z:=n) (by omega) (.inr ⟨rfl,h⟩)];rfl
 ·rw [Yr (z:=-n) (by omega) (.inl ⟨rfl,by omega⟩)];rfl
theorem Qqk {rest a b:J1} {below lead:Bool} (h1:rest.take a.length=a) (h2:rest.drop (a.length+1)=b) (ha:Qu a) (hb:Qu b) (hl:a.length+b.length<=4096) :
  z50.j14 lead (rest,below) (a.length:Int)=some (decR (if lead then (0,0,5) else if below&&zeros (a++b) then (0,0,5) else if 64<b.length then (0,0,10) else (if below then -tv 0 (a++b) else tv 0 (a++b),b.length,0))):=by
 have e1:(wr .i64 ((a.length:Int)+1)).toNat=a.length+1:=by rw [Qg (by omega) (by omega)];omega
 have hab:Qu (a++b):=λx hx=>(Z41.1 hx).elim (ha x) (hb x)
 have hln:(a++b).length<=4096:=by rw [Z3];exact hl
 have key:z50.j16 false (rest,below) (a.length:Int)=some (decR (if 64<b.length then (0,0,10) else (if below then -tv 0 (a++b) else tv 0 (a++b),b.length,0))):=by
  unfold z50.j16
  simp only [e1,Zi,h1,h2,Zc]
  by_cases h64:64<b.length
  ·rw [bif_t (by omega),if_pos h64,Y0]
  ·rw [Qc (by omega),if_neg h64,if_pos (by omega)]
   have et:z4.F (a++b) [48]=some (trimL (a++b) [48]):=by unfold z4.F;rw [if_pos ⟨by decide,by decide⟩]
   rw [et]
   simp only [Zb]
   have ep:=Qiv hab hln
   have fin:∀x,z37.F x=some (lb (tv 0 (a++b)).toNat,0)->z50.j18 x (rest,below) (a.length:Int)=some (decR (if below then -tv 0 (a++b) else tv 0 (a++b),b.length,0)):=λx hx=>by
    unfold z50.j18
    rw [hx]
    simp only [Zb,e1,h2]
    rw [Qjm _ (W6 hab).1]
    rfl
   by_cases ht:trimL (a++b) [48]=[]
   ·rw [if_pos ht] at ep
    rw [bif_t ht];exact fin _ ep
   ·rw [if_neg ht] at ep
    rw [Qc ht];exact fin _ ep
 unfold z50.j14
 simp only [e1,Zi,h1,h2]
 cases lead with
 |true=>simp only [Zd,if_true];rw [Y0]
 |
  false=>
  simp only [Zc]
  rw [if_neg Bool.false_ne_true]
  cases below with
  |false=>simp only [Zc,Z37];rw [key];rfl
  |
   true=>
   obtain ⟨r,t1,t2⟩:=Ql0 (a++b) (by omega)
   simp only [Zd,Z24]
   rw [if_pos (by omega),t1]
   simp only [Zb]
   rw [t2]
   cases hz:zeros (a++b) with
   |true=>unfold z50.j16;simp only [Zd,if_true];rw [Y0]
   |false=>rw [key];rfl
theorem Qvx {a:J1} {below lead:Bool} (ha:Qu a) (hl:a.length<=4096) :
  z50.j22 lead (a,below)=some (decR (if lead then (0,0,5) else if below&&zeros a then (0,0,5) else (if below then -tv 0 a else tv 0 a,0,0))):=by
 have key:z50.j24 (a,below)=some (decR (if below then -tv 0 a else tv 0 a,0,0)):=by
  unfold z50.j24
  simp only [Z42]
  rw [if_pos (by simp;omega)]
  have et:z4.F a [48]=some (trimL a [48]):=by unfold z4.F;rw [if_pos ⟨by decide,by decide⟩]
  rw [et]
  simp only [Zb]
  have ep:=Qiv ha hl
  have fin:∀x,z37.F x=some (lb (tv 0 a).toNat,0)->z50.j26 x (a,below)=some (decR (if below then -tv 0 a else tv 0 a,0,0)):=λx hx=>by
   unfold z50.j26
   rw [hx]
   simp only [Zb]
   rw [Qjm _ (W6 ha).1]
   rfl
  by_cases ht:trimL a [48]=[]
  ·rw [if_pos ht] at ep
   rw [bif_t ht];exact fin _ ep
  ·rw [if_neg ht] at ep
   rw [Qc ht];exact fin _ ep
 unfold z50.j22
 simp only [Z42]
 cases lead with
 |true=>simp only [Zd,if_true];rw [Y0]
 |
  false=>
  simp only [Zc]
  rw [if_neg Bool.false_ne_true]
  cases below with
  |false=>simp only [Zc,Z37];rw [key];rfl
  |
   true=>
   obtain ⟨r,t1,t2⟩:=Ql0 a (by omega)
   simp only [Zd,Z24]
   rw [if_pos (by simp;omega),t1]
   simp only [Zb]
   rw [t2]
   cases hz:zeros a with
   |true=>simp only [Zd,if_true];rw [Y0]
   |false=>simp only [Zc];rw [key];rfl
theorem Qaa {s:J1} (h:plainB s=true):Qu s/\s≠[]:=by
 unfold plainB at h
 rw [Z4] at h
 exact ⟨Yh.1 h.2,by simpa using h.1⟩
theorem Qne {a:J1} (hne:a≠[]) {α:Type} (f:Bool->Option α) :
  (bif decide ((a.length:Int)>1) then (if (0:Int)<=(0:Int)/\(0:Int)<(a.length:Int) then f (decide (((a.getD 0 0).toNat:Int)=(48:Int))) else none) else f false)=f (decide (1<a.length)&&decide ((a.getD 0 0).toNat=48)):=by
 have hpos:=Z21.2 hne
 by_cases h:1<a.length
 ·rw [bif_t (by omega),if_pos (by omega),Zt h,Z24]
  congr 1;exact decide_eq_decide.2 (by omega)
 ·rw [Qc (by omega),Zf h,Z37]
theorem dec_Parse (s:J1):z50.F s=some (decR (mDec s)):=by
 unfold z50.F mDec
 by_cases h0:4096<s.length
 ·rw [bif_t (by omega),if_pos h0,Y0]
 ·rw [Qc (by omega),if_neg h0,Qft]
  simp only [Zb]
  have hlen:=Qnf s
  generalize cutNeg s=c at *
  obtain ⟨rest,below⟩:=c
  simp only at hlen ⊢
  have hp0:z49.F ([]:J1)=some false:=rfl
  by_cases hdot:([46]:J1)=rest
  ·subst hdot
   rw [bif_t rfl]
   simp only [Z16,List.take_zero,hp0,Zb]
   unfold z50.j4
   simp only [Zo,Zd]
   have:Yu below (cutDot [46]).1 (cutDot [46]).2=(0,0,5):=by simp [cutDot,Yu,plainB]
   rw [this,Y0]
   rfl
  ·rw [Qc hdot,if_pos (by simp)]
   have hi:z2.F rest ((([46]:J1).getD 0 0).toNat:Int)=some (byteIdx rest 46):=rfl
   rw [hi]
   simp only [Zb]
   rw [Qnm]
   cases ho:(cutDot rest).2 with
   |
    none=>
    have ha:=Qcu ho
    rw [if_pos rfl,Qc (by omega),ha,dec_plain _ (by omega)]
    simp only [Zb]
    unfold Yu
    simp only [Option.isSome_none,Z37,Bool.or_false,Option.getD_none,Z42,Z31]
    cases hpl:plainB rest with
    |false=>unfold z50.j22;simp only [Zo,Zd,Z84,if_true];rw [Y0]
    |
     true=>
     obtain ⟨hd,hne⟩:=Qaa hpl
     simp only [Zn,Zc,Z82]
     rw [Qne hne λb=>z50.j22 b (rest,below),Qvx hd (by omega)]
     rfl
   |
    some b=>
    have hab:=Qcq ho
    generalize (cutDot rest).1=a at *
    have hl:rest.length=a.length+(b.length+1):=by rw [hab];simp
    have t1:rest.take a.length=a:=by rw [hab];simp
    have t2:rest.drop (a.length+1)=b:=by
     rw [hab,<-Z95];simp
    have e1:(wr .i64 ((a.length:Int)+1))=((a.length+1:Nat):Int):=by rw [Qg (by omega) (by omega)];omega
    rw [if_neg (by simp),bif_t (by omega),if_pos (by omega)]
    simp only [e1,Zi,t1,t2]
    rw [if_pos (by omega),dec_plain a (by omega)]
    simp only [Zb]
    unfold Yu
    simp only [Option.isSome_some,Z24,Z39]
    cases hpl:plainB a with
    |false=>unfold z50.j14;simp only [Zo,Zd,Z84,if_true];rw [Y0]
    |
     true=>
     obtain ⟨hd,hne⟩:=Qaa hpl
     simp only [Zn,Zc,Z82]
     rw [dec_plain b (by omega)]
     simp only [Zb]
     cases hpb:plainB b with
     |false=>unfold z50.j14;simp only [Zo,Zd,Z84,if_true];rw [Y0]
     |
      true=>
      obtain ⟨hdb,hneb⟩:=Qaa hpb
      simp only [Zn,Zc,Z82]
      rw [Qne hne λx=>z50.j14 x (rest,below) (a.length:Int),Qqk t1 t2 hd hdb (by omega)]
abbrev leap (y:Int):Prop:=y%4=0/\¬y%100=0\/y%400=0
abbrev goodY (y:Int):Prop:=1<=y/\y<=9999
def dDays (y m:Int):Int:=if ¬goodY y\/m<1\/12<m then 0 else if m=2 then (if leap y then 29 else 28) else if m=4\/m=6\/m=9\/m=11 then 30 else 31
abbrev right (y m d:Int):Prop:=1<=d/\d<=dDays y m
theorem Qbt {a b:Int} (hb:0<b):Int.tmod a b=0↔a%b=0:=by
 rw [<-Int.dvd_iff_tmod_eq_zero,<-Int.dvd_iff_emod_eq_zero]
theorem date_good (y:Int):z77.F y=some (decide (goodY y)):=by
 unfold z77.F
 by_cases h:y>=1
 ·rw [bif_t h];congr 1;exact decide_eq_decide.2 (by omega)
 ·rw [Qc h];congr 1;symm;exact Zf (by omega)
theorem date_Leap (y:Int):z78.F y=some (decide (goodY y/\leap y)):=by
 unfold z78.F
 rw [date_good]
 simp only [Zb,Qbt (show (0:Int)<4 by decide),Qbt (show (0:Int)<100 by decide),Qbt (show (0:Int)<400 by decide)]
 by_cases h:goodY y
 ·rw [bif_t h]
  by_cases h4:y%4=0
  ·rw [bif_t h4]
   by_cases h1:y%100=0
   ·rw [Zt h1];simp only [Zn,Zc];congr 1;exact decide_eq_decide.2 (by omega)
   ·rw [Zf h1];simp only [Zo,Zd];congr 1;symm;exact Zt (by omega)
  ·rw [Qc h4];congr 1;exact decide_eq_decide.2 (by omega)
 ·rw [Qc h];congr 1;symm;exact Zf (λhh=>h hh.1)
theorem date_Days (y m:Int):z79.F y m=some (dDays y m):=by
 unfold z79.F dDays
 rw [date_good]
 simp only [Zb]
 by_cases hy:goodY y
 ·rw [Zt hy]
  simp only [Zn,Zc]
  by_cases h1:m<1
  ·rw [bif_t h1,if_pos (by omega)]
  ·rw [Qc h1]
   by_cases h12:m>12
   ·rw [bif_t h12,if_pos (by omega)]
   ·rw [Qc h12,if_neg (by omega)]
    by_cases h2:m=2
    ·subst h2
     rw [bif_t rfl,if_pos rfl,date_Leap]
     simp only [Zb]
     by_cases hl:leap y
     ·rw [Zt ⟨hy,hl⟩,if_pos hl];rfl
     ·rw [Zf (λhh=>hl hh.2),if_neg hl];rfl
    ·rw [Qc h2,if_neg h2]
     have:m=1\/m=3\/m=4\/m=5\/m=6\/m=7\/m=8\/m=9\/m=10\/m=11\/m=12:=by omega
     rcases this with rfl|rfl|rfl|rfl|rfl|rfl|rfl|rfl|rfl|rfl|rfl<;>rfl
 ·rw [Zf hy,if_pos (.inl hy)];rfl
theorem Qp0 (y:Int):z98.F y=some (decide (goodY y/\leap y)):=by
 unfold z98.F z98.j1
 simp only [Qbt (show (0:Int)<4 by decide),Qbt (show (0:Int)<100 by decide),Qbt (show (0:Int)<400 by decide)]
 by_cases h1:y<1
 ·rw [bif_t h1];congr 1;symm;exact Zf (by omega)
 ·rw [Qc h1]
  by_cases h2:y>9999
  ·rw [bif_t h2];congr 1;symm;exact Zf (by omega)
  ·rw [Qc h2]
   by_cases h4:y%400=0
   ·rw [bif_t h4];congr 1;symm;exact Zt (by omega)
   ·rw [Qc h4]
    by_cases h3:y%4=0
    ·rw [bif_t h3];congr 1
     by_cases h5:y%100=0
     ·rw [Zt h5];symm;exact Zf (by omega)
     ·rw [Zf h5];symm;exact Zt (by omega)
    ·rw [Qc h3];congr 1;symm;exact Zf (by omega)
theorem Qc7 (y m:Int):z99.F y m=some (dDays y m):=by
 unfold z99.F z99.j1 dDays
 by_cases h0:y<1
 ·rw [bif_t h0,if_pos (by omega)]
 ·rw [Qc h0]
  by_cases h9:y>9999
  ·rw [bif_t h9,if_pos (by omega)]
  ·rw [Qc h9]
   by_cases h1:m<1
   ·rw [bif_t h1,if_pos (by omega)]
   ·rw [Qc h1]
    by_cases h12:m>12
    ·rw [bif_t h12,if_pos (by omega)]
    ·rw [Qc h12,if_neg (by omega)]
     by_cases h2:m=2
     ·rw [bif_t h2,if_pos h2,Qp0]
      simp only [Zb]
      by_cases hl:leap y
      ·rw [Zt ⟨by omega,hl⟩,if_pos hl];rfl
      ·rw [Zf (λhh=>hl hh.2),if_neg hl];rfl
     ·rw [Qc h2,if_neg h2]
      by_cases g4:m=4
      ·rw [bif_t g4,if_pos (.inl g4)]
      ·rw [Qc g4]
       by_cases g6:m=6
       ·rw [bif_t g6,if_pos (by omega)]
       ·rw [Qc g6]
        by_cases g9:m=9
        ·rw [bif_t g9,if_pos (by omega)]
        ·rw [Qc g9]
         by_cases g11:m=11
         ·rw [bif_t g11,if_pos (by omega)]
         ·rw [Qc g11,if_neg (by omega)]
theorem Qnd (y m:Int):0<=dDays y m/\dDays y m<=31:=by
 unfold dDays;split
 ·omega
 ·split
  ·split<;>omega
  ·split<;>omega
theorem Qgr {y m:Int} (hy:goodY y) (hm:1<=m/\m<=12):28<=dDays y m:=by
 unfold dDays;rw [if_neg (by omega)];split
 ·split<;>omega
 ·split<;>omega
theorem J9 {y m d:Int} (h:right y m d):goodY y/\1<=m/\m<=12/\1<=d/\d<=31:=by
 have h1:=h.2
 have h2:=Qnd y m
 unfold dDays at h1
 split at h1
 ·have:=h.1;omega
 ·rename_i hn
  have:=h.1
  refine ⟨by omega,by omega,by omega,by omega,by omega⟩
theorem date_Check (y m d:Int):z80.F y m d=some (if right y m d then 0 else 11):=by
 unfold z80.F
 rw [date_Days]
 simp only [Zb]
 by_cases h:d<1
 ·rw [bif_t h,if_neg (by omega)]
 ·rw [Qc h]
  by_cases h':d>dDays y m
  ·rw [bif_t h',if_neg (by omega)]
  ·rw [Qc h',if_pos (by omega)]
theorem Qrm (y m d:Int):z100.F y m d=some (decide (right y m d)):=by
 unfold z100.F
 rw [Qc7]
 simp only [Zb]
 by_cases h:d>=1
 ·rw [bif_t h];congr 1;exact decide_eq_decide.2 (by omega)
 ·rw [Qc h];congr 1;symm;exact Zf (by omega)
def dcmp (a b c a' b' c':Int):Int:=if a<a' then -1 else if a'<a then 1 else if b<b' then -1 else if b'<b then 1 else if c<c' then -1 else if c'<c then 1 else 0
theorem or3 (x y z:Int):z73.F [x,y,z]=some (if x≠0 then x else if y≠0 then y else z):=by
 have e0:wr .i64 (0+1)=1:=by decide
 have e1:wr .i64 (1+1)=2:=by decide
 have e2:wr .i64 (2+1)=3:=by decide
 have r3:Runs (λrec i=>z73.l0P 0 [x,y,z] 3 rec some i) 3 (.inl 3):=.done λrec=>by unfold z73.l0P;rw [Qc (by decide)]
 have r2:Runs (λrec i=>z73.l0P 0 [x,y,z] 3 rec some i) 2 (if z≠0 then .inr z else .inl 3):=by
  by_cases h:z=0
  ·rw [if_neg (by omega)]
   refine .step (λrec=>?_) r3
   unfold z73.l0P
   rw [bif_t (by decide),if_pos (by simp),show [x,y,z].getD (Int.toNat 2) 0=z from rfl,Zt h,e2];rfl
  ·rw [if_pos h]
   refine .done λrec=>?_
   unfold z73.l0P
   rw [bif_t (by decide),if_pos (by simp),show [x,y,z].getD (Int.toNat 2) 0=z from rfl,Zf h];rfl
 have r1:Runs (λrec i=>z73.l0P 0 [x,y,z] 3 rec some i) 1 (if y≠0 then .inr y else if z≠0 then .inr z else .inl 3):=by
  by_cases h:y=0
  ·rw [if_neg (by omega)]
   refine .step (λrec=>?_) r2
   unfold z73.l0P
   rw [bif_t (by decide),if_pos (by simp),show [x,y,z].getD (Int.toNat 1) 0=y from rfl,Zt h,e1];rfl
  ·rw [if_pos h]
   refine .done λrec=>?_
   unfold z73.l0P
   rw [bif_t (by decide),if_pos (by simp),show [x,y,z].getD (Int.toNat 1) 0=y from rfl,Zf h];rfl
 have r0:Runs (λrec i=>z73.l0P 0 [x,y,z] 3 rec some i) 0 (if x≠0 then .inr x else if y≠0 then .inr y else if z≠0 then .inr z else .inl 3):=by
  by_cases h:x=0
  ·rw [if_neg (by omega)]
   refine .step (λrec=>?_) r1
   unfold z73.l0P
   rw [bif_t (by decide),if_pos (by simp),show [x,y,z].getD (Int.toNat 0) 0=x from rfl,Zt h,e0];rfl
  ·rw [if_pos h]
   refine .done λrec=>?_
   unfold z73.l0P
   rw [bif_t (by decide),if_pos (by simp),show [x,y,z].getD (Int.toNat 0) 0=x from rfl,Zf h];rfl
 have e:z73.l0 0 [x,y,z] 3 0=_:=r0.lfp
 unfold z73.F
 show ((z73.l0 0 [x,y,z] 3 0).bind _)=_
 rw [e]
 simp only [Zb]
 by_cases hx:x=0<;>by_cases hy:y=0<;>by_cases hz:z=0<;>simp [hx,hy,hz]
theorem date_Cmp (a b c a' b' c':Int):z74.F a b c a' b' c'=some (dcmp a b c a' b' c'):=by
 unfold z74.F
 rw [Qb9]
 simp only [Zb]
 rw [Qb9]
 simp only [Zb]
 rw [Qb9]
 simp only [Zb]
 rw [or3]
 simp only [Zb]
 congr 1
 unfold cmpI dcmp
 rcases Z76 a a' with h|h|h<;>rcases Z76 b b' with g|g|g<;>rcases Z76 c c' with k|k|k <;>
  (repeat' split)<;>omega
theorem Qi7 {s:J1} (h:Qu s):sz (tv 0 s).toNat<=s.length:=Qx (by have:=W6 h;omega)
theorem Qr9 (s:J1):sz (mDigits s).1<=4096:=by
 have h0:sz 0<=4096:=by rw [Qf7];omega
 unfold mDigits
 split
 ·exact h0
 ·split
  ·rename_i h1 h2
   unfold numOK at h2
   simp only [Z4] at h2
   have:=Qi7 (Yh.1 h2.1.2)
   show sz (tv 0 s).toNat<=4096
   omega
  ·exact h0
theorem Qnz (s:J1):sz (mWhole s).1.natAbs<=4096:=by
 have h:=Qr9 (cutNeg s).1
 have h0:sz 0<=4096:=by rw [Qf7];omega
 unfold mWhole
 split
 ·exact h0
 ·split
  ·exact h0
  ·show sz (if _ then _ else _:Int).natAbs<=_
   split
   ·rw [Int.natAbs_neg];exact h
   ·exact h
def mMoney (s:J1):Int×Int:=
 if (mWhole s).2≠0 then (0,(mWhole s).2) else if (mWhole s).1<0\/10^30<(mWhole s).1 then (0,19) else ((mWhole s).1,0)
theorem terms_greatest:z46.F=some (lb (Int.natAbs (10^30)),neg (10^30)):=by
 unfold z46.F
 have h:=digits_Ten (t:=30) (by decide)
 rw [show ((30:Nat):Int)=30 from rfl] at h
 rw [h]
 simp only [Zb]
 rw [Yr (z:=10^30) (by decide) (.inr ⟨rfl,by decide⟩)]
 rfl
theorem terms_Money (s:J1):z47.F s=some (lb (mMoney s).1.natAbs,neg (mMoney s).1,(mMoney s).2):=by
 have hz:=Qnz s
 unfold z47.F mMoney
 rw [whole_Parse]
 simp only [Zb]
 generalize mWhole s=w at *
 have hn:lb (Int.natAbs 0)=[]:=lb_zero
 by_cases h:w.2=0
 ·rw [Zt h,if_neg (by omega)]
  simp only [Zn,Zc]
  rw [Qa3]
  simp only [Zb]
  by_cases h1:w.1<0
  ·rw [bif_t (Qco.2 h1),if_pos (.inl h1),hn];rfl
  ·rw [Qc (λh=>h1 (Qco.1 h)),terms_greatest]
   simp only [Zb]
   have l1:=Q7 w.1.natAbs
   have l2:(lb (Int.natAbs (10^30))).length<=31:=Z48 (Q7 _) (Qx (by decide))
   have l3:sz w.1.natAbs<=4096:=hz
   rw [Qk3 (by omega)]
   simp only [Zb]
   by_cases h2:10^30<w.1
   ·rw [bif_t (Jf.2 h2),if_pos (.inr h2),hn];rfl
   ·rw [Qc (λh=>h2 (Jf.1 h)),if_neg (by omega)]
 ·rw [Zf h,if_pos h,hn];rfl
theorem Qfc (s:J1):(mDec s).2.1<=64/\sz (mDec s).1.natAbs<=4096:=by
 have h0:sz (Int.natAbs 0)<=4096:=by show sz 0<=4096;rw [Qf7];omega
 unfold mDec
 split
 ·exact ⟨Z65 _,h0⟩
 ·rename_i hl
  have hc:=Qnf s
  generalize (cutNeg s).1=t at *
  unfold Yu
  split
  ·exact ⟨Z65 _,h0⟩
  ·rename_i hp
   split
   ·exact ⟨Z65 _,h0⟩
   ·split
    ·exact ⟨Z65 _,h0⟩
    ·rename_i h64
     refine ⟨by show List.length _<=64;omega,?_⟩
     have hd:Qu ((cutDot t).1++(cutDot t).2.getD [])/\((cutDot t).1++(cutDot t).2.getD []).length<=4096:=by
      simp only [Z67,not_or,Z47,Bool.not_eq_false,Z4] at hp
      obtain ⟨⟨p1,p2⟩,p3⟩:=hp
      have q1:=(Qaa (by simpa using p1)).1
      cases ho:(cutDot t).2 with
      |
       none=>
       have:=Qcu ho
       simp only [Option.getD_none,Z42]
       exact ⟨q1,by rw [this];omega⟩
      |
       some b=>
       have:=Qcq ho
       rw [ho] at p2
       have q2:=(Qaa (s:=b) (by simpa using p2)).1
       simp only [Z39]
       refine ⟨λx hx=>(Z41.1 hx).elim (q1 x) (q2 x),?_⟩
       have hlen:t.length=(cutDot t).1.length+(b.length+1):=by
        conv=>lhs;rw [this]
        simp
       rw [Z3];omega
     have h1:=Z48 (Qi7 hd.1) hd.2
     have h2:=(W6 hd.1).1
     show sz (if _ then _ else _:Int).natAbs<=_
     have e:∀z:Int,0<=z->z.natAbs=z.toNat:=λz hz=>by omega
     split
     ·rw [Int.natAbs_neg,e _ h2];exact h1
     ·rw [e _ h2];exact h1
theorem dec_ten {t:Nat} (ht:t<=4096):z56.F (t:Int)=some (lb (10^t:Nat),false):=by
 unfold z56.F
 rw [digits_Ten ht]
 simp only [Zb]
 rw [whole_Of];rfl
theorem Qi0 {t:Nat} (ht:t<=4096):z56.F (t:Int)=some (lb ((10^t:Nat):Int).natAbs,neg ((10^t:Nat):Int)):=by
 rw [dec_ten ht]
 have:neg ((10^t:Nat):Int)=false:=Zf (Int.not_lt.2 (Z89 _))
 rw [this];rfl
theorem Qbn (t:Nat):sz (10^t)<=t+1:=Qx (by rw [Z38];have:0<10^t:=Z97 (by decide);omega)
theorem Qh7 {c:Int} {s t:Nat} (h:s<=t) (ht:t<=4096) (hc:sz c.natAbs<=100000000):z58.F (lb c.natAbs) (neg c) (s:Int) (t:Int)=some (lb (c*(10^(t-s):Nat)).natAbs,neg (c*(10^(t-s):Nat))):=by
 have l1:=Q7 c.natAbs
 have l2:=Q7 ((10^(t-s):Nat):Int).natAbs
 have l3:=Qbn (t-s)
 have l4:sz ((10^(t-s):Nat):Int).natAbs=sz (10^(t-s)):=rfl
 unfold z58.F
 rw [Qg (by omega) (by omega),show (t:Int)-s=((t-s:Nat):Int) by omega,Qi0 (by omega)]
 simp only [Zb]
 rw [Qhb (by omega)]
 rfl
theorem Qph {c c':Int} {s s':Nat} (hs:s<=2000) (hs':s'<=2000) (hc:sz c.natAbs<=100000000) (hc':sz c'.natAbs<=100000000) :
  z59.F (lb c.natAbs) (neg c) (s:Int) (lb c'.natAbs) (neg c') (s':Int)=some (cmpI (c*(10^(max s s'-s):Nat)) (c'*(10^(max s s'-s'):Nat))):=by
 have e:(if (s':Int)>(s:Int) then (s':Int) else (s:Int))=((max s s':Nat):Int):=by split<;>omega
 have m1:=W8 c.natAbs (10^(max s s'-s))
 have m2:=W8 c'.natAbs (10^(max s s'-s'))
 have t1:=Qbn (max s s'-s)
 have t2:=Qbn (max s s'-s')
 have l1:=Q7 (c*(10^(max s s'-s):Nat)).natAbs
 have l2:=Q7 (c'*(10^(max s s'-s'):Nat)).natAbs
 have e1:(c*(10^(max s s'-s):Nat)).natAbs=c.natAbs*10^(max s s'-s):=by rw [Z78];rfl
 have e2:(c'*(10^(max s s'-s'):Nat)).natAbs=c'.natAbs*10^(max s s'-s'):=by rw [Z78];rfl
 have hc1:sz c.natAbs<=100000000:=hc
 have hc2:sz c'.natAbs<=100000000:=hc'
 rw [<-e1] at m1
 rw [<-e2] at m2
 unfold z59.F
 rw [e,Qh7 (by omega) (by omega) hc]
 simp only [Zb]
 rw [Qh7 (by omega) (by omega) hc']
 simp only [Zb]
 rw [Qk3 (by omega)]
 rfl
theorem Qis (n:Int) {d:Nat} (hd:0<d):(mkRat n d).num.natAbs<=n.natAbs:=by
 rw [Rat.num_mkRat,if_neg (by omega),Nat.gcd_comm]
 have hg:0<Nat.gcd n.natAbs d:=Nat.gcd_pos_of_pos_right _ hd
 rw [(Qf3 (Nat.gcd_dvd_left n.natAbs d) hg).1]
 exact Nat.div_le_self _ _
theorem Qma (n:Int) {d:Nat} (hd:0<d):(mkRat n d).den<=d:=by
 rw [Rat.den_mkRat,if_neg (by omega)]
 exact Nat.div_le_self _ _
theorem Qrs {M:Nat} (hD:Qbr M) {c:Int} {s:Nat} (hs:s<=4096) (hc:c.natAbs<=M) (hM:10^s<=M):z64.F (lb c.natAbs) (neg c) (s:Int)=some (fr (mkRat c (10^s))):=by
 have hp:0<10^s:=Z97 (by decide)
 have l:=Qbn s
 unfold z64.F
 rw [Qi0 hs]
 simp only [Zb]
 rw [frac_Of (num:=c) (den:=((10^s:Nat):Int)) hD (by exact_mod_cast (Nat.ne_of_gt hp)) hc (by show 10^s<=M;exact hM) (by show sz (10^s)<=_;omega),Rat.divInt_ofNat]
 rfl
def W5 (s:J1):Rat×Int:=
 if (mDec s).2.2≠0 then (0,(mDec s).2.2)
 else if (mDec s).1<0\/1000*(10^(mDec s).2.1:Nat)<(mDec s).1\/12<(mDec s).2.1 then (0,18)
 else (mkRat (mDec s).1 (10^(mDec s).2.1)/100,0)
theorem Qty:fr 0=([],false,[]):=by
 show (lb 0,neg 0,lb 0)=_
 rw [lb_zero];rfl
theorem Qeb (e:Int):some (([]:J0),false,([]:J0),e)=some ((fr (0:Rat)).1,(fr (0:Rat)).2.1,(fr (0:Rat)).2.2,e):=by
 rw [Qty]
theorem Qt3:fr 100=(lb (Int.natAbs 100),neg 100,[]):=by
 show (lb 100,neg 100,lb 0)=_
 rw [lb_zero];rfl
theorem Qjj:Qbr 1000000000000000000:=λx y hx hy h0=>Qqp (by omega) h0
theorem terms_Rate (s:J1):z69.F s=some ((fr (W5 s).1).1,(fr (W5 s).1).2.1,(fr (W5 s).1).2.2,(W5 s).2):=by
 obtain ⟨hb1,hb2⟩:=Qfc s
 unfold z69.F W5
 rw [dec_Parse]
 simp only [Zb,decR]
 generalize mDec s=d at *
 obtain ⟨c,sc,e⟩:=d
 simp only at *
 have hcz:sz c.natAbs<=4096:=hb2
 by_cases h:e=0
 ·rw [Zt h,if_neg (by omega)]
  simp only [Zn,Zc]
  rw [whole_From (by omega)]
  simp only [Zb]
  have ho:z52.F (lb (Int.natAbs 1000)) (neg 1000) 0=some (lb (Int.natAbs 1000),neg 1000,0,0):=rfl
  rw [ho]
  simp only [Zb]
  unfold z54.F z53.F
  simp only [Zb]
  rw [Qa3]
  simp only [Zb]
  by_cases h1:c<0
  ·rw [bif_t (Qco.2 h1),if_pos (.inl h1)];exact Qeb 18
  ·rw [Qc (λh=>h1 (Qco.1 h))]
   have hk:sz (Int.natAbs 1000)<=4:=Qx (by decide)
   have hcmp:=Qph (c:=c) (c':=1000) (s:=sc) (s':=0) (by omega) (by omega) (by omega) (by omega)
   rw [show ((0:Nat):Int)=0 from rfl] at hcmp
   rw [hcmp]
   simp only [Zb,Nat.max_zero,Nat.sub_self,Nat.pow_zero,Nat.sub_zero,Int.natCast_one,Int.mul_one]
   by_cases h2:1000*((10^sc:Nat):Int)<c
   ·rw [bif_t (Jf.2 h2),if_pos (.inr (.inl h2))];exact Qeb 18
   ·rw [Qc (λh=>h2 (Jf.1 h))]
    by_cases h3:12<sc
    ·rw [bif_t (by omega),if_pos (.inr (.inr h3))];exact Qeb 18
    ·rw [Qc (by omega),if_neg (by omega)]
     have hp12:10^sc<=10^12:=Z54 (by decide) (by omega)
     have hp0:0<10^sc:=Z97 (by decide)
     have n1:=Qis c hp0
     have n2:=Qma c hp0
     have hd0:=(mkRat c (10^sc)).den_pos
     unfold z69.j8
     rw [Qrs Qjj (by omega) (by omega) (by omega)]
     simp only [Zb]
     rw [whole_From (by omega)]
     simp only [Zb]
     have hf:z68.F (lb (Int.natAbs 100)) (neg 100)=some (fr 100):=by rw [Qt3];rfl
     rw [hf]
     simp only [Zb]
     generalize mkRat c (10^sc)=q at *
     have hq:=Qsw Qjj (q:=q) (r:=100) (by decide)
      (by rw [show (100:Rat).den=1 from rfl];simp;omega)
      (by rw [show (100:Rat).num=100 from rfl,Z78];show q.den*100<=_;omega)
      (by
        rw [show (100:Rat).den=1 from rfl]
        have a1:sz q.num.natAbs<=20:=Qx (by omega)
        have a2:sz 1<=1:=Qx (by decide)
        omega)
      (by
        rw [show (100:Rat).num=100 from rfl]
        have a1:sz q.den<=20:=Qx (by omega)
        have a2:sz (Int.natAbs 100)<=3:=Qx (by decide)
        omega)
     rw [hq]
     rfl
 ·rw [Zf h,if_pos h];exact Qeb e
theorem Qfa {a b:Int} (hb:0<b):(Int.tmod a b<0->Int.tmod a b+b=a%b)/\(¬Int.tmod a b<0->Int.tmod a b=a%b)/\-b<Int.tmod a b/\Int.tmod a b<b:=by
 have h1:=Int.emod_nonneg a (show b≠0 by omega)
 have h2:=Int.emod_lt_of_pos a hb
 have h3:=Int.tmod_eq_emod (a:=a) (b:=b)
 by_cases h:0<=a\/b∣a
 ·rw [if_pos h] at h3;omega
 ·rw [if_neg h] at h3
  have:a%b≠0:=λe=>h (.inr (Int.dvd_of_emod_eq_zero e))
  omega
theorem Qrl {a b c n:Int} (hn:1<=n/\n<=9999):∃y m d,z146.F a b c n=some (y,m,d)/\right y m d/\y<=n:=by
 have f1:=Qfa (a:=a) (b:=n) (by omega)
 have f2:=Qfa (a:=b) (b:=12) (by omega)
 have m1:=Int.emod_nonneg a (show n≠0 by omega)
 have m2:=Int.emod_lt_of_pos a (show 0<n by omega)
 have hd:=Qgr (y:=a%n+1) (m:=b%12+1) (by omega) (by omega)
 have hd':=Qnd (a%n+1) (b%12+1)
 have f3:=Qfa (a:=c) (b:=dDays (a%n+1) (b%12+1)) (by omega)
 have m5:=Int.emod_nonneg c (show dDays (a%n+1) (b%12+1)≠0 by omega)
 have m6:=Int.emod_lt_of_pos c (show 0<dDays (a%n+1) (b%12+1) by omega)
 refine ⟨a%n+1,b%12+1,c%dDays (a%n+1) (b%12+1)+1,?_,⟨by omega,by omega⟩,by omega⟩
 have hj8:∀j,j=b%12->Int.tmod a n=a%n->z146.j8 a n j c=some (a%n+1,b%12+1,c%dDays (a%n+1) (b%12+1)+1):=λj hj ht=>by
  subst hj
  unfold z146.j8
  rw [ht,Qg (n:=a%n+1) (by omega) (by omega),Qg (n:=b%12+1) (by omega) (by omega),Qc7]
  simp only [Zb]
  rw [if_neg (by omega)]
  generalize dDays (a%n+1) (b%12+1)=k at *
  by_cases h:Int.tmod c k<0
  ·rw [bif_t h,Qg (n:=Int.tmod c k+k) (by omega) (by omega),f3.1 h,Qg (by omega) (by omega)]
  ·rw [Qc h,f3.2.1 h,Qg (by omega) (by omega)]
 have hj5:∀j,j=b%12->Int.tmod a n<0->z146.j5 a n j c=some (a%n+1,b%12+1,c%dDays (a%n+1) (b%12+1)+1):=λj hj ht=>by
  subst hj
  unfold z146.j5 z146.j7
  rw [Qg (n:=Int.tmod a n+n) (by omega) (by omega),f1.1 ht,Qg (n:=a%n+1) (by omega) (by omega),Qg (n:=b%12+1) (by omega) (by omega),Qc7]
  simp only [Zb]
  rw [if_neg (by omega)]
  generalize dDays (a%n+1) (b%12+1)=k at *
  by_cases h:Int.tmod c k<0
  ·rw [bif_t h,Qg (n:=Int.tmod c k+k) (by omega) (by omega),f3.1 h,Qg (by omega) (by omega)]
  ·rw [Qc h,f3.2.1 h,Qg (by omega) (by omega)]
 unfold z146.F
 rw [if_neg (by omega)]
 by_cases h1:Int.tmod a n<0
 ·rw [bif_t h1]
  by_cases h2:Int.tmod b 12<0
  ·rw [bif_t h2,Qg (by omega) (by omega),f2.1 h2];exact hj5 _ rfl h1
  ·rw [Qc h2,f2.2.1 h2];exact hj5 _ rfl h1
 ·rw [Qc h1]
  by_cases h2:Int.tmod b 12<0
  ·rw [bif_t h2,Qg (by omega) (by omega),f2.1 h2];exact hj8 _ rfl (f1.2.1 h1)
  ·rw [Qc h2,f2.2.1 h2];exact hj8 _ rfl (f1.2.1 h1)
theorem Qsy (n:Nat):numOK (txt n)=true:=by
 unfold numOK
 rw [Zf (Qsu n),Yh.2 (Qck n)]
 by_cases h:n=0
 ·subst h;rfl
 ·obtain ⟨b,s,e,hb⟩:=Qk9 h
  rw [e]
  have:((b::s).getD 0 0).toNat=b.toNat:=rfl
  rw [this,Zf hb];simp
theorem Qlv {s:J1} (h:Qu s):cutNeg s=(s,false):=by
 unfold cutNeg
 cases s with
 |nil=>rfl
 |
  cons b t=>
  have hb:=h b (by simp)
  unfold digit at hb
  simp only
  rw [if_neg]
  rintro rfl
  simp at hb
theorem Qsc {n:Nat} (h:(txt n).length<=4096):mWhole (txt n)=((n:Int),0):=by
 have hd:mDigits (txt n)=(n,0):=by
  unfold mDigits
  rw [if_neg (by omega),if_pos (Qsy n),Qko,Zi]
 unfold mWhole
 rw [Qlv (Qck n)]
 simp only [hd]
 rw [if_neg (by simp),if_neg (by simp)]
 rfl
theorem Qoy (s:J1) (k:Nat) (hk:k<=1000000000):∀(f:Nat),k+1-s.length=f->Runs (λrec x=>z151.l0P (k:Int) rec some x) s (List.replicate f 48++s):=by
 intro f
 induction f generalizing s with
 |
  zero=>
  intro h
  refine .done λrec=>?_
  unfold z151.l0P
  rw [Qc (by omega)];rfl
 |
  succ f ih=>
  intro h
  have:=ih (48::s) (by simp;omega)
  have e:List.replicate f (48:UInt8)++48::s=List.replicate (f+1) 48++s:=by
   rw [List.replicate_succ',Z51];rfl
  rw [e] at this
  refine .step (λrec=>?_) this
  unfold z151.l0P
  rw [bif_t (by omega),if_pos (by simp;omega)]
  rfl
def padded (n k:Nat):J1:=List.replicate (k+1-(txt n).length) 48++txt n
theorem Qay (n k:Nat):k<(padded n k).length/\(padded n k).length<=k+1+(txt n).length:=by unfold padded;rw [Z3,List.length_replicate];omega
theorem Qi2 (n k:Nat):Qu (padded n k):=λb hb=>by
 rcases Z41.1 hb with h|h
 ·rw [List.eq_of_mem_replicate h];unfold digit;decide
 ·exact Qck n b h
theorem Qut (f:Nat) (s:J1):tv 0 (List.replicate f 48++s)=tv 0 s:=by
 induction f with
 |zero=>rfl
 |succ f ih=>rw [List.replicate_succ,List.cons_append];exact ih
theorem Qqx (n k:Nat):tv 0 (padded n k)=n:=by unfold padded;rw [Qut,Qko]
def decTxt (n k:Nat):J1:=(padded n k).take ((padded n k).length-k)++46::(padded n k).drop ((padded n k).length-k)
theorem Qqd {n k:Nat} (hk:0<k/\k<=1000000) (hn:4*(dg n).length<=1000000000) (hl:(txt n).length<=100000000):z151.F (dg n) false (k:Int)=some (decTxt n k):=by
 have r:=Qoy (txt n) k (by omega) _ rfl
 have e:z151.l0 (k:Int) (txt n)=some (padded n k):=r.lfp
 have pl:=Qay n k
 unfold z151.F
 rw [Qjg hn]
 simp only [Zb]
 rw [e]
 simp only [Zb]
 have ew:wr .i64 (((padded n k).length:Int)-(k:Int))=(((padded n k).length-k:Nat):Int):=by rw [Qg (by omega) (by omega)];omega
 rw [bif_t (by omega),ew,if_pos (by omega),if_pos (by simp;omega),if_pos (by omega),if_pos (by simp;omega),Zi]
 unfold z151.j3 decTxt
 simp
theorem Qix:∀{a:J1} (b:J1),Qu a->cutDot (a++46::b)=(a,some b)
 |[],b,_=>rfl
 |
  x::a,b,h=>by
  have hx:=h x (by simp)
  have ih:=Qix (a:=a) b λy hy=>h y (by simp [hy])
  show cutDot (x::(a++46::b))=_
  unfold cutDot
  rw [if_neg (by rintro rfl;unfold digit at hx;simp at hx),ih]
theorem Qu3 {n k:Nat} (hk:0<k/\k<=64) (hl:(txt n).length<=1000):mDec (decTxt n k)=((n:Int),k,0):=by
 have pl:=Qay n k
 have pd:=Qi2 n k
 have hda:Qu ((padded n k).take ((padded n k).length-k)):=λb hb=>pd b (Z52 hb)
 have hdb:Qu ((padded n k).drop ((padded n k).length-k)):=λb hb=>pd b (Z70 hb)
 have la:((padded n k).take ((padded n k).length-k)).length=(padded n k).length-k:=by rw [Z13];omega
 have lb':((padded n k).drop ((padded n k).length-k)).length=k:=by rw [Z22];omega
 have hcat:(padded n k).take ((padded n k).length-k)++(padded n k).drop ((padded n k).length-k)=padded n k:=List.take_append_drop _ _
 have hlead:(decide (1<((padded n k).take ((padded n k).length-k)).length)&&decide ((((padded n k).take ((padded n k).length-k)).getD 0 0).toNat=48))=false:=by
  by_cases h1:1<((padded n k).take ((padded n k).length-k)).length
  ·rw [la] at h1
   have h2:k+1<(padded n k).length:=by omega
   have h0:k+1-(txt n).length=0:=by
    unfold padded at h2
    rw [Z3,List.length_replicate] at h2;omega
   have e:padded n k=txt n:=by unfold padded;rw [h0];rfl
   have hn:n≠0:=by
    rintro rfl
    rw [e] at h2
    have:(txt 0).length=1:=rfl
    omega
   obtain ⟨b,s,ht,hb⟩:=Qk9 hn
   rw [e,ht]
   have:(((b::s).take ((b::s).length-k)).getD 0 0).toNat=b.toNat:=by
    rw [e,ht] at h2
    have:(b::s).length-k=((b::s).length-k-1)+1:=by omega
    rw [this,List.take_succ_cons];rfl
   rw [this,Zf hb,Z90]
  ·rw [Zf h1,Z37]
 have hlen:(decTxt n k).length=(padded n k).length+1:=by
  unfold decTxt;rw [Z3,Z8,la,lb'];omega
 have hneg:cutNeg (decTxt n k)=(decTxt n k,false):=by
  have hne:(padded n k).take ((padded n k).length-k)≠[]:=λh=>by rw [h] at la;simp at la;omega
  unfold decTxt
  cases hc:(padded n k).take ((padded n k).length-k) with
  |nil=>exact absurd hc hne
  |
   cons b t=>
   have hb:=hda b (by rw [hc];simp)
   unfold digit at hb
   unfold cutNeg
   simp only [List.cons_append]
   rw [if_neg (by rintro rfl;simp at hb)]
 have hpa:plainB ((padded n k).take ((padded n k).length-k))=true:=by
  unfold plainB;rw [Yh.2 hda,Zf (λh=>by rw [h] at la;simp at la;omega)];rfl
 have hpb:plainB ((padded n k).drop ((padded n k).length-k))=true:=by
  unfold plainB;rw [Yh.2 hdb,Zf (λh=>by rw [h] at lb';simp at lb';omega)];rfl
 unfold mDec
 rw [if_neg (by omega),hneg]
 have hcut:cutDot (decTxt n k)=((padded n k).take ((padded n k).length-k),some ((padded n k).drop ((padded n k).length-k))):=Qix _ hda
 rw [hcut]
 unfold Yu
 simp only [Option.isSome_some,Z24,Z39,hpa,hpb,hlead,Zn,Bool.or_false,Z37]
 rw [if_neg (by simp),if_neg (by simp),if_neg (by omega),hcat,Qqx,lb',if_neg (by simp)]
theorem Qg5 {b r:Nat} (hb:0<b) (hs:sz b+sz r<=300000000):∀(f lo hi:Nat),hi-lo<=f->lo<=hi->hi<=9999->b*lo<=r->r<b*(hi+1) ->
  Runs (λrec x=>z125.l2P (dg b) (dg r) rec some x) ((lo:Int),(hi:Int)) (((r/b:Nat):Int),((r/b:Nat):Int))
 |
  0,lo,hi,hf,hl,hh,h1,h2=>by
  have:lo=hi:=by omega
  subst this
  have e:r/b=lo:=Nat.div_eq_of_lt_le (by rw [Z33];exact h1) (by rw [Z33];exact h2)
  rw [e]
  refine .done λrec=>?_
  unfold z125.l2P
  simp only
  rw [Qc (by omega)]
 |
  f+1,lo,hi,hf,hl,hh,h1,h2=>by
  by_cases h:lo<hi
  ·have e1:wr .i64 (Int.tdiv (wr .i64 (wr .i64 ((lo:Int)+(hi:Int))+1)) 2)=(((lo+hi+1)/2:Nat):Int):=by
    rw [Qg (n:=(lo:Int)+(hi:Int)) (by omega) (by omega),Qg (n:=(lo:Int)+(hi:Int)+1) (by omega) (by omega),J5 (by omega),Qg (by omega) (by omega)];omega
   obtain ⟨mid,hmid⟩:∃mid,(lo+hi+1)/2=mid:=⟨_,rfl⟩
   rw [hmid] at e1
   have sm:sz mid<=4:=Qx (by omega)
   have sbm:=W8 b mid
   have l1:=Wa b
   have l2:=Wa mid
   have l3:=Wa (b*mid)
   have step:∀rec:(Int×Int)->Option (Int×Int),z125.l2P (dg b) (dg r) rec some ((lo:Int),(hi:Int))=if b*mid<=r then rec ((mid:Int),(hi:Int)) else rec ((lo:Int),((mid-1:Nat):Int)):=λrec=>by
    unfold z125.l2P
    simp only
    rw [bif_t (by omega),e1,Qd9 (by omega)]
    simp only [Zb]
    rw [Qe7 (by omega)]
    simp only [Zb]
    rw [Qn6 (by omega)]
    simp only [Zb]
    by_cases hc:b*mid<=r
    ·rw [if_pos hc,bif_t (by
      rcases Nat.lt_or_eq_of_le hc with h3|h3
      ·exact Int.le_of_lt (Qco.2 (by exact_mod_cast h3))
      ·exact Int.le_of_eq (Qfw.2 (by exact_mod_cast h3)))]
    ·rw [if_neg hc,Qc (by
      have:=Jf (m:=((b*mid:Nat):Int)) (n:=(r:Int))
      have h4:=this.2 (by exact_mod_cast Nat.lt_of_not_le hc)
      omega),Qg (n:=(mid:Int)-1) (by omega) (by omega)]
     congr 2;omega
   by_cases hc:b*mid<=r
   ·refine .step (λrec=>?_) (Qg5 hb hs f mid hi (by omega) (by omega) hh hc h2)
    rw [step,if_pos hc]
   ·refine .step (λrec=>?_) (Qg5 hb hs f lo (mid-1) (by omega) (by omega) (by omega) h1 (by rw [show mid-1+1=mid by omega];omega))
    rw [step,if_neg hc]
  ·have:lo=hi:=by omega
   subst this
   have e:r/b=lo:=Nat.div_eq_of_lt_le (by rw [Z33];exact h1) (by rw [Z33];exact h2)
   rw [e]
   refine .done λrec=>?_
   unfold z125.l2P
   simp only
   rw [Qc (by omega)]
theorem Qgv {s:J0} {i:Nat} {x:Int}:(s.set i x).drop (i+1)=s.drop (i+1):=by
 apply List.ext_getElem?
 intro j
 rw [List.getElem?_drop,List.getElem?_drop,List.getElem?_set_ne (by omega)]
theorem Qmb {a:J0} {b N:Nat} (ha:inB 10000 a) (hb:0<b) (hs:sz b<=100000000) (hl:a.length<=800000000) (hN:(N:Int)=valB 10000 a) :
  ∀
   (k:Nat),k<=a.length->∀(m:Nat) (q:J0),(m:Int)=valB 10000 (a.drop k)->q.length=a.length->inB 10000 q->valB 10000 (q.drop k)=((m/b:Nat):Int) ->
   ∃q',Runs (λrec x=>z125.l0P a (dg b) rec some x) (dg (m%b),(k:Int)-1,q) (dg (N%b),(-1:Int),q')/\q'.length=a.length/\inB 10000 q'/\valB 10000 q'=((N/b:Nat):Int)
 |
  0,hk,m,q,hm,hq,hi,hv=>by
  have:m=N:=by rw [Z45] at hm;omega
  subst this
  refine ⟨q,.done λrec=>?_,hq,hi,by rwa [Z45] at hv⟩
  unfold z125.l0P
  simp only
  rw [Qc (by omega)];rfl
 |
  k+1,hk,m,q,hm,hq,hi,hv=>by
  have hka:k<a.length:=by omega
  have hkq:k<q.length:=by omega
  have hd:=Q6 (B:=10000) (by decide) ha k
  obtain ⟨d,hd'⟩:∃d:Nat,a.getD k 0=(d:Int):=⟨(a.getD k 0).toNat,by omega⟩
  have hd2:d<10000:=by omega
  obtain ⟨r,hr⟩:∃r,m%b=r:=⟨_,rfl⟩
  have hrb:r<b:=hr▸Z88 m hb
  obtain ⟨x,hx⟩:∃x,d+10000*r=x:=⟨_,rfl⟩
  have hxb:x<b*10000:=by omega
  have sx:sz x<=sz b+4:=Qx (by
   have h1:=Qbk b
   rw [Z91]
   exact Z11 hxb (Z19 _ (Z66 h1)))
  have sr:sz r<=sz b:=Jz (by omega)
  have l1:=Wa x
  have l2:=Wa r
  have l3:=Wa b
  obtain ⟨z,hz⟩:∃z,x/b=z:=⟨_,rfl⟩
  obtain ⟨w,hw⟩:∃w,x%b=w:=⟨_,rfl⟩
  obtain ⟨y,hy⟩:∃y,m/b=y:=⟨_,rfl⟩
  have hq1:z<10000:=hz▸Nat.div_lt_of_lt_mul hxb
  have hdm:b*z+w=x:=by rw [<-hz,<-hw];exact Z58 x b
  have hmm:b*y+r=m:=by rw [<-hy,<-hr];exact Z58 m b
  have hm':((d+10000*m:Nat):Int)=valB 10000 (a.drop k):=by rw [Yl,hd',<-hm];omega
  have e:d+10000*m=x+b*(10000*y):=by
   have h4:b*(10000*y)=10000*(b*y):=by rw [<-Z83,Z33 b 10000,Z83]
   omega
  have hdiv:(d+10000*m)/b=z+10000*y:=by rw [e,Nat.add_mul_div_left _ _ hb,hz]
  have hmod:(d+10000*m)%b=w:=by rw [e,Z77,hw]
  have hvq:valB 10000 ((q.set k (z:Int)).drop k)=(((d+10000*m)/b:Nat):Int):=by
   rw [Yl,Qgv,hv,hdiv,hy]
   have:(q.set k (z:Int)).getD k 0=(z:Int):=by simp [List.getD,hkq]
   rw [this];omega
  obtain ⟨q',r1,r2,r3,r4⟩:=Qmb ha hb hs hl hN k (by omega) (d+10000*m) (q.set k (z:Int)) hm' (by simp [hq]) (J6 hi (by show (0:Int)<=(z:Int)/\(z:Int)<10000;omega)) hvq
  rw [hmod] at r1
  refine ⟨q',.step (λrec=>?_) r1,r2,r3,r4⟩
  have hsr:=Qg5 (b:=b) (r:=x) hb (by omega) 9999 0 9999 (by omega) (by omega) (by omega) (by omega) (by omega)
  have es:z125.l2 (dg b) (dg x) ((0:Int),(9999:Int))=some (((x/b:Nat):Int),((x/b:Nat):Int)):=hsr.lfp
  rw [hz] at es
  have et:z107.F ([(d:Int)]++dg r)=some (dg x):=by
   rw [Qaz (Qf5.2 ⟨Yo.2 ⟨by omega,Y6 _⟩,Q1 b4 r⟩) (by show ([(d:Int)]++dg r).length<=1000000000;rw [Z3,Z16];omega)]
   have:valB 10000 ([(d:Int)]++dg r)=(x:Int):=by
    show (d:Int)+((10000:Nat):Int)*valB 10000 (dg r)=x
    rw [Q4 b4];omega
   rw [this];rfl
  have szz:sz z<=4:=Qx (by omega)
  have l4:=Wa z
  have l5:=Wa (b*z)
  have sbz:=W8 b z
  have ek:((k+1:Nat):Int)-1=(k:Int):=by omega
  unfold z125.l0P
  simp only
  rw [ek,bif_t (by omega),if_pos (by omega),Zi,hd',hr,if_pos (by rw [Z16];omega),et]
  simp only [Zb]
  rw [es]
  simp only [Zb]
  rw [if_pos (by omega),if_pos hkq,Qd9 (by omega)]
  simp only [Zb]
  rw [Qe7 (by omega)]
  simp only [Zb]
  rw [Qg0 (by omega) (by omega)]
  simp only [Zb]
  rw [Qg (by omega) (by omega),show x-b*z=w by omega]
theorem Qh3 {a b:Nat} (hb:0<b) (ha:sz a<=700000000) (hs:sz b<=100000000):z125.F (dg a) (dg b)=some (dg (a/b),dg (a%b)):=by
 have l1:=Wa a
 obtain ⟨q',r1,r2,r3,r4⟩:=Qmb (a:=dg a) (b:=b) (N:=a) (Q1 b4 a) hb hs (by omega) (by rw [Q4 b4]) (dg a).length (Z5 _) 0 (List.replicate (dg a).length 0) (by rw [List.drop_length];rfl) (by simp) (Qbj (by decide) _) (by rw [Z27 (by simp)];simp [valB])
 rw [Nat.zero_mod,Qec] at r1
 have e:z125.l0 (dg a) (dg b) ([],((dg a).length:Int)-1,List.replicate (dg a).length 0)=some (dg (a%b),(-1:Int),q'):=r1.lfp
 unfold z125.F
 rw [if_pos (by omega),Zi,Qg (by omega) (by omega),e]
 simp only [Zb]
 rw [Qaz r3 (by show List.length _<=_;omega),r4]
 rfl
theorem Qoa {a b:Nat} (ha:sz a<=100000000) (hb:sz b<=100000000):z126.F (dg a) (dg b)=some (dg (Nat.gcd a b)):=by
 have key:∀(f a b:Nat),b<f->sz a<=100000000->sz b<=100000000->Runs (λrec x=>z126.l0P rec some x) (dg a,dg b) (dg (Nat.gcd a b),[]):=by
  intro f
  induction f with
  |zero=>intro a b h;omega
  |
   succ f ih=>
   intro a b h ha hb
   rcases Z15 b with h0|h0
   ·subst h0
    refine .done λrec=>?_
    unfold z126.l0P
    simp only
    rw [Qc (by rw [Qec];simp),Nat.gcd_zero_right,Qec]
   ·have hm:=Z88 a h0
    have e:Nat.gcd a b=Nat.gcd b (a%b):=by rw [Nat.gcd_comm,Nat.gcd_rec,Nat.gcd_comm]
    have hsm:sz (a%b)<=sz b:=Jz (by omega)
    rw [e]
    refine .step (λrec=>?_) (ih b (a%b) (by omega) hb (by omega))
    unfold z126.l0P
    simp only
    rw [bif_t ((Qli b).2 h0),Qh3 h0 (by omega) hb]
    rfl
 unfold z126.F
 have e:z126.l0 (dg a,dg b)=some (dg (Nat.gcd a b),[]):=(key (b+1) a b (by omega) ha hb).lfp
 rw [e];rfl
abbrev rf (q:Rat):J0×Bool×J0:=(dg q.num.natAbs,neg q.num,dg q.den)
theorem Qhp {num:Int} {den:Nat} (h0:0<den) (hn:sz num.natAbs<=100000000) (hd:sz den<=100000000):z127.F (dg num.natAbs) (neg num) (dg den)=some (rf (mkRat num den)):=by
 have hg:0<Nat.gcd num.natAbs den:=Nat.gcd_pos_of_pos_right _ h0
 have hgs:sz (Nat.gcd num.natAbs den)<=sz den:=Jz (Nat.gcd_le_right _ h0)
 obtain ⟨q1,q2⟩:=Qf3 (Nat.gcd_dvd_left num.natAbs den) hg
 unfold z127.F
 rw [Qoa hn hd]
 simp only [Zb]
 show _=some (dg (mkRat num den).num.natAbs,neg (mkRat num den).num,dg (mkRat num den).den)
 rw [Rat.num_mkRat,Rat.den_mkRat,if_neg (by omega),if_neg (by omega),Nat.gcd_comm den]
 generalize Nat.gcd num.natAbs den=g at *
 rw [Qh3 hg (by omega) (by omega)]
 simp only [Zb]
 rw [Qh3 hg (by omega) (by omega)]
 simp only [Zb]
 rw [Y5 (z:=num/(g:Int)) q1.symm (by
  have hz:num/(g:Int)<0↔num<0:=q2
  by_cases h:num<0
  ·exact .inl ⟨Zt h,by omega⟩
  ·exact .inr ⟨Zf h,by omega⟩)]
 rfl
theorem Qil {num den:Int} (h0:den≠0) (hn:sz num.natAbs<=100000000) (hd:sz den.natAbs<=100000000):z128.F (dg num.natAbs) (neg num) (dg den.natAbs) (neg den)=some (rf (Rat.divInt num den)):=by
 unfold z128.F
 by_cases h:den<0
 ·have e:Rat.divInt num den=mkRat (-num) den.natAbs:=by
   have:den = -((den.natAbs:Nat):Int):=by omega
   conv=>lhs;rw [this]
   rw [Rat.divInt_neg',Rat.divInt_ofNat]
  rw [bif_t h,Qih]
  simp only [Zb]
  rw [Qhp (by omega) (by rw [Int.natAbs_neg];exact hn) hd,e]
  rfl
 ·have e:Rat.divInt num den=mkRat num den.natAbs:=by
   have:den=((den.natAbs:Nat):Int):=by omega
   conv=>lhs;rw [this]
   rw [Rat.divInt_ofNat]
  rw [Qc h,Qhp (by omega) hn hd,e]
  rfl
theorem Qfs {a b:Int} (ha:-9223372036854775808<a/\a<9223372036854775808) (hb:-9223372036854775808<b/\b<9223372036854775808) (h0:b≠0):z129.F a b=some (rf (Rat.divInt a b)):=by
 have s1:sz a.natAbs<=20:=Qx (by omega)
 have s2:sz b.natAbs<=20:=Qx (by omega)
 unfold z129.F
 rw [Qac ha]
 simp only [Zb]
 rw [Qac hb]
 simp only [Zb]
 rw [Qil h0 (by omega) (by omega)]
 rfl
theorem Qg4 {q r:Rat} (hs:sz q.num.natAbs+sz r.den<=800000000) (a:J0) (b:J0) (c:Bool):z132.F (dg q.num.natAbs) (neg q.num) a b c (dg r.den)=some (dg (q.num*r.den).natAbs,neg (q.num*r.den)):=by
 have l1:=Wa q.num.natAbs
 have l2:=Wa r.den
 have l3:(dg (r.den:Int).natAbs).length=(dg r.den).length:=rfl
 unfold z132.F
 rw [Y5 (z:=(r.den:Int)) (n:=r.den) (by omega) (.inr ⟨rfl,by omega⟩)]
 simp only [Zb]
 rw [Qni (by omega)]
 rfl
theorem Qps {q r:Rat} (hs:sz q.num.natAbs+sz r.den<=300000000) (hs':sz r.num.natAbs+sz q.den<=300000000):z133.F (rf q).1 (rf q).2.1 (rf q).2.2 (rf r).1 (rf r).2.1 (rf r).2.2=some (cmpI (q.num*r.den) (r.num*q.den)):=by
 have m1:=W8 q.num.natAbs (r.den:Int).natAbs
 have m2:=W8 r.num.natAbs (q.den:Int).natAbs
 rw [<-Z78] at m1 m2
 have e1:sz (r.den:Int).natAbs=sz r.den:=rfl
 have e2:sz (q.den:Int).natAbs=sz q.den:=rfl
 have l1:=Wa (q.num*r.den).natAbs
 have l2:=Wa (r.num*q.den).natAbs
 unfold z133.F
 rw [Qg4 (by omega)]
 simp only [Zb]
 rw [Qg4 (by omega)]
 simp only [Zb]
 rw [Qjf (by omega)]
 rfl
theorem Qtx {q r:Rat} (h0:r≠0) (hs:sz q.num.natAbs+sz r.den<=90000000) (hs':sz r.num.natAbs+sz q.den<=90000000):z134.F (rf q).1 (rf q).2.1 (rf q).2.2 (rf r).1 (rf r).2.1 (rf r).2.2=some (rf (q/r)):=by
 have m1:=W8 q.num.natAbs (r.den:Int).natAbs
 have m2:=W8 r.num.natAbs (q.den:Int).natAbs
 rw [<-Z78] at m1 m2
 have e1:sz (r.den:Int).natAbs=sz r.den:=rfl
 have e2:sz (q.den:Int).natAbs=sz q.den:=rfl
 have l1:=Wa r.num.natAbs
 have l2:=Wa (q.den:Int).natAbs
 have hr:r.num≠0:=λh=>h0 (Rat.num_eq_zero.1 h)
 have hqd:=q.den_nz
 unfold z134.F
 rw [Qg4 (by omega)]
 simp only [Zb]
 rw [Y5 (z:=(q.den:Int)) (n:=q.den) (by omega) (.inr ⟨rfl,by omega⟩)]
 simp only [Zb]
 rw [Qni (by omega)]
 simp only [Zb]
 rw [Qil (Int.mul_ne_zero hr (by omega)) (by omega) (by omega),Qir,Int.mul_comm (q.den:Int)]
 rfl
theorem Yg {s:J1} {i:Nat} (h:i<s.length):s.getD i 0=s[i]:=by simp [List.getD,h]
theorem Qnt {s:J1} (hs:s.length<=1000000000):∀(f i:Nat),i+f=s.length ->
  ∃o,Runs (λrec x=>z110.l0P s rec some x) (i:Int) o/\(match o with | .inl _=>true | .inr q=>q)=digs (s.drop i)
 |
  0,i,hf=>by
  refine ⟨.inl (i:Int),.done λrec=>?_,?_⟩
  ·unfold z110.l0P
   rw [Qc (by omega)]
  ·rw [Z27 (by omega)];rfl
 |
  f+1,i,hf=>by
  have hi:i<s.length:=by omega
  rw [Z17 hi]
  have e:digs (s[i]::s.drop (i+1))=(isD s[i]&&digs (s.drop (i+1))):=rfl
  rw [e]
  by_cases h1:(s[i].toNat:Int)<48
  ·refine ⟨.inr false,.done λrec=>?_,?_⟩
   ·unfold z110.l0P
    rw [bif_t (by omega),if_pos (by omega),Zi,Yg hi,bif_t h1]
   ·have:isD s[i]=false:=by unfold isD;rw [Zf (show ¬48<=s[i].toNat by omega)];rfl
    rw [this];rfl
  ·by_cases h2:(s[i].toNat:Int)>57
   ·refine ⟨.inr false,.done λrec=>?_,?_⟩
    ·unfold z110.l0P
     rw [bif_t (by omega),if_pos (by omega),Zi,Yg hi,Qc h1,if_pos (by omega),bif_t h2]
    ·have:isD s[i]=false:=by unfold isD;rw [Zf (show ¬s[i].toNat<=57 by omega)];simp
     rw [this];rfl
   ·obtain ⟨o,r,ho⟩:=Qnt hs f (i+1) (by omega)
    refine ⟨o,.step (λrec=>?_) r,?_⟩
    ·unfold z110.l0P
     rw [bif_t (by omega),if_pos (by omega),Zi,Yg hi,Qc h1,if_pos (by omega),Qc h2,Qg (by omega) (by omega)]
     rfl
    ·have:isD s[i]=true:=by unfold isD;rw [Zt (show 48<=s[i].toNat by omega),Zt (show s[i].toNat<=57 by omega)];rfl
     rw [ho,this];rfl
theorem Qrb {s:J1} (hs:s.length<=1000000000):z110.F s=some (numOK s):=by
 obtain ⟨o,r,ho⟩:=Qnt hs s.length 0 (by omega)
 have e:z110.l0 s 0=some o:=r.lfp
 rw [Z45] at ho
 unfold z110.F numOK
 rw [e]
 simp only [Zb]
 by_cases h0:s=[]
 ·subst h0;rfl
 ·have hpos:=Z21.2 h0
  rw [Qc (by omega),Zf h0]
  by_cases h1:1<s.length
  ·rw [bif_t (by omega),if_pos (by omega),Zt h1]
   by_cases h2:(s.getD 0 0).toNat=48
   ·rw [bif_t (by omega),Zt h2];simp
   ·rw [Qc (by omega),Zf h2]
    simp only [Zo,Z24,Bool.and_true,Z90]
    cases o with
    |inl z=>exact congrArg some ho
    |inr q=>exact congrArg some ho
  ·rw [Qc (by omega),Zf h1]
   simp only [Zo,Z24,Bool.and_true,Z37]
   cases o with
   |inl z=>exact congrArg some ho
   |inr q=>exact congrArg some ho
theorem Qtj {s:J1} (hs:Qu s) {b:UInt8} {t:J1} (e:s=b::t) (hb:b.toNat≠48):0<tv 0 s:=by
 subst e
 have h1:=hs b (by simp)
 unfold digit at h1
 have h2:=W6 (s:=t) λx hx=>hs x (by simp [hx])
 have e:tv 0 (b::t)=((b.toNat:Int)-48)*(10^t.length:Nat)+tv 0 t:=by
  show tv (10*0+(b.toNat:Int)-48) t=_
  rw [Qbu];simp
 have h3:0<10^t.length:=Z97 (by decide)
 have h4:1*((10^t.length:Nat):Int)<=((b.toNat:Int)-48)*(10^t.length:Nat):=Int.mul_le_mul_of_nonneg_right (by omega) (by omega)
 rw [e];omega
theorem Qdv {s:J1} (h:numOK s=true):Qu s/\s≠[]/\(1<s.length->(s.getD 0 0).toNat≠48):=by
 unfold numOK at h
 simp only [Z4,Z47,decide_eq_false_iff_not,Bool.and_eq_false_iff] at h
 exact ⟨Yh.1 h.1.2,h.1.1,λh1 h2=>by rcases h.2 with h3|h3<;>omega⟩
theorem Qm4 {s:J1} (h:numOK s=true):(tv 0 s).toNat=0↔s=[48]:=by
 obtain ⟨h1,h2,h3⟩:=Qdv h
 constructor
 ·intro h0
  cases s with
  |nil=>exact absurd rfl h2
  |
   cons b t=>
   by_cases hb:b.toNat=48
   ·have:t=[]:=by
     cases t with
     |nil=>rfl
     |cons c t'=>exact absurd hb (h3 (by simp))
    subst this
    rw [show b=48 from UInt8.toNat_inj.1 hb]
   ·have:=Qtj h1 rfl hb;omega
 ·rintro rfl;rfl
abbrev wr4 (w:Int×Int):J0×Bool×Int:=(dg w.1.natAbs,neg w.1,w.2)
theorem Qt7 (s:J1) (hs:s.length<=1000000):z111.F s=some (wr4 (mWhole s)):=by
 have key:∀(plain:J1) (below:Bool),plain.length<=s.length->cutNeg s=(plain,below)->(below=true->s.length=plain.length+1/\s.drop 1=plain/\(s.getD 0 0).toNat=45)->(below=false->s=plain) ->
   z111.j3 plain (dg (Int.natAbs 0),neg 0) s=some (wr4 (mWhole s)):=λplain below hp hc hb hb'=>by
  have z0:∀e:Int,some (dg (Int.natAbs 0),neg 0,e)=some (wr4 (0,e)):=λe=>rfl
  unfold z111.j3 mWhole
  rw [hc]
  simp only
  by_cases h1:4096<plain.length
  ·have hm:mDigits plain=(0,7):=by unfold mDigits;rw [if_pos h1]
   rw [bif_t (by omega),hm,if_pos (by decide)]
  ·rw [Qc (by omega),Qrb (by omega)]
   simp only [Zb]
   cases hn:numOK plain with
   |
    false=>
    have hm:mDigits plain=(0,5):=by unfold mDigits;rw [if_neg h1,hn];rfl
    simp only [Zo,Zd]
    rw [hm,if_pos (by decide)]
   |
    true=>
    obtain ⟨d1,d2,d3⟩:=Qdv hn
    have hm:mDigits plain=((tv 0 plain).toNat,0):=by unfold mDigits;rw [if_neg h1,hn];rfl
    have hz:=Qm4 hn
    obtain ⟨v,hv⟩:∃v:Nat,tv 0 plain=(v:Int):=⟨_,(Int.toNat_of_nonneg (W6 d1).1).symm⟩
    rw [hv,Zi] at hm hz
    simp only [Zn,Zc]
    rw [hm,if_neg (by simp)]
    simp only
    have hread:z109.F s=some (dg v,(below&&decide (0<v))):=by
     unfold z109.F
     have hpos:=Z21.2 d2
     rw [if_pos (by omega)]
     cases below with
     |
      true=>
      obtain ⟨g1,g2,g3⟩:=hb rfl
      rw [bif_t (by omega),if_pos (by omega),g2,Qd3 d1 (by omega),hv]
      simp only [Zb]
      rw [Qb1];rfl
     |
      false=>
      have g:=hb' rfl
      have hne:¬(((s.getD 0 0).toNat:Int)=45):=by
       rw [g,Yg hpos]
       have:=d1 plain[0] (Z9 hpos)
       unfold digit at this;omega
      rw [Qc hne,g,Qd3 d1 (by omega),hv]
      simp only [Zb]
      rw [Qb1];rfl
    by_cases h48:plain=[48]
    ·have h0:=hz.2 h48
     rw [bif_t h48]
     cases below with
     |
      true=>
      obtain ⟨g1,g2,g3⟩:=hb rfl
      rw [bif_t (by rw [h48] at g1;simp at g1;omega),h0]
      rfl
     |
      false=>
      have g:=hb' rfl
      rw [Qc (by rw [g,h48];simp),hread,h0]
      rfl
    ·have h0:v≠0:=λhh=>h48 (hz.1 hh)
     rw [Qc h48,hread]
     simp only [Zb]
     have e:(below&&decide (v=0))=false:=by rw [Zf h0,Z90]
     rw [e]
     simp only [Z12,if_false]
     cases below with
     |
      true=>
      have e1:(true&&decide (0<v))=neg (-(v:Int)):=by rw [Z24];exact decide_eq_decide.2 (by omega)
      rw [e1]
      show _=some (dg (-(v:Int)).natAbs,neg (-(v:Int)),0)
      rw [Int.natAbs_neg];rfl
     |
      false=>
      have e1:(false&&decide (0<v))=neg (v:Int):=by rw [Z37];symm;exact Zf (by omega)
      rw [e1];rfl
 unfold z111.F
 rw [Qac (by omega)]
 simp only [Zb]
 cases s with
 |
  nil=>
  rw [Qc (by simp)]
  exact key [] false (by simp) rfl (λh=>by simp at h) (λ_=>rfl)
 |
  cons b t=>
  rw [bif_t (by simp),if_pos (by simp)]
  by_cases h:b=45
  ·subst h
   rw [bif_t (by rfl),if_pos (by simp;omega)]
   exact key t true (by simp) rfl (λ_=>⟨by simp,rfl,rfl⟩) (λh=>by simp at h)
  ·have hb:¬((((b::t).getD 0 0).toNat:Int)=45):=λhh=>h (UInt8.toNat_inj.1 (by have e:(b::t).getD 0 0=b:=rfl;rw [e] at hh;show b.toNat=45;omega))
   rw [Qc hb]
   exact key (b::t) false (by simp) (by unfold cutNeg;simp [h]) (λh=>by simp at h) (λ_=>rfl)
theorem Qid (t:Nat) (ht:t<=1000000):∀(f i:Nat),i+f=t->Runs (λrec x=>z112.l0P (t:Int) rec some x) ((49:UInt8)::List.replicate i 48,(i:Int)) ((49:UInt8)::List.replicate t 48,(t:Int))
 |
  0,i,hf=>by
  have:i=t:=by omega
  subst this
  refine .done λrec=>?_
  unfold z112.l0P
  simp only
  rw [Qc (by omega)]
 |
  f+1,i,hf=>by
  refine .step (λrec=>?_) (Qid t ht f (i+1) (by omega))
  unfold z112.l0P
  simp only
  rw [bif_t (by omega),if_pos (by simp;omega),Qg (by omega) (by omega),List.replicate_succ']
  rfl
theorem Qi8:∀(t:Nat) (a:Int),tv a (List.replicate t 48)=a*(10^t:Nat)
 |0,a=>by simp [tv]
 |
  t+1,a=>by
  rw [List.replicate_succ]
  show tv (10*a+((48:UInt8).toNat:Int)-48) (List.replicate t 48)=_
  rw [Qi8 t,Z38,Z26]
  have:((48:UInt8).toNat:Int)=48:=rfl
  rw [this]
  generalize ((10^t:Nat):Int)=p
  grind
theorem Qlz {t:Nat} (ht:t<=1000000):z112.F (t:Int)=some (dg (10^t)):=by
 have e:z112.l0 (t:Int) ([49],(0:Int))=some ((49:UInt8)::List.replicate t 48,(t:Int)):=(Qid t ht t 0 (by omega)).lfp
 have hd:Qu ((49:UInt8)::List.replicate t 48):=λb hb=>by
  rcases Z62.1 hb with h|h
  ·subst h;unfold digit;decide
  ·rw [List.eq_of_mem_replicate h];unfold digit;decide
 have hv:tv 0 ((49:UInt8)::List.replicate t 48)=((10^t:Nat):Int):=by
  show tv 1 (List.replicate t 48)=_
  rw [Qi8];simp
 unfold z112.F
 rw [e]
 simp only [Zb]
 rw [Qd3 hd (by simp;omega),hv]
 rfl
theorem Qh6 (s:J1) (hs:s.length<=1000000):z122.F s=some (wr4 (mMoney s)):=by
 have hz:=Qnz s
 unfold z122.F mMoney
 rw [Qac (by omega)]
 simp only [Zb]
 rw [Qt7 s hs]
 simp only [Zb,wr4]
 generalize mWhole s=w at *
 by_cases h:w.2=0
 ·rw [Zt h,if_neg (by omega)]
  simp only [Zn,Zc]
  have h30:=Qlz (t:=30) (by decide)
  rw [show ((30:Nat):Int)=30 from rfl] at h30
  rw [h30]
  simp only [Zb]
  rw [Y5 (z:=10^30) (by decide) (.inr ⟨rfl,by decide⟩)]
  simp only [Zb]
  have l1:=Wa w.1.natAbs
  have l2:(dg (Int.natAbs (10^30))).length<=31:=Z48 (Wa _) (Qx (by decide))
  rw [Qjf (by omega)]
  simp only [Zb]
  by_cases h1:w.1<0
  ·rw [bif_t h1,if_pos (.inl h1)]
  ·rw [Qc h1]
   by_cases h2:10^30<w.1
   ·rw [bif_t (Jf.2 h2),if_pos (.inr h2)]
   ·rw [Qc (λh=>h2 (Jf.1 h)),if_neg (by omega)]
 ·rw [Zf h,if_pos h];rfl
def scan:J1->J1->Int->Int->Bool->Option (J1×Int×Int×Bool)
 |[],all,ah,bh,z=>some (all,ah,bh,z)
 |
  b::t,all,ah,bh,z=>
  if b.toNat=46/\bh<0 then scan t all ah 0 z
  else if isD b=false then none
  else if bh<0 then scan t (all++[b]) (ah+1) bh (z&&decide (b.toNat=48))
  else scan t (all++[b]) ah (bh+1) (z&&decide (b.toNat=48))
def Qct (n:Int):Option (J1×Int×Int×Bool)->(Int×J1×Int×Int×Bool)⊕Int
 |none=>.inr 5
 |some r=>.inl (n,r.1,r.2.1,r.2.2.1,r.2.2.2)
theorem Qjh {s:J1} (hs:s.length<=1000000) {i:Nat} (hi:i<s.length) (all:J1) (ha:all.length<=1000000) (z:Bool) (x y:Int) {R:Type} (rec:(Int×J1×Int×Int×Bool)->Option R) (done:((Int×J1×Int×Int×Bool)⊕Int)->Option R) :
  z123.j1018a rec done z (i:Int) s all x y=rec (((i+1:Nat):Int),all++[s[i]],x,y,(z&&decide (s[i].toNat=48))):=by
 have e1:wr .i64 ((i:Int)+1)=((i+1:Nat):Int):=by rw [Qg (by omega) (by omega)];rfl
 have e2:(s.drop i).take (i+1-i)=[s[i]]:=by
  rw [show i+1-i=1 by omega,Z17 hi];rfl
 have e3:decide ((s[i].toNat:Int)=48)=decide (s[i].toNat=48):=decide_eq_decide.2 (by omega)
 unfold z123.j1018a
 simp only [e1,Zi,e2,Yg hi,e3]
 cases z with
 |true=>simp only [Zd,Z24];rw [if_pos (by omega),if_pos (by omega),if_pos (by simp;omega)]
 |false=>simp only [Zc,Z37];rw [if_pos (by omega),if_pos (by simp;omega)]
theorem Qc4 {s:J1} (hs:s.length<=1000000):∀(f i:Nat) (all:J1) (ah bh:Int) (z:Bool),i+f=s.length->all.length<=i->(0<=ah/\ah<=i)->(-1<=bh/\bh<=i) ->
  Runs (λrec x=>z123.l0P s rec some x) ((i:Int),all,ah,bh,z) (Qct (s.length:Int) (scan (s.drop i) all ah bh z))
 |
  0,i,all,ah,bh,z,hf,_,_,_=>by
  refine .done λrec=>?_
  unfold z123.l0P
  simp only
  rw [Qc (by omega),Z27 (by omega),show (i:Int)=(s.length:Int) by omega];rfl
 |
  f+1,i,all,ah,bh,z,hf,ha,hah,hbh=>by
  have hi:i<s.length:=by omega
  have c1:(0:Int)<=(i:Int)/\(i:Int)<(s.length:Int):=by omega
  have e1:wr .i64 ((i:Int)+1)=((i+1:Nat):Int):=by rw [Qg (by omega) (by omega)];rfl
  rw [Z17 hi]
  by_cases hdot:s[i].toNat=46/\bh<0
  ·have ih:=Qc4 hs f (i+1) all ah 0 z (by omega) (by omega) (by omega) (by omega)
   have es:scan (s[i]::s.drop (i+1)) all ah bh z=scan (s.drop (i+1)) all ah 0 z:=by rw [scan];rw [if_pos hdot]
   rw [es]
   refine .step (λrec=>?_) ih
   unfold z123.l0P
   simp only
   rw [bif_t (by omega),if_pos c1,Zi,Yg hi,bif_t (by omega),bif_t hdot.2,e1]
  ·by_cases hd:isD s[i]=true
   ·have hd':48<=s[i].toNat/\s[i].toNat<=57:=by unfold isD at hd;simpa using hd
    have hnd:¬((s[i].toNat:Int)=46):=by omega
    by_cases hb:bh<0
    ·have ih:=Qc4 hs f (i+1) (all++[s[i]]) (ah+1) bh (z&&decide (s[i].toNat=48)) (by omega) (by simp;omega) (by omega) (by omega)
     have es:scan (s[i]::s.drop (i+1)) all ah bh z=scan (s.drop (i+1)) (all++[s[i]]) (ah+1) bh (z&&decide (s[i].toNat=48)):=by rw [scan];rw [if_neg hdot,if_neg (by rw [hd];simp),if_pos hb]
     rw [es]
     refine .step (λrec=>?_) ih
     unfold z123.l0P
     simp only
     rw [bif_t (by omega),if_pos c1,Zi,Yg hi,Qc hnd,if_pos c1,Qc (by omega),if_pos c1,Qc (by omega),bif_t hb,Qg (n:=ah+1) (by omega) (by omega)]
     exact Qjh hs hi all (by omega) z _ _ rec some
    ·have ih:=Qc4 hs f (i+1) (all++[s[i]]) ah (bh+1) (z&&decide (s[i].toNat=48)) (by omega) (by simp;omega) (by omega) (by omega)
     have es:scan (s[i]::s.drop (i+1)) all ah bh z=scan (s.drop (i+1)) (all++[s[i]]) ah (bh+1) (z&&decide (s[i].toNat=48)):=by rw [scan];rw [if_neg hdot,if_neg (by rw [hd];simp),if_neg hb]
     rw [es]
     refine .step (λrec=>?_) ih
     unfold z123.l0P
     simp only
     rw [bif_t (by omega),if_pos c1,Zi,Yg hi,Qc hnd,if_pos c1,Qc (by omega),if_pos c1,Qc (by omega),Qc hb,Qg (n:=bh+1) (by omega) (by omega)]
     exact Qjh hs hi all (by omega) z _ _ rec some
   ·have hd2:isD s[i]=false:=by simpa using hd
    have hd':s[i].toNat<48\/57<s[i].toNat:=by
     unfold isD at hd2
     simp at hd2
     omega
    have es:scan (s[i]::s.drop (i+1)) all ah bh z=none:=by rw [scan];rw [if_neg hdot,if_pos hd2]
    rw [es]
    refine .done λrec=>?_
    unfold z123.l0P
    simp only
    rw [bif_t (by omega),if_pos c1,Zi,Yg hi]
    by_cases h46:(s[i].toNat:Int)=46
    ·rw [bif_t h46,Qc (by omega),if_pos c1,bif_t (by omega)];rfl
    ·rw [Qc h46,if_pos c1]
     by_cases h48:(s[i].toNat:Int)<48
     ·rw [bif_t h48];rfl
     ·rw [Qc h48,if_pos c1,bif_t (by omega)];rfl
theorem Qgc (b:UInt8) (t:J1):zeros (b::t)=(decide (b.toNat=48)&&zeros t):=by
 show ((b == 48)&&zeros t)=_
 rw [Qiz];rfl
theorem Qjv:∀(t all:J1) (ah bh:Int) (z:Bool),0<=bh->scan t all ah bh z=if digs t then some (all++t,ah,bh+t.length,z&&zeros t) else none
 |[],all,ah,bh,z,h=>by simp [scan,digs,zeros]
 |
  b::t,all,ah,bh,z,h=>by
  have e:digs (b::t)=(isD b&&digs t):=rfl
  rw [scan,if_neg (by omega),e,Qgc]
  by_cases hd:isD b=true
  ·rw [if_neg (by rw [hd];simp),if_neg (by omega),Qjv t _ _ _ _ (by omega),hd,Z24,Bool.and_assoc,Z51]
   congr 3
   simp;omega
  ·have hd2:isD b=false:=by simpa using hd
   rw [if_pos hd2,hd2];rfl
theorem Qk0:∀(t all:J1) (ah:Int) (z:Bool),scan t all ah (-1) z =
  if digs (cutDot t).1 then (match (cutDot t).2 with
   |none=>some (all++(cutDot t).1,ah+(cutDot t).1.length,(-1:Int),z&&zeros (cutDot t).1)
   |some b=>if digs b then some (all++(cutDot t).1++b,ah+(cutDot t).1.length,(b.length:Int),z&&zeros (cutDot t).1&&zeros b) else none) else none
 |[],all,ah,z=>by simp [scan,cutDot,digs,zeros]
 |
  b::t,all,ah,z=>by
  by_cases h46:b=46
  ·subst h46
   rw [scan,if_pos ⟨rfl,by decide⟩,Qjv _ _ _ _ _ (Int.le_refl 0)]
   have:cutDot (46::t)=([],some t):=by rw [cutDot,if_pos rfl]
   rw [this]
   simp [digs,zeros]
  ·have hc:cutDot (b::t)=(b::(cutDot t).1,(cutDot t).2):=by rw [cutDot,if_neg h46]
   have h46':¬(b.toNat=46/\(-1:Int)<0):=λhh=>h46 (UInt8.toNat_inj.1 hh.1)
   have e:∀x,digs (b::x)=(isD b&&digs x):=λx=>rfl
   rw [scan,if_neg h46',hc,e]
   by_cases hd:isD b=true
   ·rw [if_neg (by rw [hd];simp),if_pos (by decide),Qk0 t,hd,Z24]
    split
    ·cases (cutDot t).2 with
     |
      none=>
      simp only [Qgc,Z51,List.singleton_append,Bool.and_assoc,Z8]
      congr 3
      omega
     |
      some c=>
      simp only [Qgc,Z51,List.singleton_append,Bool.and_assoc,Z8,List.cons_append]
      split
      ·congr 3;omega
      ·rfl
    ·rfl
   ·have hd2:isD b=false:=by simpa using hd
    rw [if_pos hd2,hd2];rfl
abbrev decD (m:Int×Nat×Int):J0×Bool×Int×Int:=(dg m.1.natAbs,neg m.1,(m.2.1:Int),m.2.2)
theorem decD0 (e:Int):decD (0,0,e)=([],false,0,e):=by unfold decD;simp [Qec]
theorem Qgx {s t:J1} {below:Bool} {i:Nat} (hs:s.length<=4096) (hi:i<=1) (hil:i<=s.length) (ht:s.drop i=t) :
  z123.j3 s (i:Int) below=some (decD (Yu below (cutDot t).1 (cutDot t).2)):=by
 have r:=Qc4 (s:=s) (by omega) (s.length-i) i [] 0 (-1) true (by omega) (by simp) (by omega) (by omega)
 have e:z123.l0 s ((i:Int),[],(0:Int),(-1:Int),true)=some (Qct (s.length:Int) (scan t [] 0 (-1) true)):=by rw [<-ht];exact r.lfp
 have htl:t.length<=4096:=by rw [<-ht,Z22];omega
 unfold z123.j3
 rw [e,Qk0]
 simp only [Zb,List.nil_append,Int.zero_add,Z24]
 have fin:∀(all:J1) (n ah bh:Int) (z:Bool) (sc:Nat),Qu all->all.length<=4096->(sc:Int)=max bh 0 ->
   z123.j7 (n,all,ah,bh,z) below=some (decD (if 64<bh then (0,0,10) else (if below then -tv 0 all else tv 0 all,sc,0))):=λall n ah bh z sc hd hl hsc=>by
  unfold z123.j7
  simp only
  by_cases h64:64<bh
  ·rw [bif_t h64,if_pos h64,decD0]
  ·obtain ⟨v,hv⟩:∃v:Nat,tv 0 all=(v:Int):=⟨_,(Int.toNat_of_nonneg (W6 hd).1).symm⟩
   rw [Qc h64,if_neg h64,Qd3 hd (by omega),hv]
   simp only [Zb,Zi]
   have em:(if (0:Int)>bh then (0:Int) else bh)=(sc:Int):=by split<;>omega
   rw [em]
   cases below with
   |true=>rw [Y5 (z:=-(v:Int)) (by omega) (.inl ⟨rfl,by omega⟩)];rfl
   |false=>rw [Y5 (z:=(v:Int)) (by omega) (.inr ⟨rfl,by omega⟩)];rfl
 unfold Yu plainB
 cases hda:digs (cutDot t).1 with
 |
  false=>
  simp only [Z12,if_false,Z90,Zo,Z84,if_true]
  rw [decD0];rfl
 |
  true=>
  have hdd:=Yh.1 hda
  simp only [if_true,Bool.and_true,Bool.not_not]
  cases ho:(cutDot t).2 with
  |
   none=>
   have hct:=Qcu ho
   rw [hct] at hdd ⊢
   simp only [Qct,Option.isSome_none,Z37,Bool.or_false,Option.getD_none,Z42,Z31]
   by_cases h0:t=[]
   ·subst h0
    rw [bif_t (p:=((([]:J1).length:Nat):Int)=0) rfl,Zt (p:=([]:J1)=[]) rfl]
    simp only [Z84,if_true]
    rw [decD0]
   ·have hpos:=Z21.2 h0
    rw [Qc (by omega),Qc (by omega),Zf h0]
    simp only [Z82]
    have hfin:=fin t (s.length:Int) (t.length:Int) (-1) (zeros t) 0 hdd htl (by omega)
    rw [if_neg (by decide)] at hfin
    have rest:(bif below then bif zeros t then some ([],false,0,5) else z123.j7 ((s.length:Int),t,(t.length:Int),-1,zeros t) below else z123.j7 ((s.length:Int),t,(t.length:Int),-1,zeros t) below)=some (decD (if (below&&zeros t)=true then (0,0,5) else (if below then -tv 0 t else tv 0 t,0,0))):=by
     rw [hfin]
     cases below<;>cases zeros t<;>first|rfl|(simp only [Zd,Z24,if_true];rw [decD0])
    by_cases h1:1<t.length
    ·rw [bif_t (by omega),if_pos (by omega),Zt h1]
     by_cases h48:(t.getD 0 0).toNat=48
     ·rw [bif_t (by omega),Zt h48]
      simp only [Z24,if_true]
      rw [decD0]
     ·rw [Qc (by omega),Zf h48]
      simp only [Z90,Z12,if_false]
      exact rest
    ·rw [Qc (by omega),Zf h1]
     simp only [Z37,Z12,if_false]
     exact rest
  |
   some b=>
   have hct:=Qcq ho
   generalize (cutDot t).1=a at *
   have hlen:t.length=a.length+(b.length+1):=by rw [hct];simp
   simp only [Option.isSome_some,Z24,Z39]
   cases hdb:digs b with
   |
    false=>
    simp only [Qct,Z12,if_false,Z90,Zo,Bool.or_true,Z84,if_true]
    rw [decD0]
   |
    true=>
    have hdd2:=Yh.1 hdb
    simp only [Qct,if_true,Bool.and_true,Bool.not_not]
    have hdall:Qu (a++b):=λx hx=>(Z41.1 hx).elim (hdd x) (hdd2 x)
    by_cases h0:a=[]
    ·subst h0
     rw [bif_t (p:=((([]:J1).length:Nat):Int)=0) rfl,Zt (p:=([]:J1)=[]) rfl]
     simp only [Z84,if_true]
     rw [decD0]
    ·have hpos:=Z21.2 h0
     rw [Qc (by omega),Zf h0]
     by_cases hb0:b=[]
     ·subst hb0
      rw [bif_t (p:=((([]:J1).length:Nat):Int)=0) rfl,Zt (p:=([]:J1)=[]) rfl]
      simp only [Z84,Bool.or_true,if_true]
      rw [decD0]
     ·have hbpos:=Z21.2 hb0
      rw [Qc (by omega),Zf hb0]
      simp only [Z82]
      have hz:zeros (a++b)=(zeros a&&zeros b):=by simp [zeros]
      have hg:(a++b).getD 0 0=a.getD 0 0:=by
       rw [Yg (by simp;omega),Yg hpos,Z32 hpos]
      have hfin:=fin (a++b) (s.length:Int) (a.length:Int) (b.length:Int) (zeros a&&zeros b) b.length hdall (by rw [Z3];omega) (by omega)
      have e64:(64<(b.length:Int))=(64<b.length):=by apply propext;omega
      simp only [e64] at hfin
      have rest:(bif below then bif (zeros a&&zeros b) then some ([],false,0,5) else z123.j7 ((s.length:Int),a++b,(a.length:Int),(b.length:Int),(zeros a&&zeros b)) below else z123.j7 ((s.length:Int),a++b,(a.length:Int),(b.length:Int),(zeros a&&zeros b)) below)=some (decD (if (below&&zeros (a++b))=true then (0,0,5) else if 64<b.length then (0,0,10) else (if below then -tv 0 (a++b) else tv 0 (a++b),b.length,0))):=by
       rw [hfin,hz]
       cases below<;>cases (zeros a&&zeros b)<;>first|rfl|(simp only [Zd,Z24,if_true];rw [decD0])
      rw [hg]
      by_cases h1:1<a.length
      ·rw [bif_t (by omega),if_pos (by rw [Z3];omega),Zt h1]
       by_cases h48:(a.getD 0 0).toNat=48
       ·rw [bif_t (by omega),Zt h48]
        simp only [Z24,if_true]
        rw [decD0]
       ·rw [Qc (by omega),Zf h48]
        simp only [Z90,Z12,if_false]
        exact rest
      ·rw [Qc (by omega),Zf h1]
       simp only [Z37,Z12,if_false]
       exact rest
theorem Qol {s:J1} (hs:s.length<=4096):z123.F s=some (decD (mDec s)):=by
 have h4:¬4096<s.length:=by omega
 unfold z123.F mDec
 rw [if_neg h4]
 cases s with
 |
  nil=>
  rw [Qc (by simp)]
  exact Qgx (s:=[]) (t:=[]) (below:=false) (i:=0) (by simp) (by omega) (by simp) rfl
 |
  cons b t=>
  rw [bif_t (by simp),if_pos (by simp)]
  by_cases h:b=45
  ·subst h
   rw [bif_t (by rfl)]
   exact Qgx (s:=45::t) (t:=t) (below:=true) (i:=1) hs (by omega) (by simp) rfl
  ·have hb:¬((((b::t).getD 0 0).toNat:Int)=45):=λhh=>h (UInt8.toNat_inj.1 (by have e:(b::t).getD 0 0=b:=rfl;rw [e] at hh;show b.toNat=45;omega))
   rw [Qc hb]
   have hc:cutNeg (b::t)=(b::t,false):=by unfold cutNeg;simp [h]
   rw [hc]
   exact Qgx (s:=b::t) (t:=b::t) (below:=false) (i:=0) hs (by omega) (by simp) rfl
theorem Qu5 {c:Int} {s:Nat} (hs:s<=4096) (hc:sz c.natAbs<=100000000):z130.F (dg c.natAbs) (neg c) (s:Int)=some (rf (mkRat c (10^s))):=by
 have hp:0<10^s:=Z97 (by decide)
 have l:=Qbn s
 unfold z130.F
 rw [Qlz (by omega)]
 simp only [Zb]
 rw [Qhp hp hc (by omega)]
 rfl
theorem Qsf {n:Int} {d:Nat} (hd:0<d) (k:Int):k*(mkRat n d).den<(mkRat n d).num↔k*d<n:=by
 have hg:0<Nat.gcd d n.natAbs:=Nat.gcd_pos_of_pos_left _ hd
 have e1:(mkRat n d).num*(Nat.gcd d n.natAbs:Nat)=n:=by
  rw [Rat.num_mkRat,if_neg (by omega)]
  exact Int.ediv_mul_cancel (Int.ofNat_dvd_left.2 (Nat.gcd_dvd_right _ _))
 have e2:((mkRat n d).den:Int)*(Nat.gcd d n.natAbs:Nat)=d:=by
  rw [Rat.den_mkRat,if_neg (by omega)]
  exact_mod_cast Nat.div_mul_cancel (Nat.gcd_dvd_left _ _)
 generalize Nat.gcd d n.natAbs=g at *
 have hg':(0:Int)<(g:Int):=by omega
 have e3:k*(d:Int)=k*(mkRat n d).den*g:=by rw [<-e2,Int.mul_assoc]
 constructor
 ·intro h
  have:=Int.mul_lt_mul_of_pos_right h hg'
  rw [e1] at this
  rw [e3];exact this
 ·intro h
  refine Int.lt_of_mul_lt_mul_right ?_ (Int.le_of_lt hg')
  rw [e1,<-e3];exact h
theorem Qfe (n:Int):Rat.divInt n 1=(n:Rat):=by
 rw [show (1:Int)=((1:Nat):Int) from rfl,Rat.divInt_ofNat,Rat.mkRat_eq_div]
 have:(n:Rat)/((1:Nat):Rat)=(n:Rat):=by
  rw [Rat.div_def]
  have:(((1:Nat):Rat))⁻¹=1:=by decide +kernel
  rw [this,Rat.mul_one]
 exact this
theorem Qwg (s:J1):z135.F s=some ((rf (W5 s).1).1,(rf (W5 s).1).2.1,(rf (W5 s).1).2.2,(W5 s).2):=by
 have s0:z129.F 0 1=some (rf 0):=by
  rw [Qfs (by omega) (by omega) (by omega),Qfe];rfl
 have s1000:z129.F 1000 1=some (rf 1000):=by
  rw [Qfs (by omega) (by omega) (by omega),Qfe];rfl
 have s100:z129.F 100 1=some (rf 100):=by
  rw [Qfs (by omega) (by omega) (by omega),Qfe];rfl
 obtain ⟨hb1,hb2⟩:=Qfc s
 unfold z135.F W5
 rw [s0]
 simp only [Zb]
 by_cases hl:4096<s.length
 ·have hm:mDec s=(0,0,7):=by unfold mDec;rw [if_pos hl]
  rw [bif_t (by omega),hm,if_pos (by decide)]
 ·rw [Qc (by omega),Qol (by omega)]
  simp only [Zb,decD]
  generalize mDec s=d at *
  obtain ⟨c,sc,e⟩:=d
  simp only at *
  by_cases h:e=0
  ·rw [Zt h,if_neg (by omega)]
   simp only [Zn,Zc]
   have hp0:0<10^sc:=Z97 (by decide)
   have n1:=Jz (Qis c hp0)
   have n2:=Jz (Qma c hp0)
   have l:=Qbn sc
   have k1:sz (Rat.num 1000).natAbs<=4:=Qx (by decide)
   have k2:sz (Rat.den 1000)<=1:=Qx (by decide)
   have k3:sz (Rat.num 100).natAbs<=3:=Qx (by decide)
   have k4:sz (Rat.den 100)<=1:=Qx (by decide)
   rw [Qu5 (by omega) (by omega)]
   simp only [Zb]
   rw [s1000]
   simp only [Zb]
   have hcmp:=Qps (q:=mkRat c (10^sc)) (r:=1000) (by omega) (by omega)
   rw [hcmp]
   simp only [Zb]
   have hgt:=Qsf (n:=c) hp0 1000
   have e1:(mkRat c (10^sc)).num*((Rat.den 1000:Nat):Int)=(mkRat c (10^sc)).num:=by
    show _*((1:Nat):Int)=_
    simp
   have e2:Rat.num 1000=1000:=rfl
   rw [e1,e2]
   by_cases h1:c<0
   ·rw [bif_t h1,if_pos (.inl h1)]
   ·rw [Qc h1]
    by_cases h2:1000*((10^sc:Nat):Int)<c
    ·rw [bif_t (Jf.2 (hgt.2 h2)),if_pos (.inr (.inl h2))]
    ·rw [Qc (λh=>h2 (hgt.1 (Jf.1 h)))]
     by_cases h3:12<sc
     ·rw [bif_t (by omega),if_pos (.inr (.inr h3))]
     ·rw [Qc (by omega),if_neg (by omega)]
      unfold z135.j6
      rw [s100]
      simp only [Zb]
      rw [Qtx (q:=mkRat c (10^sc)) (r:=100) (by decide) (by omega) (by omega)]
      rfl
  ·rw [Zf h,if_pos h];rfl
theorem Qom (a b c a' b' c':Int):z101.F a b c a' b' c'=some (dcmp a b c a' b' c'):=by
 have e0:wr .i64 (0+1)=1:=by decide
 have e1:wr .i64 (1+1)=2:=by decide
 have e2:wr .i64 (2+1)=3:=by decide
 have step:∀(i:Nat) (x y:Int) (o:Int⊕Int),i<3->[a,b,c].getD i 0=x->[a',b',c'].getD i 0=y->Runs (λrec z=>z101.l0P [a,b,c] [a',b',c'] rec some z) (wr .i64 ((i:Int)+1)) o ->
   Runs (λrec z=>z101.l0P [a,b,c] [a',b',c'] rec some z) (i:Int) (if x<y then .inr (-1) else if y<x then .inr 1 else o):=λi x y o hi hx hy r=>by
  have c1:(0:Int)<=(i:Int)/\(i:Int)<([a,b,c].length:Int):=by simp;omega
  have c2:(0:Int)<=(i:Int)/\(i:Int)<([a',b',c'].length:Int):=by simp;omega
  by_cases h1:x<y
  ·rw [if_pos h1]
   refine .done λrec=>?_
   unfold z101.l0P
   rw [bif_t (by omega),if_pos c1,if_pos c2,Zi,hx,hy,bif_t h1]
  ·rw [if_neg h1]
   by_cases h2:y<x
   ·rw [if_pos h2]
    refine .done λrec=>?_
    unfold z101.l0P
    rw [bif_t (by omega),if_pos c1,if_pos c2,Zi,hx,hy,Qc h1,if_pos c1,if_pos c2,bif_t h2]
   ·rw [if_neg h2]
    refine .step (λrec=>?_) r
    unfold z101.l0P
    rw [bif_t (by omega),if_pos c1,if_pos c2,Zi,hx,hy,Qc h1,if_pos c1,if_pos c2,Qc h2]
 have r3:Runs (λrec z=>z101.l0P [a,b,c] [a',b',c'] rec some z) (wr .i64 (((2:Nat):Int)+1)) (.inl 3):=by
  rw [show wr .i64 (((2:Nat):Int)+1)=3 from e2]
  exact .done λrec=>by unfold z101.l0P;rw [Qc (by decide)]
 have r2:=step 2 c c' _ (by decide) rfl rfl r3
 have r1:=step 1 b b' _ (by decide) rfl rfl (by rw [show wr .i64 (((1:Nat):Int)+1)=((2:Nat):Int) from e1];exact r2)
 have r0:=step 0 a a' _ (by decide) rfl rfl (by rw [show wr .i64 (((0:Nat):Int)+1)=((1:Nat):Int) from e0];exact r1)
 have e:z101.l0 [a,b,c] [a',b',c'] 0=_:=r0.lfp
 unfold z101.F dcmp
 rw [e]
 simp only [Zb]
 (repeat' split)<;>first|rfl|simp_all
set_option maxRecDepth 100000 in
theorem Qo2:∃tab:J1,tab.length=256 /\
  (∀x j,z17.j8 x j=if (0:Int)<=wr .u8 x/\wr .u8 x<(tab.length:Int) then some (wr .i64 (j+wr .i64 ((tab.getD (wr .u8 x).toNat 0).toNat:Int))) else none) /\
  (∀x j,z17.j10 x j=if (0:Int)<=wr .u8 x/\wr .u8 x<(tab.length:Int) then some (wr .i64 (j+wr .i64 ((tab.getD (wr .u8 x).toNat 0).toNat:Int))) else none) /\
  ∀x:Fin 256,0<x.1->1<=(tab.getD x.1 0).toNat/\(tab.getD x.1 0).toNat<=8/\2^((tab.getD x.1 0).toNat-1)<=x.1/\x.1<2^(tab.getD x.1 0).toNat:=
 ⟨_,rfl,λx j=>rfl,λx j=>rfl,by decide⟩
theorem Qeu {x:Nat} (h0:0<x) (h:x<256) {j:Nat} (hj:j<=1000):∃n,n<=7/\2^n<=x/\x<2^(n+1)/\z17.j8 x j=some ((j+n+1:Nat):Int)/\z17.j10 x j=some ((j+n+1:Nat):Int):=by
 obtain ⟨tab,hl,h1,h2,ht⟩:=Qo2
 obtain ⟨t1,t2,t3,t4⟩:=ht ⟨x,h⟩ h0
 simp only at t1 t2 t3 t4
 obtain ⟨n,hn⟩:∃n,(tab.getD x 0).toNat=n+1:=⟨_,(Nat.sub_add_cancel t1).symm⟩
 rw [hn] at t2 t3 t4
 have hw:wr .u8 (x:Int)=x:=Qaj (by omega) (by omega)
 refine ⟨n,by omega,by simpa using t3,t4,?_,?_⟩
 ·rw [h1,hw,if_pos (by omega),Zi,hn,Qg (n:=((n+1:Nat):Int)) (by omega) (by omega),Qg (by omega) (by omega)]
  congr 1
 ·rw [h2,hw,if_pos (by omega),Zi,hn,Qg (n:=((n+1:Nat):Int)) (by omega) (by omega),Qg (by omega) (by omega)]
  congr 1
theorem Qar (n k:Nat):Int.fdiv (n:Int) (2^k)=((n/2^k:Nat):Int):=by
 rw [Int.fdiv_eq_ediv_of_nonneg _ (by exact_mod_cast Z65 (2^k))]
 push_cast;rfl
theorem Qcc {x n k:Nat} (h1:2^n<=x/2^k) (h2:x/2^k<2^(n+1)):2^(n+k)<=x/\x<2^(n+k+1):=by
 have hp:=Nat.pos_of_ne_zero (show 2^k≠0 by exact Nat.ne_of_gt (Nat.two_pow_pos k))
 have:=(Nat.le_div_iff_mul_le hp).1 h1
 have:=(Z81 hp).1 h2
 rw [Z91,show n+k+1=(n+1)+k by omega,Z91]
 omega
set_option maxRecDepth 100000 in
theorem Qmv {x:Nat} (h0:0<x) (h:x<4294967296) {j:Nat} (hj:j<=100):∃n,n<=31/\2^n<=x/\x<2^(n+1)/\z17.j2 x j=some ((j+n+1:Nat):Int):=by
 unfold z17.j2
 rw [show min 16 64=16 from rfl,show min 8 64=8 from rfl,Qar,Qar,Qar]
 by_cases h1:65536<=x
 ·rw [bif_t (by omega),Qg (n:=(j:Int)+16) (by omega) (by omega),Qg (n:=(j:Int)+16+8) (by omega) (by omega)]
  have b1:0<x/2^16/\x/2^16<65536:=by omega
  by_cases h2:256<=x/2^16
  ·rw [bif_t (by omega)]
   obtain ⟨n,n1,n2,n3,n4,_⟩:=Qeu (x:=x/2^16/2^8) (by omega) (by omega) (j:=j+24) (by omega)
   obtain ⟨m2,m3⟩:=Qcc n2 n3
   obtain ⟨m2,m3⟩:=Qcc (n:=n+8) m2 m3
   refine ⟨n+8+16,by omega,m2,m3,?_⟩
   refine (congrArg (z17.j8 _) (show ((j:Int)+16+8)=((j+24:Nat):Int) by omega)).trans (n4.trans ?_)
   congr 2;omega
  ·rw [Qc (by omega)]
   obtain ⟨n,n1,n2,n3,n4,_⟩:=Qeu (x:=x/2^16) (by omega) (by omega) (j:=j+16) (by omega)
   obtain ⟨m2,m3⟩:=Qcc n2 n3
   refine ⟨n+16,by omega,m2,m3,?_⟩
   refine (congrArg (z17.j8 _) (show ((j:Int)+16)=((j+16:Nat):Int) by omega)).trans (n4.trans ?_)
   congr 2;omega
 ·rw [Qc (by omega)]
  by_cases h2:256<=x
  ·rw [bif_t (by omega),Qg (n:=(j:Int)+8) (by omega) (by omega)]
   obtain ⟨n,n1,n2,n3,_,n4⟩:=Qeu (x:=x/2^8) (by omega) (by omega) (j:=j+8) (by omega)
   obtain ⟨m2,m3⟩:=Qcc n2 n3
   refine ⟨n+8,by omega,m2,m3,?_⟩
   refine (congrArg (z17.j10 _) (show ((j:Int)+8)=((j+8:Nat):Int) by omega)).trans (n4.trans ?_)
   congr 2;omega
  ·rw [Qc (by omega)]
   obtain ⟨n,n1,n2,n3,_,n4⟩:=Qeu (x:=x) (by omega) (by omega) (j:=j) (by omega)
   exact ⟨n,by omega,n2,n3,n4⟩
theorem bits_Len64 {x:Nat} (h0:0<x) (h:x<18446744073709551616):∃n,n<=63/\2^n<=x/\x<2^(n+1)/\z17.F x=some ((n+1:Nat):Int):=by
 unfold z17.F
 rw [show min 32 64=32 from rfl,Qar]
 by_cases h1:4294967296<=x
 ·rw [bif_t (by omega)]
  obtain ⟨n,n1,n2,n3,n4⟩:=Qmv (x:=x/2^32) (by omega) (by omega) (j:=32) (by omega)
  obtain ⟨m2,m3⟩:=Qcc n2 n3
  refine ⟨n+32,by omega,m2,m3,?_⟩
  refine n4.trans ?_
  congr 2;omega
 ·rw [Qc (by omega)]
  obtain ⟨n,n1,n2,n3,n4⟩:=Qmv (x:=x) (by omega) (by omega) (j:=0) (by omega)
  refine ⟨n,by omega,n2,n3,?_⟩
  refine n4.trans ?_
  congr 2;omega
theorem Quj {x:Nat} (h0:0<x) (h:x<18446744073709551616):∃s,s<=63/\9223372036854775808<=x*2^s/\x*2^s<18446744073709551616/\z18.F x=some ((s:Nat):Int):=by
 obtain ⟨n,n1,n2,n3,n4⟩:=bits_Len64 h0 h
 have e1:2^n*2^(63-n)=9223372036854775808:=by rw [<-Z91,show n+(63-n)=63 by omega]
 have e2:2^(n+1)*2^(63-n)=18446744073709551616:=by rw [<-Z91,show n+1+(63-n)=64 by omega]
 refine ⟨63-n,by omega,?_,?_,?_⟩
 ·rw [<-e1];exact Z19 _ n2
 ·rw [<-e2];exact Nat.mul_lt_mul_of_pos_right n3 (Nat.two_pow_pos _)
 ·unfold z18.F
  rw [n4]
  simp only [Zb]
  rw [Qg (by omega) (by omega)]
  congr 1;omega
end Go.Proofs.YtjfipepaaddlmaaGreatDoor.A
end
section
set_option linter.unusedSectionVars false
namespace Go.Proofs.YtjfipepaaddlmaaGreatDoor.A
open Go
structure Qcr (y1 y0 u u0:Nat) (q r:Nat):Prop where
 eq:q*y1+r=u
 ge:(u*4294967296+u0)/(y1*4294967296+y0)<=q
 le:q<=4294967297
 lt:r<4294967296
theorem Qls (B:Nat) {y1 y0 u q r:Nat} (he:q*y1+r=u):q*(y1*B+y0)+r*B=u*B+q*y0:=by
 rw [<-he,Z40,Nat.mul_add,Z83]
 omega
theorem Qqz {B A A2 u u0 r:Nat} (h:A+r*B=u*B+A2) (hc:r*B+u0<A2):u*B+u0<A:=by omega
section
variable {y1 y0 u u0:Nat} (h1:2147483648<=y1) (h1':y1<4294967296) (h0:y0<4294967296) (hu:u<y1*4294967296+y0) (hu0:u0<4294967296)
include h1 h1' h0 hu hu0
theorem Qr7:Qcr y1 y0 u u0 (u/y1) (u%y1):=by
 have hy:0<y1:=by omega
 refine ⟨by rw [Z33];exact Z58 u y1,?_,?_,?_⟩
 ·rw [Nat.le_div_iff_mul_le hy]
  have hd:=Nat.div_mul_le_self (u*4294967296+u0) (y1*4294967296+y0)
  generalize (u*4294967296+u0)/(y1*4294967296+y0)=Q at *
  rw [Nat.mul_add,<-Z83] at hd
  generalize Q*y1=A at *
  generalize Q*y0=B at *
  omega
 ·have:u/y1<4294967298:=by
   rw [Z81 hy];omega
  omega
 ·have:=Z88 u hy;omega
theorem Qrn:(u*4294967296+u0)/(y1*4294967296+y0)<4294967296:=by
 rw [Z81 (by omega)];omega
theorem Qww {q r:Nat} (h:Qcr y1 y0 u u0 q r) (hc:4294967296<=q\/r*4294967296+u0<q*y0):(u*4294967296+u0)/(y1*4294967296+y0)<q:=by
 rcases hc with hc|hc
 ·exact Z11 (Qrn h1 h1' h0 hu hu0) hc
 ·have:=Qls 4294967296 (y0:=y0) h.eq
  have hlt:u*4294967296+u0<q*(y1*4294967296+y0):=Qqz this hc
  exact (Z81 (show 0<y1*4294967296+y0 by omega)).2 hlt
theorem Qim {q r:Nat} (he:q*y1+r=u) (ge:(u*4294967296+u0)/(y1*4294967296+y0)<=q) (hc:q*y0<=r*4294967296+u0):q=(u*4294967296+u0)/(y1*4294967296+y0):=by
 refine Nat.le_antisymm ?_ ge
 rw [Nat.le_div_iff_mul_le (by omega)]
 have:=Qls 4294967296 (y0:=y0) he
 omega
theorem Qif {q r:Nat} (h:Qcr y1 y0 u u0 q r) (hc:(u*4294967296+u0)/(y1*4294967296+y0)<q):(q-1)*y1+(r+y1)=u/\(u*4294967296+u0)/(y1*4294967296+y0)<=q-1:=by
 generalize (u*4294967296+u0)/(y1*4294967296+y0)=Q at hc ⊢
 obtain ⟨k,rfl⟩:∃k,q=k+1:=⟨q-1,by omega⟩
 have:=h.eq
 rw [Z40] at this
 simp only [Nat.add_sub_cancel]
 omega
theorem Qs1 {q r:Nat} (h:Qcr y1 y0 u u0 q r) (hc:(u*4294967296+u0)/(y1*4294967296+y0)<q) (hr:4294967296<=r+y1):q-1=(u*4294967296+u0)/(y1*4294967296+y0):=by
 obtain ⟨n1,n2⟩:=Qif h1 h1' h0 hu hu0 h hc
 refine Qim h1 h1' h0 hu hu0 n1 n2 ?_
 have hq:=h.le
 have:(q-1)*y0<=4294967296*4294967295:=Nat.mul_le_mul (by omega) (by omega)
 omega
theorem Qmz {F:(Int×Int->Option (Int×Int))->Int×Int->Option (Int×Int)} (mk:Int->Int->Int×Int)
  (hF:∀(q r:Nat),q<=4294967297->r<4294967296->∀rec,F rec (mk q r) =
   if 4294967296<=q\/r*4294967296+u0<q*y0 then (if 4294967296<=r+y1 then some (mk ((q-1:Nat):Int) ((r+y1:Nat):Int)) else rec (mk ((q-1:Nat):Int) ((r+y1:Nat):Int))) else some (mk q r)) :
  ∃r:Nat,lfp F (mk ((u/y1:Nat):Int) ((u%y1:Nat):Int))=some (mk (((u*4294967296+u0)/(y1*4294967296+y0):Nat):Int) r):=by
 have key:∀(f q r:Nat),q<f->Qcr y1 y0 u u0 q r->∃r':Nat,Runs F (mk q r) (mk (((u*4294967296+u0)/(y1*4294967296+y0):Nat):Int) r'):=by
  intro f
  induction f with
  |zero=>intro q r h;omega
  |
   succ f ih=>
   intro q r hq h
   by_cases hc:4294967296<=q\/r*4294967296+u0<q*y0
   ·have hlt:=Qww h1 h1' h0 hu hu0 h hc
    by_cases hr:4294967296<=r+y1
    ·refine ⟨r+y1,.done λrec=>?_⟩
     rw [hF q r h.le h.lt,if_pos hc,if_pos hr,Qs1 h1 h1' h0 hu hu0 h hlt hr]
    ·obtain ⟨n1,n2⟩:=Qif h1 h1' h0 hu hu0 h hlt
     have hle:=h.le
     have hq1:0<q:=Nat.lt_of_le_of_lt (Z65 _) hlt
     obtain ⟨r',hr'⟩:=ih (q-1) (r+y1) (by omega) ⟨n1,n2,by omega,by omega⟩
     exact ⟨r',.step (λrec=>by rw [hF q r h.le h.lt,if_pos hc,if_neg hr]) hr'⟩
   ·refine ⟨r,.done λrec=>?_⟩
    rw [hF q r h.le h.lt,if_neg hc,<-Qim h1 h1' h0 hu hu0 h.eq h.ge (by omega)]
 obtain ⟨r',hr'⟩:=key (u/y1+1) _ _ (by omega) (Qr7 h1 h1' h0 hu hu0)
 exact ⟨r',hr'.lfp⟩
theorem Qnr {q r:Nat} (hq:q<=4294967297) (hr:r<4294967296) (h:¬4294967296<=q):(wr .u64 ((q:Int)*y0)>wr .u64 (wr .u64 ((4294967296:Int)*r)+u0))↔r*4294967296+u0<q*y0:=by
 have hm:q*y0<=4294967295*4294967295:=Nat.mul_le_mul (by omega) (by omega)
 rw [<-Z26 q y0,Qq (n:=((q*y0:Nat):Int)) (by omega) (by omega),Qq (n:=(4294967296:Int)*r) (by omega) (by omega),Qq (by omega) (by omega)]
 omega
theorem Qr0:∃r:Nat,z19.l0 y1 y0 u0 (((u/y1:Nat):Int),((u%y1:Nat):Int))=some ((((u*4294967296+u0)/(y1*4294967296+y0):Nat):Int),(r:Int)):=by
 refine Qmz h1 h1' h0 hu hu0 (λq r=>(q,r)) (F:=λrec x=>z19.l0P y1 y0 u0 rec some x) λq r hq hr rec=>?_
 simp only [z19.l0P]
 rw [Qq (n:=(r:Int)+y1) (by omega) (by omega)]
 by_cases hq2:4294967296<=q
 ·rw [bif_t (by omega),if_pos (.inl hq2),Qq (n:=(q:Int)-1) (by omega) (by omega)]
  by_cases hr2:4294967296<=r+y1
  ·rw [bif_t (by omega),if_pos hr2];congr 2<;>omega
  ·rw [Qc (by omega),if_neg hr2];congr 2<;>omega
 ·rw [Qc (by omega)]
  have ht:=Qnr h1 h1' h0 hu hu0 hq hr hq2
  by_cases hc:r*4294967296+u0<q*y0
  ·have hq0:0<q:=Nat.pos_of_ne_zero λh=>by subst h;omega
   rw [bif_t (ht.2 hc),if_pos (.inr hc),Qq (n:=(q:Int)-1) (by omega) (by omega)]
   by_cases hr2:4294967296<=r+y1
   ·rw [bif_t (by omega),if_pos hr2];congr 2<;>omega
   ·rw [Qc (by omega),if_neg hr2];congr 2<;>omega
  ·rw [Qc (λh=>hc (ht.1 h)),if_neg (by omega)]
theorem Qrq:∃r:Nat,z19.l2 y1 y0 u0 (((u%y1:Nat):Int),((u/y1:Nat):Int))=some ((r:Int),(((u*4294967296+u0)/(y1*4294967296+y0):Nat):Int)):=by
 refine Qmz h1 h1' h0 hu hu0 (λq r=>(r,q)) (F:=λrec x=>z19.l2P y1 y0 u0 rec some x) λq r hq hr rec=>?_
 simp only [z19.l2P]
 rw [Qq (n:=(r:Int)+y1) (by omega) (by omega)]
 by_cases hq2:4294967296<=q
 ·rw [bif_t (by omega),if_pos (.inl hq2),Qq (n:=(q:Int)-1) (by omega) (by omega)]
  by_cases hr2:4294967296<=r+y1
  ·rw [bif_t (by omega),if_pos hr2];congr 2<;>omega
  ·rw [Qc (by omega),if_neg hr2];congr 2<;>omega
 ·rw [Qc (by omega)]
  have ht:=Qnr h1 h1' h0 hu hu0 hq hr hq2
  by_cases hc:r*4294967296+u0<q*y0
  ·have hq0:0<q:=Nat.pos_of_ne_zero λh=>by subst h;omega
   rw [bif_t (ht.2 hc),if_pos (.inr hc),Qq (n:=(q:Int)-1) (by omega) (by omega)]
   by_cases hr2:4294967296<=r+y1
   ·rw [bif_t (by omega),if_pos hr2];congr 2<;>omega
   ·rw [Qc (by omega),if_neg hr2];congr 2<;>omega
  ·rw [Qc (λh=>hc (ht.1 h)),if_neg (by omega)]
end
end Go.Proofs.YtjfipepaaddlmaaGreatDoor.A
end
section
namespace Go.Proofs.YtjfipepaaddlmaaGreatDoor.A
open Go
theorem Qdp {n:Nat} (h:n<18446744073709551616):(BitVec.ofInt (IntKind.bits .u64) (n:Int)).toNat=n:=by
 show (BitVec.ofInt 64 (n:Int)).toNat=n
 rw [BitVec.toNat_ofInt]
 omega
theorem Qjd {n:Nat} (h:n<18446744073709551616):wr .u64 ((BitVec.ofInt (IntKind.bits .u64) (n:Int) &&& BitVec.ofInt (IntKind.bits .u64) (4294967295:Int)).toNat:Int)=((n%4294967296:Nat):Int):=by
 rw [BitVec.toNat_and,Qdp h,show (4294967295:Int)=((4294967295:Nat):Int) from rfl,Qdp (by omega),show 4294967295=2^32-1 from rfl,Nat.and_two_pow_sub_one_eq_mod,Qq (by omega) (by omega)]
theorem Qu9 {a b s:Nat} (hb:b<2^s) (h:a*2^s+b<18446744073709551616):wr .u64 ((BitVec.ofInt (IntKind.bits .u64) ((a*2^s:Nat):Int) ||| BitVec.ofInt (IntKind.bits .u64) (b:Int)).toNat:Int)=((a*2^s+b:Nat):Int):=by
 rw [BitVec.toNat_or,Qdp (by omega),Qdp (by omega),Z33,<-Nat.two_pow_add_eq_or_of_lt hb,Qq (by omega) (by rw [Z33] at h;omega)]
theorem Qv2 {B V Y U u1 u0:Nat} (hV:V=(U*B+u1)*B+u0) (hY:0<Y) (h0:u0<B) :
  V/Y=(U*B+u1)/Y*B+((U*B+u1)%Y*B+u0)/Y/\V%Y=((U*B+u1)%Y*B+u0)%Y:=by
 have h1:=Z58 (U*B+u1) Y
 generalize hA:U*B+u1=A at *
 generalize A/Y=q at *
 generalize A%Y=r at *
 have e:V=(r*B+u0)+Y*(q*B):=by
  rw [hV,<-h1,Z40,Z83];omega
 rw [e,Nat.add_mul_div_left _ _ hY,Z77]
 exact ⟨by omega,rfl⟩
theorem Qt6 {B V Y U u1 u0:Nat} (hV:V=(U*B+u1)*B+u0) (hY:0<Y) (h0:u0<B) (hU:U<Y) (h1:u1<B) :
  ∃q1 U2 q0 U3,(U*B+u1)/Y=q1/\(U2*B+u0)/Y=q0/\Y*q1+U2=U*B+u1/\U2<Y/\Y*q0+U3=U2*B+u0/\U3<Y/\q1<B/\q0<B/\V/Y=q1*B+q0/\V%Y=U3:=by
 obtain ⟨a,b⟩:=Qv2 hV hY h0
 have l:∀{u v:Nat},u<Y->v<B->(u*B+v)/Y<B:=λ{u v} hu hv=>by
  rw [Z81 hY]
  have:=Z19 B (show u+1<=Y from hu)
  rw [Z40,Z94] at this
  rw [Z33 B Y];omega
 have hr:=Z88 (U*B+u1) hY
 exact ⟨_,_,_,_,rfl,rfl,Z58 _ _,hr,Z58 _ _,Z88 _ hY,l hU h1,l hr h0,a,b⟩
theorem Qti {hi lo s:Nat} (hs:s<=64):(hi*18446744073709551616+lo)*2^s=(hi*2^s+lo/2^(64-s))*18446744073709551616+lo*2^s%18446744073709551616:=by
 have e:18446744073709551616=2^(64-s)*2^s:=by rw [<-Z91,show 64-s+s=64 by omega]
 have h:lo/2^(64-s)=lo*2^s/18446744073709551616:=by
  rw [e,Nat.mul_div_mul_right _ _ (Nat.two_pow_pos s)]
 rw [h,Z40,Z40,Nat.mul_right_comm,Z43]
 have:=Z58 (lo*2^s) 18446744073709551616
 omega
theorem bits_Div64 {hi lo y:Nat} (h:hi<y) (hlo:lo<18446744073709551616) (hy:y<18446744073709551616) :
  z19.F hi lo y=some ((((hi*18446744073709551616+lo)/y:Nat):Int),(((hi*18446744073709551616+lo)%y:Nat):Int)):=by
 rcases Z15 hi with h0|h0
 ·subst h0
  have:=Qmc (a:=(lo:Int)) (b:=(y:Int)) (by omega) (by omega)
  rw [show ((0:Nat):Int)=0 from rfl,this,Nat.zero_mul,Z29]
  rfl
 obtain ⟨s,hs,s1,s2,hlead⟩:=Quj (x:=y) (by omega) hy
 unfold z19.F
 rw [Qc (by omega),Qc (by omega),Qc (by omega),hlead]
 simp only [Zb]
 have hp:=Nat.two_pow_pos s
 have hV:=Qti (hi:=hi) (lo:=lo) (s:=s) (by omega)
 have hlt:(hi*18446744073709551616+lo)*2^s<y*2^s*18446744073709551616:=by
  rw [Nat.mul_right_comm];exact Nat.mul_lt_mul_of_pos_right (by omega) hp
 have hb:lo/2^(64-s)<2^s:=by
  rw [Z81 (Nat.two_pow_pos _),<-Z91,show s+(64-s)=64 by omega];exact hlo
 have hqy:=Nat.mul_div_mul_right (hi*18446744073709551616+lo) y hp
 have hmy:=Nat.mul_mod_mul_right (2^s) (hi*18446744073709551616+lo) y
 have e1:wr .u64 (s:Int)=s:=Qq (by omega) (by omega)
 have e4:wr .u64 ((64:Int)-s)=((64-s:Nat):Int):=by rw [Qq (by omega) (by omega)];omega
 have e5:min (64-s) 64=64-s:=by omega
 have e3:min s 64=s:=by omega
 have eY:wr .u64 ((y:Int)*2^s)=((y*2^s:Nat):Int):=by
  rw [show (y:Int)*2^s=((y*2^s:Nat):Int) by push_cast;rfl,Qq (by omega) (by omega)]
 have eL:wr .u64 ((lo:Int)*2^s)=((lo*2^s%18446744073709551616:Nat):Int):=by
  rw [show (lo:Int)*2^s=((lo*2^s:Nat):Int) by push_cast;rfl,Yc];rfl
 have hUY:hi*2^s+lo/2^(64-s)<y*2^s:=by
  have:(hi*2^s+lo/2^(64-s))*18446744073709551616<y*2^s*18446744073709551616:=by omega
  exact Nat.lt_of_mul_lt_mul_right this
 have hHi:=Nat.lt_of_le_of_lt (Nat.le_add_right (hi*2^s) (lo/2^(64-s))) (Nat.lt_trans hUY s2)
 have eH:wr .u64 ((hi:Int)*2^s)=((hi*2^s:Nat):Int):=by
  rw [show (hi:Int)*2^s=((hi*2^s:Nat):Int) by push_cast;rfl,Qq (by omega) (by omega)]
 have eO:=Qu9 (a:=hi) (s:=s) hb (by omega)
 simp only [e1,e4,Zi,e3,e5,eY,eL,eH,Qar,eO,show min 32 64=32 from rfl]
 generalize hU:hi*2^s+lo/2^(64-s)=U at *
 generalize hYe:y*2^s=Y at *
 generalize hLe:lo*2^s%18446744073709551616=L at *
 have hL:L<18446744073709551616:=by rw [<-hLe];exact Z88 _ (by omega)
 have aY:=Qjd s2;have aL:=Qjd hL
 simp only [aY,aL,show (2:Nat)^32=4294967296 from rfl]
 rw [if_pos (by omega),if_pos (by omega),if_pos (by omega),if_pos (by omega)]
 generalize hy1:Y/4294967296=y1 at *
 generalize hy0:Y%4294967296=y0 at *
 generalize hu1:L/4294967296=u1 at *
 generalize hu0:L%4294967296=u0 at *
 have hYd:Y=y1*4294967296+y0:=by omega
 have hLd:L=u1*4294967296+u0:=by omega
 have b1:2147483648<=y1/\y1<4294967296:=by omega
 have b0:y0<4294967296:=by omega
 have b2:u1<4294967296:=by omega
 have b3:u0<4294967296:=by omega
 rw [if_neg (by omega)]
 have hYp:0<Y:=by omega
 obtain ⟨q1,U2,q0,U3,dq1,dq0,m1,m2,m3,m4,hq1,hq0,V1,V2⟩:=Qt6 (B:=4294967296) (V:=U*18446744073709551616+L) (Y:=Y) (U:=U) (u1:=u1) (u0:=u0) (by omega) hYp b3 hUY b2
 have first:∀{u:Nat},u<18446744073709551616->wr .u64 (Int.tdiv (u:Int) (y1:Int))=((u/y1:Nat):Int)/\wr .u64 ((u:Int)-wr .u64 (wr .u64 (Int.tdiv (u:Int) (y1:Int))*(y1:Int)))=((u%y1:Nat):Int):=λ{u} hu=>by
  have h1:=Nat.div_le_self u y1
  have h2:=Z58 u y1
  have h3:Int.tdiv (u:Int) (y1:Int)=((u/y1:Nat):Int):=by rw [J5 (by omega)];rfl
  rw [h3]
  generalize u/y1=q at *
  generalize u%y1=r at *
  rw [Qq (n:=(q:Int)) (by omega) (by omega)]
  refine ⟨rfl,?_⟩
  rw [Z33] at h2
  rw [show (q:Int)*(y1:Int)=((q*y1:Nat):Int) from rfl]
  generalize q*y1=P at *
  rw [Qq (n:=(P:Int)) (by omega) (by omega),Qq (by omega) (by omega)]
  omega
 obtain ⟨f1,f2⟩:=first (u:=U) (by omega)
 simp only [f2]
 rw [f1]
 obtain ⟨r1,d1⟩:=Qr0 (y1:=y1) (y0:=y0) (u:=U) (u0:=u1) b1.1 b1.2 b0 (by omega) b2
 rw [d1,<-hYd,dq1]
 simp only [Zb]
 rw [if_neg (by omega)]
 have eU2:wr .u64 (wr .u64 (wr .u64 ((U:Int)*4294967296)+(u1:Int))-wr .u64 ((q1:Int)*(Y:Int)))=(U2:Int):=by
  rw [show (q1:Int)*(Y:Int)=((Y*q1:Nat):Int) by push_cast;exact Int.mul_comm _ _,Yc,Yc,Yc,Yc]
  generalize Y*q1=P at m1 ⊢
  clear d1 V1 V2 m3 m4 dq1 dq0 hV hlt hqy hmy
  omega
 simp only [eU2]
 obtain ⟨g1,g2⟩:=first (u:=U2) (by omega)
 simp only [g2]
 rw [g1]
 obtain ⟨r2,d2⟩:=Qrq (y1:=y1) (y0:=y0) (u:=U2) (u0:=u0) b1.1 b1.2 b0 (by omega) b3
 rw [d2,<-hYd,dq0]
 simp only [Zb]
 rw [if_pos (by omega)]
 have eU3:wr .u64 (wr .u64 (wr .u64 ((U2:Int)*4294967296)+(u0:Int))-wr .u64 ((q0:Int)*(Y:Int)))=(U3:Int):=by
  rw [show (q0:Int)*(Y:Int)=((Y*q0:Nat):Int) by push_cast;exact Int.mul_comm _ _,Yc,Yc,Yc,Yc]
  generalize Y*q0=P at m3 ⊢
  clear d1 d2 V1 V2 m1 dq1 dq0 hV hlt hqy hmy
  omega
 rw [eU3,Qar,Qq (n:=(q1:Int)*4294967296) (by omega) (by omega),Qq (by omega) (by omega)]
 rw [hV,V1] at hqy
 rw [hV,V2] at hmy
 rw [<-hqy,hmy,Nat.mul_div_cancel _ hp]
 rfl
theorem Qkx {a:J0} {b N:Nat} (ha:inB LB a) (hb:0<b) (hb':b<18446744073709551616) (hl:a.length<=800000000) (hN:(N:Int)=valB LB a) :
  ∀
   (k:Nat),k<=a.length->∀(m:Nat) (q:J0),(m:Int)=valB LB (a.drop k)->q.length=a.length->inB LB q->valB LB (q.drop k)=((m/b:Nat):Int) ->
   ∃q',Runs (λrec x=>z20.l0P a b rec some x) (((m%b:Nat):Int),(k:Int)-1,q) (((N%b:Nat):Int),(-1:Int),q')/\q'.length=a.length/\inB LB q'/\valB LB q'=((N/b:Nat):Int)
 |
  0,hk,m,q,hm,hq,hi,hv=>by
  have:m=N:=by rw [Z45] at hm;omega
  subst this
  refine ⟨q,.done λrec=>?_,hq,hi,by rwa [Z45] at hv⟩
  unfold z20.l0P
  simp only
  rw [Qc (by omega)];rfl
 |
  k+1,hk,m,q,hm,hq,hi,hv=>by
  have hka:k<a.length:=by omega
  have hkq:k<q.length:=by omega
  have hd:=Q6 (B:=LB) (by decide) ha k
  obtain ⟨d,hd'⟩:∃d:Nat,a.getD k 0=(d:Int):=⟨(a.getD k 0).toNat,by omega⟩
  have hd2:d<18446744073709551616:=by rw [hd'] at hd;exact_mod_cast hd.2
  obtain ⟨r,hr⟩:∃r,m%b=r:=⟨_,rfl⟩
  have hrb:r<b:=hr▸Z88 m hb
  obtain ⟨x,hx⟩:∃x,r*18446744073709551616+d=x:=⟨_,rfl⟩
  have hxb:x<b*18446744073709551616:=by omega
  obtain ⟨z,hz⟩:∃z,x/b=z:=⟨_,rfl⟩
  obtain ⟨w,hw⟩:∃w,x%b=w:=⟨_,rfl⟩
  obtain ⟨y,hy⟩:∃y,m/b=y:=⟨_,rfl⟩
  have hq1:z<18446744073709551616:=hz▸Nat.div_lt_of_lt_mul hxb
  have hmm:b*y+r=m:=by rw [<-hy,<-hr];exact Z58 m b
  have hm':((d+LB*m:Nat):Int)=valB LB (a.drop k):=by rw [Yl,hd',<-hm,Int.natCast_add,Z26]
  have e:d+LB*m=x+b*(LB*y):=by
   have h4:b*(LB*y)=LB*(b*y):=by rw [<-Z83,Z33 b LB,Z83]
   have h5:LB*m=LB*(b*y)+LB*r:=by rw [<-hmm,Nat.mul_add]
   rw [h4,h5,<-hx,Z33 r];show _=18446744073709551616*r+d+LB*(b*y)
   have:LB*r=18446744073709551616*r:=rfl
   omega
  have hdiv:(d+LB*m)/b=z+LB*y:=by rw [e,Nat.add_mul_div_left _ _ hb,hz]
  have hmod:(d+LB*m)%b=w:=by rw [e,Z77,hw]
  have hvq:valB LB ((q.set k (z:Int)).drop k)=(((d+LB*m)/b:Nat):Int):=by
   rw [Yl,Qgv,hv,hdiv,hy]
   have:(q.set k (z:Int)).getD k 0=(z:Int):=by simp [List.getD,hkq]
   rw [this,Int.natCast_add,Z26]
  obtain ⟨q',r1,r2,r3,r4⟩:=Qkx ha hb hb' hl hN k (by omega) (d+LB*m) (q.set k (z:Int)) hm' (by simp [hq]) (J6 hi (by show (0:Int)<=(z:Int)/\(z:Int)<((18446744073709551616:Nat):Int);omega)) hvq
  rw [hmod] at r1
  refine ⟨q',.step (λrec=>?_) r1,r2,r3,r4⟩
  have ek:((k+1:Nat):Int)-1=(k:Int):=by omega
  unfold z20.l0P
  simp only
  rw [ek,bif_t (by omega),if_pos (by omega),Zi,hd',hr,bits_Div64 hrb hd2 hb',hx,hz,hw]
  simp only [Zb]
  rw [if_pos (by omega),if_pos hkq,Qg (by omega) (by omega)]
theorem quot_by {a b:Nat} (hb:0<b) (hb':b<18446744073709551616) (ha:(lb a).length<=800000000):∃q,z20.F (lb a) (b:Int)=some (q,((a%b:Nat):Int))/\q.length=(lb a).length/\inB LB q/\valB LB q=((a/b:Nat):Int):=by
 obtain ⟨q',r1,r2,r3,r4⟩:=Qkx (a:=lb a) (b:=b) (N:=a) (Q1 bL a) hb hb' ha (by rw [Q4 bL]) (lb a).length (Z5 _) 0 (List.replicate (lb a).length 0) (by rw [List.drop_length];rfl) (by simp) (Qbj (by decide) _) (by rw [Z27 (by simp)];simp [valB])
 rw [Nat.zero_mod] at r1
 have e:z20.l0 (lb a) (b:Int) ((0:Int),((lb a).length:Int)-1,List.replicate (lb a).length 0)=some (((a%b:Nat):Int),(-1:Int),q'):=r1.lfp
 refine ⟨q',?_,r2,r3,r4⟩
 unfold z20.F
 rw [if_pos (by omega),Zi,Qg (by omega) (by omega),e]
 rfl
theorem Qtm {a b:Nat} (hb:0<b) (hb':b<18446744073709551616) (ha:(lb a).length<=800000000):Y8 a b:=by
 rcases Z53 a b with h|h
 ·exact Qjy h (by omega)
 ·have hl:(lb b).length<=1:=Ji bL (by simpa using hb')
  obtain ⟨q,q1,q2,q3,q4⟩:=quot_by hb hb' ha
  unfold Y8 z25.F
  rw [Wx]
  simp only [Zb]
  rw [Qc (by omega),Qeh (by omega)]
  simp only [Zb]
  have:¬cmpI (a:Int) b<0:=by unfold cmpI;rw [if_neg (by omega)];split<;>omega
  rw [Qc this,Qc0 (by show List.length _<=_;omega),Qc0 (by show List.length _<=_;omega)]
  simp only [Zb]
  rw [Qde hb hb',Z16,bif_t (by omega),if_pos (by omega),show [(b:Int)].getD 0 0=b from rfl,q1]
  simp only [Zb]
  rw [Qjp q3 (by show List.length _<=_;omega),q4]
  simp only [Zb]
  have hm:=Z88 a hb
  rw [Yb (by omega)]
  rfl
inductive Rem (len:Nat):Nat->Nat->List Int->Prop
 |stop (j:Nat) (h:len<=j):Rem len 0 j []
 |step (n j:Nat) (ds:List Int) (h:0<n\/j<len) (hr:Rem len (n/10) (j+1) ds):Rem len n j (((n%10:Nat):Int)::ds)
def asc (d:Int):Int:=48+d
theorem Qsb {s:J0} {i:Nat} {x:Int} (h:i<s.length):(s.set i x).drop i=x::s.drop (i+1):=by
 rw [Z17 (by simpa using h),Qgv]
 simp
theorem Qq7 {len:Nat} (hlen:len<=20) {n j:Nat} {ds:J0} (h:Rem len n j ds):n<18446744073709551616->j+ds.length<=20->∀s:J0,s.length=20 ->
  ∃s',Runs (λrec x=>z26.l0P (len:Int) rec some x) ((n:Int),((20-j:Nat):Int),s) ((0:Int),((20-j-ds.length:Nat):Int),s')/\s'.length=20/\s'.drop (20-j-ds.length)=ds.reverse.map asc++s.drop (20-j):=by
 induction h with
 |
  stop j h=>
  intro _ hj s hs
  simp only [Z31,Z79] at hj
  refine ⟨s,.done λrec=>?_,hs,by simp⟩
  unfold z26.l0P
  simp only [Z31,Nat.sub_zero]
  rw [Qc (by omega),Qg (by omega) (by omega),Qc (by omega)]
  rfl
 |
  step n j ds h hr ih=>
  intro hn hj s hs
  simp only [Z8] at hj
  have hi:20-(j+1)<s.length:=by omega
  obtain ⟨s',r1,r2,r3⟩:=ih (by omega) (by omega) (s.set (20-(j+1)) (asc ((n%10:Nat):Int))) (by simpa using hs)
  refine ⟨s',?_,r2,?_⟩
  ·rw [Z8,show 20-j-(ds.length+1)=20-(j+1)-ds.length by omega]
   refine .step (λrec=>?_) r1
   have e1:wr .i64 (((20-j:Nat):Int)-1)=((20-(j+1):Nat):Int):=by rw [Qg (by omega) (by omega)];omega
   have e2:wr .u64 (Int.tdiv (n:Int) 10)=((n/10:Nat):Int):=by rw [J5 (by omega),Qq (by omega) (by omega)];rfl
   have e3:wr .u8 (wr .u64 (48+Int.tmod (n:Int) 10))=asc ((n%10:Nat):Int):=by
    rw [Qae (by omega),Qq (by omega) (by omega),Qaj (by omega) (by omega)];rfl
   unfold z26.l0P
   simp only [e1,e2,e3]
   rcases Z15 n with h0|h0
   ·have hjl:j<len:=h.resolve_left (by omega)
    rw [Qc (by omega),Qg (by omega) (by omega),bif_t (by omega),if_pos (by omega),Zi,if_pos hi]
   ·rw [bif_t (by omega),if_pos (by omega),Zi,if_pos hi]
  ·rw [Z8,show 20-j-(ds.length+1)=20-(j+1)-ds.length by omega,r3,Qsb hi,show 20-(j+1)+1=20-j by omega]
   simp
theorem Qot {ds:J0} (h:inB 10 ds):(ds.map asc).map (λn=>UInt8.ofNat n.toNat)=ds.map ch:=by
 rw [List.map_map]
 refine Z75 λd hd=>?_
 have:=h d hd
 show UInt8.ofNat (48+d).toNat=UInt8.ofNat (48+d.toNat)
 rw [show (48+d).toNat=48+d.toNat by omega]
theorem Rem.inB {len n j:Nat} {ds:J0} (h:Rem len n j ds):inB 10 ds:=by
 induction h with
 |stop=>exact Y6 _
 |step n j ds h hr ih=>exact Yo.2 ⟨by omega,ih⟩
theorem Qp5 {B:Nat} {l:J0} (h:inB B l):inB B l.reverse:=λx hx=>h x (by simpa using hx)
theorem Quy {len n:Nat} {ds:J0} (hlen:len<=20) (hn:n<18446744073709551616) (h:Rem len n 0 ds) (hd:ds.length<=20):z26.F (n:Int) (len:Int)=some (ds.reverse.map ch):=by
 obtain ⟨s',r1,r2,r3⟩:=Qq7 hlen h hn (by omega) (List.replicate 20 0) (by simp)
 have e:z26.l0 (len:Int) ((n:Int),(20:Int),List.replicate 20 (0:Int))=some ((0:Int),((20-0-ds.length:Nat):Int),s'):=r1.lfp
 unfold z26.F
 rw [e]
 simp only [Zb]
 have hl:(s'.drop (20-0-ds.length)).length=ds.length:=by rw [Z22];omega
 rw [if_pos r2,if_pos (by omega),Zi,Z28 (by rw [hl];omega),r3]
 simp only [Nat.sub_zero,List.drop_replicate,Nat.sub_self,List.replicate_zero,Z42]
 rw [Qot (Qp5 h.inB)]
def lsd:Nat->Nat->J0
 |0,_=>[]
 |k+1,n=>((n%10:Nat):Int)::lsd k (n/10)
theorem Qd2:∀(k n:Nat),(lsd k n).length=k
 |0,_=>rfl
 |k+1,n=>by simp [lsd,Qd2 k]
theorem Qms {len:Nat}:∀(k n j:Nat),j+k=len->n<10^k->Rem len n j (lsd k n)
 |
  0,n,j,hj,hn=>by
  have:n=0:=by simpa using hn
  subst this;exact .stop j (by omega)
 |k+1,n,j,hj,hn=>.step n j _ (.inr (by omega)) (Qms k (n/10) (j+1) (by omega) (by rw [Z38] at hn;omega))
theorem Quw {len:Nat} (n:Nat):∀j,(len<=j\/0<n/\len<=j+1)->Rem len n j (toB 10 n):=by
 induction n using Nat.strongRecOn with
 |
  _ n ih=>
  intro j hj
  rcases Z15 n with h0|h0
  ·subst h0;rw [toB_zero];exact .stop j (by omega)
  ·rw [Wv b10 h0]
   exact .step n j _ (.inl h0) (ih _ (Z93 h0 (by decide)) (j+1) (.inl (by omega)))
theorem Qf8:∀(k low q:Nat),0<q->low<10^k->toB 10 (low+10^k*q)=lsd k low++toB 10 q
 |
  0,low,q,hq,hl=>by
  have:low=0:=by simpa using hl
  subst this;simp [lsd]
 |
  k+1,low,q,hq,hl=>by
  have hp:0<10^k:=Z97 (by decide)
  have hpq:0<10^k*q:=Nat.mul_pos hp hq
  have e:low+10^(k+1)*q=low+10*(10^k*q):=by rw [Z38,Z33 (10^k),Z83]
  rw [e,Wv b10 (by omega),lsd]
  rw [Z77,Nat.add_mul_div_left _ _ (by decide),Qf8 k (low/10) q hq (by rw [Z38] at hl;omega)]
  rfl
inductive Groups:Nat->List (List UInt8)->Prop
 |zero:Groups 0 []
 |last (n:Nat) (h0:0<n) (h:n<10^18):Groups n [(toB 10 n).reverse.map ch]
 |more (low q:Nat) (gs:List (List UInt8)) (hl:low<10^18) (h0:0<q) (hg:Groups q gs):Groups (low+10^18*q) (((lsd 18 low).reverse.map ch)::gs)
theorem Groups.text {n:Nat} {gs:List J1} (h:Groups n gs):gs.reverse.flatten=(toB 10 n).reverse.map ch:=by
 induction h with
 |zero=>rw [toB_zero];rfl
 |last n h0 h=>simp
 |
  more low q gs hl h0 hg ih=>
  rw [List.reverse_cons,List.flatten_append,ih,Qf8 18 low q h0 hl,List.reverse_append,Z87]
  simp
theorem Groups.pos {n:Nat} {gs:List J1} (h:Groups n gs):∀g∈gs,1<=g.length:=by
 induction h with
 |zero=>intro g hg;simp at hg
 |
  last n h0 h=>
  intro g hg
  simp only [List.mem_singleton] at hg;subst hg
  rw [Wv b10 h0];simp
 |
  more low q gs hl h0 hg ih=>
  intro g hg
  rcases Z62.1 hg with rfl|hg
  ·simp [Qd2]
  ·exact ih g hg
theorem Qmq:∀{gs:List J1},(∀g∈gs,1<=g.length)->gs.length<=gs.flatten.length
 |[],_=>by simp
 |
  g::gs,h=>by
  have:=h g (by simp)
  have:=Qmq λg' h'=>h g' (List.mem_cons_of_mem _ h')
  simp only [Z8,Z68,Z3];omega
theorem Groups.len {n:Nat} {gs:List J1} (h:Groups n gs):gs.length<=sz n/\gs.flatten.length=sz n:=by
 have ht:=congrArg List.length h.text
 have e:gs.reverse.flatten.length=gs.flatten.length:=by
  simp only [List.length_flatten,List.map_reverse,List.sum_reverse]
 rw [e] at ht
 have ht:gs.flatten.length=sz n:=by rw [ht];unfold sz;simp
 exact ⟨by rw [<-ht];exact Qmq h.pos,ht⟩
theorem Qp1 (l:J0) (hl:l.length<=1):z27.l2 l (((l.length:Nat):Int)) ((0:Int),(0:Int))=some (l.getD 0 0,(l.length:Int)):=by
 match l,hl with
 |
  [],_=>
  refine (Runs.done λrec=>?_:Runs (λrec x=>z27.l2P [] _ rec some x) _ _).lfp
  unfold z27.l2P
  simp only [Z31]
  rw [Qc (by omega)];rfl
 |
  [x],_=>
  refine (Runs.step (y:=(x,(1:Int))) (λrec=>?_) (Runs.done λrec=>?_):Runs (λrec x'=>z27.l2P [x] _ rec some x') _ _).lfp
  ·unfold z27.l2P
   simp only [Z16]
   rw [bif_t (by omega),if_pos (by omega),Qg (by omega) (by omega)];rfl
  ·unfold z27.l2P
   simp only [Z16]
   rw [Qc (by omega)];rfl
theorem Qpk {n:Nat} (h:n<18446744073709551616):(lb n).getD 0 0=(n:Int)/\(lb n).length<=1:=by
 rcases Z15 n with rfl|h0
 ·rw [lb_zero];simp
 ·rw [Qde h0 h];simp
theorem Qna {low:Nat} {len:Nat} {ds:J0} (hlen:len<=20) (hl:low<18446744073709551616) (hr:Rem len low 0 ds) (hd:ds.length<=20) {gs:List J1} (hg:gs.length<=800000000) {rec done:(J0×List J1)->Option (J0×List J1)} {y:Int} {r:J0×J0×Int} :
  z27.j1010a rec done ((low:Int),y) (len:Int) gs r=rec (r.1,gs++[ds.reverse.map ch]):=by
 unfold z27.j1010a
 rw [Quy hlen hl hr hd]
 simp only [Zb,Z16]
 rw [if_pos (by omega)]
theorem Qpq:∀(n:Nat),sz n<=100000000->∀gs:List J1,gs.length+sz n<=700000000->∃l,Groups n l/\Runs (λrec x=>z27.l0P rec some x) (lb n,gs) ([],gs++l):=by
 intro n
 induction n using Nat.strongRecOn with
 |
  _ n ih=>
  intro hs gs hg
  obtain ⟨U,hU⟩:∃U,U=1000000000000000000:=⟨_,rfl⟩
  have hU10:10^18=U:=by rw [hU]
  rcases Z15 n with h0|h0
  ·subst h0
   refine ⟨[],.zero,.done λrec=>?_⟩
   unfold z27.l0P
   simp only [Wx,Zb]
   rw [lb_zero,Z42];rfl
  ·have hUp:0<U:=by omega
   have hdm:=Z58 n U
   have hml:=Z88 n hUp
   have hdl:n/U<=n:=Nat.div_le_self _ _
   have hD:Y8 n U:=Qtm hUp (by omega) (by have:=Q7 n;omega)
   have hqlt:n/U<n:=Z93 h0 (by omega)
   obtain ⟨q,hq⟩:∃q,n/U=q:=⟨_,rfl⟩
   obtain ⟨low,hlow⟩:∃low,n%U=low:=⟨_,rfl⟩
   unfold Y8 at hD
   rw [hq] at hdm hdl hD hqlt;rw [hlow] at hdm hml hD
   have hsq:sz q<=sz n:=Jz hdl
   obtain ⟨g1,g2⟩:=Qpk (n:=low) (by omega)
   have hof:z15.F [(1000000000000000000:Int)]=some (lb U):=by rw [Yb (by omega),hU];rfl
   have hl2:=Qp1 (lb low) g2
   rw [g1] at hl2
   have body:∀{rec done:(J0×List J1)->Option (J0×List J1)},z27.l0P rec done (lb n,gs) =
     (bif decide (q=0) then z27.j1010a rec done ((low:Int),((lb low).length:Int)) 1 gs (lb q,lb low,0) else z27.j1010a rec done ((low:Int),((lb low).length:Int)) 18 gs (lb q,lb low,0)):=λ{rec done}=>by
    unfold z27.l0P
    simp only [Wx,Zb]
    rw [Zf (by omega),Zo,Zd,hof]
    simp only [Zb]
    rw [hD]
    simp only [Zb]
    rw [Qc0 (by show List.length _<=_;omega)]
    simp only [Zb]
    rw [hl2]
    simp only [Zb,Wx]
   rcases Z15 q with hq0|hq0
   ·subst hq0
    have hn:n=low:=by omega
    subst hn
    have hsz:sz n<=18:=Qx (by rw [hU10];exact hml)
    refine ⟨[(toB 10 n).reverse.map ch],.last n h0 (by rw [hU10];exact hml),.step (y:=([],gs++[(toB 10 n).reverse.map ch])) (λrec=>?_) (.done λrec=>?_)⟩
    ·rw [body,bif_t rfl]
     refine (Qna (len:=1) (by omega) (by omega) (Quw n 0 (.inr ⟨h0,by omega⟩)) (by show sz n<=20;omega) (by omega)).trans ?_
     rw [lb_zero]
    ·unfold z27.l0P
     rw [<-lb_zero]
     simp only [Wx,Zb]
     rw [lb_zero];rfl
   ·obtain ⟨l,l1,l2⟩:=ih q hqlt (by omega) (gs++[(lsd 18 low).reverse.map ch]) (by
     have h1:sz q<sz n:=by
      have:=congrArg List.length (Qf8 18 low q hq0 (by rw [hU10];exact hml))
      rw [Z3,Qd2,hU10,show low+U*q=n by omega] at this
      unfold sz;omega
     simp only [Z3,Z16];omega)
    have hgn:Groups n (((lsd 18 low).reverse.map ch)::l):=by
     have:=Groups.more low q l (by rw [hU10];exact hml) hq0 l1
     rwa [hU10,show low+U*q=n by omega] at this
    refine ⟨_,hgn,.step (y:=(lb q,gs++[(lsd 18 low).reverse.map ch])) (λrec=>?_) (by rw [show gs++((lsd 18 low).reverse.map ch)::l=(gs++[(lsd 18 low).reverse.map ch])++l by simp];exact l2)⟩
    rw [body,Qc (by omega)]
    exact Qna (len:=18) (by omega) (by omega) (Qms 18 low 0 (by omega) (by rw [hU10];exact hml)) (by rw [Qd2];omega) (by omega)
def byts (s:J1):J0:=s.map λc=>(c.toNat:Int)
theorem Qp2 (a b:J1):byts (a++b)=byts a++byts b:=by simp [byts]
theorem Qwq (s:J1):(byts s).all Jh=true:=by
 rw [Z14]
 intro x hx
 obtain ⟨c,_,rfl⟩:=List.mem_map.1 hx
 have:=c.toNat_lt
 simp [Jh];omega
theorem Qqa (s:J1):(byts s).map (λn=>UInt8.ofNat n.toNat)=s:=by
 unfold byts
 rw [List.map_map]
 conv=>rhs;rw [<-List.map_id s]
 exact Z75 λc _=>by simp
theorem Qdj (s:J1):(byts s).length=s.length:=by simp [byts]
theorem Qk8 {gs:List J1} (hg:gs.length<=800000000) (hs:gs.flatten.length<=100000000):∀(k:Nat),k<=gs.length->∀acc:J1,acc.length+(gs.take k).flatten.length<=100000000 ->
  ∃i,Runs (λrec x=>z27.l4P gs rec some x) ((k:Int)-1,byts acc) (i,byts (acc++(gs.take k).reverse.flatten))
 |
  0,hk,acc,ha=>⟨-1,by
  refine .done λrec=>?_
  unfold z27.l4P
  simp only
  rw [Qc (by omega)];simp⟩
 |
  k+1,hk,acc,ha=>by
  have hk':k<gs.length:=by omega
  have hget:gs.getD k []=gs[k]:=by simp [List.getD,hk']
  have htk:gs.take (k+1)=gs.take k++[gs[k]]:=by rw [List.take_add_one,Z1 hk'];rfl
  have hfl:(gs.take (k+1)).flatten.length=(gs.take k).flatten.length+gs[k].length:=by rw [htk,List.flatten_append,Z3,List.flatten_singleton]
  obtain ⟨i,hi⟩:=Qk8 hg hs k (by omega) (acc++gs[k]) (by rw [Z3];omega)
  refine ⟨i,.step (λrec=>?_) (by rw [htk,List.reverse_append,List.reverse_singleton,List.flatten_append,List.flatten_singleton,<-Z51];exact hi)⟩
  unfold z27.l4P
  simp only
  rw [show ((k+1:Nat):Int)-1=(k:Int) by omega,bif_t (by omega),if_pos (by omega),Zi,if_pos hk',hget]
  change (if ((byts acc).length+(byts gs[k]).length)*1<=140737488355328 then _ else none)=_
  rw [Qdj,Qdj,if_pos (by omega),Qg (by omega) (by omega),Qp2]
  rfl
theorem digits_Print {n:Nat} (hs:sz n<=100000000):z27.F (lb n)=some (txt n):=by
 unfold z27.F
 rw [Wx]
 simp only [Zb]
 rcases Z15 n with h0|h0
 ·subst h0;rfl
 rw [Qc (by omega)]
 obtain ⟨gs,g1,g2⟩:=Qpq n hs [] (by simp only [Z31];omega)
 have e0:z27.l0 (lb n,[])=some ([],gs):=g2.lfp
 obtain ⟨l1,l2⟩:=g1.len
 have ht:=g1.text
 have hn:0<gs.length:=by
  cases gs with
  |nil=>exfalso;cases g1;omega
  |cons=>simp
 rw [e0]
 simp only [Zb]
 obtain ⟨k,hk⟩:∃k,gs.length=k+1:=⟨gs.length-1,by omega⟩
 have hk':k<gs.length:=by omega
 have hget:gs.getD k []=gs[k]:=by simp [List.getD,hk']
 have htk:gs=gs.take k++[gs[k]]:=by
  have:=List.take_add_one (l:=gs) (i:=k)
  rw [Z1 hk',Z28 (by omega)] at this;exact this
 have hfl:gs.flatten.length=(gs.take k).flatten.length+gs[k].length:=by
  conv=>lhs;rw [htk]
  rw [List.flatten_append,Z3,List.flatten_singleton]
 rw [hk,Qg (n:=((k+1:Nat):Int)-1) (by omega) (by omega),show ((k+1:Nat):Int)-1=(k:Int) by omega,bif_t (by omega),if_pos (by omega),Zi,if_pos (by omega),hget]
 change (if (0+(byts gs[k]).length)*1<=140737488355328 then ((z27.l4 gs (wr .i64 ((k:Int)-1),[]++byts gs[k])).bind _) else none)=_
 rw [Qdj,if_pos (by omega),Qg (by omega) (by omega),List.nil_append]
 obtain ⟨i,hi⟩:=Qk8 (gs:=gs) (by omega) (by omega) k (by omega) gs[k] (by omega)
 have e4:z27.l4 gs ((k:Int)-1,byts gs[k])=some (i,byts (gs[k]++(gs.take k).reverse.flatten)):=hi.lfp
 have hall:gs[k]++(gs.take k).reverse.flatten=gs.reverse.flatten:=by
  conv=>rhs;rw [htk]
  rw [List.reverse_append,List.reverse_singleton,List.flatten_append,List.flatten_singleton]
 rw [e4,hall]
 simp only [Zb]
 have hlen:gs.reverse.flatten.length=sz n:=by rw [ht];unfold sz;simp
 have hszp:0<sz n:=by omega
 rw [Qdj,if_pos (by omega),if_pos ⟨trivial,by omega,Qwq _⟩,Qqa,ht]
 unfold txt
 rw [if_neg (by omega)]
def itxt (z:Int):J1:=if z<0 then 45::txt z.natAbs else txt z.natAbs
theorem Qgy (n:Nat):(txt n).length<=sz n+1:=by
 unfold txt;split
 ·simp
 ·unfold sz;simp
theorem Qwi (z:Int):(itxt z).length<=sz z.natAbs+2:=by
 have:=Qgy z.natAbs
 unfold itxt;split
 ·simp only [Z8];omega
 ·omega
theorem Qlh {z:Int} (hs:sz z.natAbs<=100000000):z28.F (lb z.natAbs) (neg z)=some (itxt z):=by
 have:=Qgy z.natAbs
 unfold z28.F itxt
 by_cases h:z<0
 ·rw [bif_t h,digits_Print hs,if_pos h]
  simp only [Zb]
  rw [if_pos (by simp only [Z16];omega)];rfl
 ·rw [Qc h,digits_Print hs,if_neg h];rfl
theorem Qsh {z:Int} (hs:sz z.natAbs<=100000000):z103.F (dg z.natAbs) (neg z)=some (itxt z):=by
 have h1:=Qgy z.natAbs
 have h2:=Wa z.natAbs
 exact Qto (by omega) (by omega)
def ltr (b:UInt8):Bool:=decide (97<=b.toNat)&&decide (b.toNat<=122)
def dgt (b:UInt8):Bool:=decide (48<=b.toNat)&&decide (b.toNat<=57)
def wrd (b:UInt8):Bool:=ltr b||dgt b||decide (b.toNat=45)
def nmr (b:UInt8):Bool:=dgt b||decide (b.toNat=45)||decide (b.toNat=46)
def bln (b:UInt8):Bool:=decide (b.toNat=32)||decide (b.toNat=9)||decide (b.toNat=10)||decide (b.toNat=13)
def sgn (b:UInt8):Bool:=decide (b.toNat=123)||decide (b.toNat=125)||decide (b.toNat=61)||decide (b.toNat=59)||decide (b.toNat=44)
def skp:Bool->J1->J1
 |_,[]=>[]
 |true,b::t=>if b.toNat=10 then skp false t else skp true t
 |false,b::t=>if b.toNat=35 then skp true t else if bln b then skp false t else b::t
theorem W3:∀(r:Bool) (s:J1),(skp r s).length<=s.length
 |_,[]=>by simp [skp]
 |
  true,b::t=>by
  have h1:=W3 false t;have h2:=W3 true t
  unfold skp;split<;>simp<;>omega
 |
  false,b::t=>by
  have h1:=W3 false t;have h2:=W3 true t
  unfold skp;split
  ·simp;omega
  ·split<;>simp<;>omega
theorem Qi9:∀(b:Bool) (l:J1),l.drop (l.length-(skp b l).length)=skp b l:=by
 intro b l
 induction l generalizing b with
 |nil=>simp [skp]
 |
  cons c t iht=>
  have drop1:∀b',(c::t).drop ((c::t).length-(skp b' t).length)=t.drop (t.length-(skp b' t).length):=λb'=>by
   have:=W3 b' t
   rw [show (c::t).length-(skp b' t).length=(t.length-(skp b' t).length)+1 by simp;omega];rfl
  cases b with
  |
   true=>
   rw [skp];split
   ·rw [drop1];exact iht false
   ·rw [drop1];exact iht true
  |
   false=>
   rw [skp];split
   ·rw [drop1];exact iht true
   ·split
    ·rw [drop1];exact iht false
    ·simp
def dtd (s:J1):Bool:=decide (s.length=10)&&(List.range 10).all λi=>if i=4\/i=7 then decide ((s.getD i 0).toNat=45) else dgt (s.getD i 0)
def tokOf (s:J1):Int×J1×Int:=
 if ltr (s.getD 0 0) then (0,s.takeWhile wrd,0)
 else if dgt (s.getD 0 0)||decide ((s.getD 0 0).toNat=45) then
  if dtd (s.takeWhile nmr) then (2,s.takeWhile nmr,0) else if (mDec (s.takeWhile nmr)).2.2=0 then (1,s.takeWhile nmr,0) else (0,[],5)
 else if sgn (s.getD 0 0) then (3,s.take 1,0) else (0,[],4)
theorem Qlq {p:UInt8->Bool} {b:UInt8} {t:J1} (h:p b=true):1<=((b::t).takeWhile p).length/\((b::t).takeWhile p).length<=(b::t).length:=by
 refine ⟨by rw [List.takeWhile_cons_of_pos h];simp,?_⟩
 exact (List.takeWhile_prefix p).length_le
theorem Qel {s:J1} (h:s≠[]) (he:(tokOf s).2.2=0):1<=(tokOf s).2.1.length/\(tokOf s).2.1.length<=s.length:=by
 cases s with
 |nil=>exact (h rfl).elim
 |
  cons b t=>
  unfold tokOf at he ⊢
  simp only [List.getD_cons_zero] at he ⊢
  by_cases h1:ltr b=true
  ·rw [if_pos h1];exact Qlq (by simp [wrd,h1])
  ·rw [if_neg h1] at he ⊢
   by_cases h2:(dgt b||decide (b.toNat=45))=true
   ·rw [if_pos h2] at he ⊢
    have hp:=Qlq (p:=nmr) (b:=b) (t:=t) (by simp only [nmr,h2,Z84])
    by_cases h3:dtd (List.takeWhile nmr (b::t))=true
    ·rw [if_pos h3];exact hp
    ·rw [if_neg h3] at he ⊢
     by_cases h4:(mDec (List.takeWhile nmr (b::t))).2.2=0
     ·rw [if_pos h4];exact hp
     ·rw [if_neg h4] at he;simp at he
   ·rw [if_neg h2] at he ⊢
    by_cases h3:sgn b=true
    ·rw [if_pos h3];simp
    ·rw [if_neg h3] at he;simp at he
structure Tk where
 k:Int
 s:List UInt8
 p:Int
def Tk.v (t:Tk):List V:=[.int .i64 t.k,.str t.s,.int .i64 t.p]
def lx (N:Nat) (r:J1):List Tk×Int×Int:=
 if h:r=[] then ([],0,0) else
 if h2:(tokOf r).2.2=0 then
  let m:=lx N (skp false (r.drop (tokOf r).2.1.length))
  if m.2.2=0 then (⟨(tokOf r).1,(tokOf r).2.1,(N:Int)-r.length⟩::m.1,0,0) else ([],m.2.1,m.2.2)
 else ([],(N:Int)-r.length,(tokOf r).2.2)
termination_by r.length
decreasing_by
 have h3:=Qel h h2
 have h4:=W3 false (r.drop (tokOf r).2.1.length)
 rw [Z22] at h4
 omega
theorem lx_nil (N:Nat):lx N []=([],0,0):=by rw [lx];rfl
theorem Qcp {N:Nat} {r:J1} (h:r≠[]) (h2:(tokOf r).2.2≠0):lx N r=([],(N:Int)-r.length,(tokOf r).2.2):=by
 rw [lx,dif_neg h,dif_neg h2]
theorem Qbc {N:Nat} {r:J1} (h:r≠[]) (h2:(tokOf r).2.2=0):lx N r =
  if (lx N (skp false (r.drop (tokOf r).2.1.length))).2.2=0 then (⟨(tokOf r).1,(tokOf r).2.1,(N:Int)-r.length⟩::(lx N (skp false (r.drop (tokOf r).2.1.length))).1,0,0)
  else ([],(lx N (skp false (r.drop (tokOf r).2.1.length))).2.1,(lx N (skp false (r.drop (tokOf r).2.1.length))).2.2):=by
 rw [lx,dif_neg h,dif_pos h2]
def lexOf (s:J1):List Tk×Int×Int:=lx s.length (skp false s)
theorem Qlc (s:J1) (i:Nat) (h:i<s.length):(ByteArray.get! ⟨s.toArray⟩ i)=s.getD i 0:=by
 have h2:i<s.toArray.size:=by simpa using h
 show s.toArray[i]! = _
 rw [getElem!_pos s.toArray i h2]
 simp [Zl,h]
theorem dec_low {s:J1} {i:Nat} (h:i<s.length) (hb:(s.getD i 0).toNat<128):Utf8.decode ⟨s.toArray⟩ i=((s.getD i 0).toNat,1):=by
 unfold Utf8.decode
 simp only [Z79,Qlc s i h]
 rw [if_pos hb]
theorem Qtd {s:J1} {i:Nat} (h:i<s.length) (hb:128<=(s.getD i 0).toNat):128<=(Utf8.decode ⟨s.toArray⟩ i).1:=by
 unfold Utf8.decode
 simp only [Z79,Qlc s i h]
 rw [if_neg (by omega)]
 repeat' split
 all_goals first|(simp only [Utf8.runeError];omega)|(simp only [Z4,decide_eq_true_eq] at *;omega)|(simp only;omega)
theorem lex_letter (n:Int):z87.F n=some (decide (97<=n/\n<=122)):=by
 unfold z87.F
 by_cases h:n>=97
 ·rw [bif_t h];congr 1;exact decide_eq_decide.2 (by omega)
 ·rw [Qc h];congr 1;symm;exact Zf (by omega)
theorem lex_digit (n:Int):z88.F n=some (decide (48<=n/\n<=57)):=by
 unfold z88.F
 by_cases h:n>=48
 ·rw [bif_t h];congr 1;exact decide_eq_decide.2 (by omega)
 ·rw [Qc h];congr 1;symm;exact Zf (by omega)
theorem lex_wordly (n:Int):z89.F n=some (decide ((97<=n/\n<=122)\/(48<=n/\n<=57)\/n=45)):=by
 unfold z89.F
 rw [lex_letter]
 simp only [Zb]
 by_cases h:97<=n/\n<=122
 ·rw [bif_t h];congr 1;symm;exact Zt (.inl h)
 ·rw [Qc h,lex_digit]
  simp only [Zb]
  by_cases h2:48<=n/\n<=57
  ·rw [bif_t h2];congr 1;symm;exact Zt (.inr (.inl h2))
  ·rw [Qc h2];congr 1;exact decide_eq_decide.2 (by omega)
theorem lex_numeric (n:Int):z90.F n=some (decide ((48<=n/\n<=57)\/n=45\/n=46)):=by
 unfold z90.F
 rw [lex_digit]
 simp only [Zb]
 by_cases h:48<=n/\n<=57
 ·rw [bif_t h];congr 1;symm;exact Zt (.inl h)
 ·rw [Qc h]
  by_cases h2:n=45
  ·rw [bif_t h2];congr 1;symm;exact Zt (.inr (.inl h2))
  ·rw [Qc h2];congr 1;exact decide_eq_decide.2 (by omega)
theorem wrd_iff (b:UInt8):wrd b=decide ((97<=(b.toNat:Int)/\(b.toNat:Int)<=122)\/(48<=(b.toNat:Int)/\(b.toNat:Int)<=57)\/(b.toNat:Int)=45):=by
 rw [Z59];simp only [wrd,ltr,dgt,Z67,Z4,decide_eq_true_eq];omega
theorem nmr_iff (b:UInt8):nmr b=decide ((48<=(b.toNat:Int)/\(b.toNat:Int)<=57)\/(b.toNat:Int)=45\/(b.toNat:Int)=46):=by
 rw [Z59];simp only [nmr,dgt,Z67,Z4,decide_eq_true_eq];omega
def Jo (G:Int->Option Bool) (s:J1) {R:Type} (rec:Nat->Option R) (done:((J1×Nat)⊕Nat)->Option R):Nat->Option R:=λi=>
 if i<s.length then (G ((Utf8.decode ⟨s.toArray⟩ i).1:Int)).bind λr=>
  bif (!r) then (if (0:Int)<=((i:Nat):Int)/\((i:Nat):Int)<=((s).length:Int) then done (.inl (s.take (((i:Nat):Int)).toNat,i+(Utf8.decode ⟨s.toArray⟩ i).2)) else none)
  else rec (i+(Utf8.decode ⟨s.toArray⟩ i).2)
 else done (.inr i)
theorem Qie {s:J1} {i:Nat} (h:i<s.length):s.drop i=s.getD i 0::s.drop (i+1):=by
 rw [Z17 h,Zl,Z1 h];rfl
theorem scan_runs {G:Int->Option Bool} {p:UInt8->Bool} {s:J1} (hG:∀i,i<s.length->G ((Utf8.decode ⟨s.toArray⟩ i).1:Int)=some (p (s.getD i 0))/\(p (s.getD i 0)=true->(Utf8.decode ⟨s.toArray⟩ i).2=1)) :
  ∀(f i:Nat),i+f=s.length->(∃q,Runs (λrec x=>Jo G s rec some x) i (.inl (s.take (i+((s.drop i).takeWhile p).length),q))/\i+((s.drop i).takeWhile p).length<s.length)\/(Runs (λrec x=>Jo G s rec some x) i (.inr s.length)/\i+((s.drop i).takeWhile p).length=s.length)
 |
  0,i,h=>by
  refine .inr ⟨.done λrec=>?_,?_⟩
  ·unfold Jo;rw [if_neg (by omega),show i=s.length by omega]
  ·rw [Z55 (by omega)];simp;omega
 |
  f+1,i,h=>by
  have hi:i<s.length:=by omega
  obtain ⟨h1,h2⟩:=hG i hi
  rw [Qie hi]
  cases hp:p (s.getD i 0) with
  |
   false=>
   refine .inl ⟨i+(Utf8.decode ⟨s.toArray⟩ i).2,.done λrec=>?_,?_⟩
   ·unfold Jo
    rw [if_pos hi,h1,hp]
    simp only [Zb,Zo,Zd]
    rw [if_pos (by omega),List.takeWhile_cons_of_neg (by rw [hp];simp)]
    rfl
   ·rw [List.takeWhile_cons_of_neg (by rw [hp];simp)];simpa using hi
  |
   true=>
   have hw:=h2 hp
   have hst:∀rec:Nat->Option ((J1×Nat)⊕Nat),Jo G s rec some i=rec (i+1):=λrec=>by
    unfold Jo
    rw [if_pos hi,h1,hp,hw];rfl
   have hl:i+(List.takeWhile p (s.getD i 0::s.drop (i+1))).length=(i+1)+(List.takeWhile p (s.drop (i+1))).length:=by
    rw [List.takeWhile_cons_of_pos hp,Z8];omega
   rw [hl]
   rcases scan_runs hG f (i+1) (by omega) with ⟨q,r,hlt⟩|⟨r,he⟩
   ·exact .inl ⟨q,.step hst r,hlt⟩
   ·exact .inr ⟨.step hst r,he⟩
theorem Qn5 (p:UInt8->Bool) (s:J1):s.take (s.takeWhile p).length=s.takeWhile p:=
 (List.prefix_iff_eq_take.1 (List.takeWhile_prefix p)).symm
theorem scan_at {G:Int->Option Bool} {p:UInt8->Bool} (s:J1) (hG:∀n:Nat,n<128->∀b:UInt8,b.toNat=n->G (n:Int)=some (p b)) (hH:∀n:Nat,128<=n->G (n:Int)=some false) (hp:∀b:UInt8,128<=b.toNat->p b=false) :
  (∃q,lfp (λrec x=>Jo G s rec some x) 0=some (.inl (s.takeWhile p,q))/\(s.takeWhile p).length<s.length)\/(lfp (λrec x=>Jo G s rec some x) 0=some (.inr s.length)/\s.takeWhile p=s):=by
 have h:=scan_runs (G:=G) (p:=p) (s:=s) (λi hi=>by
  by_cases hb:(s.getD i 0).toNat<128
  ·rw [dec_low hi hb]
   exact ⟨hG _ hb _ rfl,λ_=>rfl⟩
  ·have hb':128<=(s.getD i 0).toNat:=by omega
   rw [hp _ hb',hH _ (Qtd hi hb')]
   exact ⟨rfl,λh=>by simp at h⟩) s.length 0 (by omega)
 rw [Z45,Z29] at h
 rcases h with ⟨q,r,hlt⟩|⟨r,he⟩
 ·exact .inl ⟨q,by rw [r.lfp,Qn5],hlt⟩
 ·refine .inr ⟨r.lfp,?_⟩
  have:=Qn5 p s
  rw [he,Z61] at this;exact this.symm
theorem token_l0 (s:J1):(∃q,z95.l0 s s 0=some (.inl (s.takeWhile wrd,q)))\/(z95.l0 s s 0=some (.inr s.length)/\s.takeWhile wrd=s):=by
 rcases scan_at (G:=z89.F) (p:=wrd) s (λn hn b hb=>by rw [lex_wordly,wrd_iff,hb]) (λn hn=>by rw [lex_wordly];congr 1;exact Zf (by omega)) (λb hb=>by rw [wrd_iff];exact Zf (by omega)) with ⟨q,h,_⟩|h
 ·exact .inl ⟨q,h⟩
 ·exact .inr h
theorem token_l0a (s:J1):(∃q,z95.l0a s s 0=some (.inl (s.takeWhile nmr,q)))\/(z95.l0a s s 0=some (.inr s.length)/\s.takeWhile nmr=s):=by
 rcases scan_at (G:=z90.F) (p:=nmr) s (λn hn b hb=>by rw [lex_numeric,nmr_iff,hb]) (λn hn=>by rw [lex_numeric];congr 1;exact Zf (by omega)) (λb hb=>by rw [nmr_iff];exact Zf (by omega)) with ⟨q,h,_⟩|h
 ·exact .inl ⟨q,h⟩
 ·exact .inr h
abbrev shp:J1:=[48,48,48,48,45,48,48,45,48,48]
theorem Qs0 {i:Nat} (h:i<10):Utf8.decode ⟨shp.toArray⟩ i=(if i=4\/i=7 then 45 else 48,1):=by
 have:i=0\/i=1\/i=2\/i=3\/i=4\/i=5\/i=6\/i=7\/i=8\/i=9:=by omega
 rcases this with rfl|rfl|rfl|rfl|rfl|rfl|rfl|rfl|rfl|rfl<;>exact dec_low (by decide) (by decide)
abbrev okD (s:J1) (i:Nat):Bool:=if i=4\/i=7 then decide ((s.getD i 0).toNat=45) else dgt (s.getD i 0)
theorem Qgh (b:UInt8):wr .i32 (b.toNat:Int)=b.toNat:=Qml (by omega) (by have:=b.toNat_lt;omega)
theorem Qhj (b:UInt8):dgt b=decide (48<=(b.toNat:Int)/\(b.toNat:Int)<=57):=by
 rw [Z59];simp only [dgt,Z4,decide_eq_true_eq];omega
theorem dated_loop {s:J1} (hl:s.length=10):∀(f i:Nat),i+f=10->(∃q,Runs (λrec x=>z91.l0P s shp rec some x) i (.inl (false,q))/\∃j,i<=j/\j<10/\okD s j=false)\/(Runs (λrec x=>z91.l0P s shp rec some x) i (.inr 10)/\∀j,i<=j->j<10->okD s j=true)
 |
  0,i,h=>by
  refine .inr ⟨.done λrec=>?_,λj h1 h2=>by omega⟩
  unfold z91.l0P
  rw [if_neg (by show ¬i<10;omega),show i=10 by omega]
 |
  f+1,i,h=>by
  have hi:i<10:=by omega
  have hst:∀rec:Nat->Option ((Bool×Nat)⊕Nat),z91.l0P s shp rec some i=if okD s i=true then rec (i+1) else some (.inl (false,i+1)):=λrec=>by
   unfold z91.l0P
   rw [if_pos (show i<shp.length from hi),Qs0 hi]
   rw [lex_digit]
   simp only [Zb,Zi]
   rw [if_pos (by omega),Qgh,lex_digit]
   simp only [Zb,okD]
   have hil:i<s.length:=by omega
   obtain ⟨c,hc⟩:∃c,s.getD i 0=c:=⟨_,rfl⟩
   simp only [hc]
   have e:wr .u8 45=45:=by decide
   by_cases h47:i=4\/i=7
   ·simp only [if_pos h47]
    by_cases h45:c.toNat=45
    ·rw [h45,if_pos (by omega)];simp [e]
    ·have h45':¬((45:Int)=(c.toNat:Int)):=by omega
     by_cases hd:48<=(c.toNat:Int)/\(c.toNat:Int)<=57
     ·simp [hd,h45]
     ·rw [Zf hd,if_pos (by omega)]
      simp [h45,e,h45']
   ·simp only [if_neg h47,Qhj]
    by_cases hd:48<=(c.toNat:Int)/\(c.toNat:Int)<=57
    ·rw [Zt hd];simp
    ·rw [Zf hd];simp
  cases ho:okD s i with
  |
   false=>
   refine .inl ⟨i+1,.done λrec=>?_,i,Z5 _,hi,ho⟩
   rw [hst,ho];rfl
  |
   true=>
   have hst':∀rec:Nat->Option ((Bool×Nat)⊕Nat),z91.l0P s shp rec some i=rec (i+1):=λrec=>by rw [hst,ho];rfl
   rcases dated_loop hl f (i+1) (by omega) with ⟨q,r,j,h1,h2,h3⟩|⟨r,hall⟩
   ·exact .inl ⟨q,.step hst' r,j,by omega,h2,h3⟩
   ·refine .inr ⟨.step hst' r,λj h1 h2=>?_⟩
    by_cases e:j=i
    ·subst e;exact ho
    ·exact hall j (by omega) h2
theorem lex_dated (s:J1):z91.F s=some (dtd s):=by
 unfold z91.F dtd
 by_cases hl:s.length=10
 ·rw [Zt (show (s.length:Int)=10 by omega),Zt hl]
  simp only [Zn,Zc,Z24]
  rcases dated_loop hl 10 0 rfl with ⟨q,r,j,_,h2,h3⟩|⟨r,hall⟩
  ·have e:z91.l0 s shp 0=some (.inl (false,q)):=r.lfp
   rw [e]
   simp only [Zb]
   congr 1;symm
   rw [Bool.eq_false_iff]
   intro h
   have:=Z14.1 h j (by simpa using h2)
   rw [show okD s j=true from this] at h3;simp at h3
  ·have e:z91.l0 s shp 0=some (.inr 10):=r.lfp
   rw [e]
   simp only [Zb]
   congr 1;symm
   exact Z14.2 λj hj=>hall j (Z65 _) (by simpa using hj)
 ·rw [Zf (show ¬(s.length:Int)=10 by omega),Zf hl];rfl
theorem Qvg {n:Nat} (h:128<=n) (h2:n<256):∃a b:UInt8,(Utf8.encode (n:Int)).data.toList=[a,b]/\128<=b.toNat:=by
 unfold Utf8.encode
 have hv:Utf8.valid (n:Int)=true:=by unfold Utf8.valid;rw [Z67];left;simp only [Z4,decide_eq_true_eq];omega
 simp only [hv,if_true,Zi]
 rw [if_neg (by omega),if_pos (by omega)]
 refine ⟨_,_,rfl,?_⟩
 rw [UInt8.toNat_ofNat'];omega
theorem Quh {b:UInt8} (h:128<=b.toNat):sgn b=false:=by
 have hn:∀k:Nat,k<128->decide (b.toNat=k)=false:=λk hk=>Zf (by omega)
 unfold sgn
 rw [hn 123 (by decide),hn 125 (by decide),hn 61 (by decide),hn 59 (by decide),hn 44 (by decide)];rfl
theorem Quk (b:UInt8):z94.F [123,125,61,59,44] (b.toNat:Int)=some (sgn b):=by
 unfold z94.F z93.F
 have hb:=b.toNat_lt
 rw [bif_t (by omega)]
 unfold z93.j1
 by_cases h:(b.toNat:Int)<128
 ·rw [bif_t h]
  have e:z2.F [123,125,61,59,44] (wr .u8 (b.toNat:Int))=some (byteIdx [123,125,61,59,44] b):=by
   rw [Qaj (by omega) (by omega)]
   unfold z2.F
   have:((b.toNat:Int).toNat).toUInt8=b:=by simp
   rw [this]
  unfold z85.F
  rw [e]
  simp only [Zb]
  congr 1
  have hn:byteIdx ([]:J1) b = -1:=rfl
  have key:∀(c:UInt8) (t:J1),(byteIdx (c::t) b>=0↔c=b\/byteIdx t b>=0):=λc t=>by
   rw [Jw]
   by_cases h1:c=b
   ·simp [h1]
   ·rw [if_neg h1];simp only [h1,false_or];split<;>omega
  rw [Z59,decide_eq_true_iff,key,key,key,key,key,hn]
  simp only [sgn,Z67,decide_eq_true_eq,<-UInt8.toNat_inj]
  constructor
  ·rintro (h|h|h|h|h|h)
   ·rw [<-h];decide
   ·rw [<-h];decide
   ·rw [<-h];decide
   ·rw [<-h];decide
   ·rw [<-h];decide
   ·omega
  ·rintro ((((h|h)|h)|h)|h)
   ·exact .inl h.symm
   ·exact .inr (.inl h.symm)
   ·exact .inr (.inr (.inl h.symm))
   ·exact .inr (.inr (.inr (.inl h.symm)))
   ·exact .inr (.inr (.inr (.inr (.inl h.symm))))
 ·have hbb:128<=b.toNat:=by omega
  rw [Qc h,Qc (by omega)]
  have hv:z92.F (b.toNat:Int)=some true:=by
   unfold z92.F z92.j1
   rw [bif_t (by omega),bif_t (by omega)]
  rw [hv]
  obtain ⟨a1,a2,he,ha⟩:=Qvg (n:=b.toNat) (by omega) hb
  simp only [Zb,Zn,Zc,he]
  have e1:wr .i64 ((([a1,a2]:J1).length:Int)-1)=1:=by show wr .i64 (((2:Nat):Int)-1)=1;decide
  simp only [e1]
  have e2:wr .i64 ((1:Int)+1)=2:=by decide
  have h2:¬((125:Int)=(a2.toNat:Int)):=by omega
  have e3:z85.F (List.drop (Int.toNat 2) [123,125,61,59,44]) (a2.toNat:Int)=some (-1):=by
   unfold z85.F z2.F
   have:((a2.toNat:Int).toNat).toUInt8=a2:=by simp
   rw [this]
   have ne:∀c:UInt8,c.toNat<128->¬c=a2:=λc hc e=>by subst e;omega
   show some (byteIdx [61,59,44] a2)=some (-1)
   rw [Jw,if_neg (ne _ (by decide)),Jw,if_neg (ne _ (by decide)),Jw,if_neg (ne _ (by decide))];rfl
  have e4:(([123,125,61,59,44]:J1).getD (Int.toNat 1) 0).toNat=125:=rfl
  have e5:(([a1,a2]:J1).getD (Int.toNat 1) 0).toNat=a2.toNat:=rfl
  rw [bif_t (by decide),if_pos (by decide),if_pos (by simp),e4,e5,show (((125:Nat):Int))=125 from rfl,Zf h2]
  simp only [Zo,Zd,e2]
  rw [if_pos (by decide),if_pos (by simp),e3]
  simp only [Zb]
  rw [bif_t (by decide),Zb,Quh hbb];rfl
theorem lex_token {s:J1} (h:s≠[]):z95.F s=some ((tokOf s).1,(tokOf s).2.1,0,(tokOf s).2.2):=by
 have hl:=Z21.2 h
 have h5:∀t:J1,((z91.F t).bind λr10=>(bif r10 then (some ((2:Int),t,(0:Int),(0:Int))) else ((z50.F t).bind λr11=>(bif (!decide (r11.2.2.2=(0:Int))) then (some ((0:Int),([]:J1),(0:Int),(5:Int))) else (some ((1:Int),t,(0:Int),(0:Int))))))) =
   some (if dtd t then (2,t,0,0) else if (mDec t).2.2=0 then (1,t,0,0) else (0,[],0,5)):=λt=>by
  rw [lex_dated]
  simp only [Zb]
  cases dtd t with
  |true=>rfl
  |
   false=>
   rw [dec_Parse]
   simp only [Zb,Zc]
   by_cases h0:(mDec t).2.2=0
   ·rw [Zt h0,if_pos h0];rfl
   ·rw [Zf h0,if_neg h0];rfl
 have hnum:z95.j6 true s=some (if dtd (s.takeWhile nmr) then (2,s.takeWhile nmr,0,0) else if (mDec (s.takeWhile nmr)).2.2=0 then (1,s.takeWhile nmr,0,0) else (0,[],0,5)):=by
  unfold z95.j6
  simp only [Zd]
  rcases token_l0a s with ⟨q,e⟩|⟨e,he⟩
  ·rw [e];simp only [Zb];exact h5 _
  ·rw [e];simp only [Zb];rw [he];exact h5 s
 unfold z95.F tokOf
 rw [if_pos (by omega),Qgh,lex_letter]
 simp only [Zb]
 generalize hb:s.getD 0 0=b
 have e1:decide (97<=(b.toNat:Int)/\(b.toNat:Int)<=122)=ltr b:=by
  rw [Z59];simp only [ltr,Z4,decide_eq_true_eq];omega
 rw [e1]
 cases h1:ltr b with
 |
  true=>
  simp only [Zd,if_true]
  rcases token_l0 s with ⟨q,e⟩|⟨e,he⟩
  ·rw [e];rfl
  ·rw [e];simp only [Zb];rw [he]
 |
  false=>
  rw [lex_digit]
  simp only [Zb,Zc,Z12,if_false]
  rw [<-Qhj]
  have fin:z95.j6 true s=some ((if dtd (s.takeWhile nmr) then ((2:Int),s.takeWhile nmr,(0:Int)) else if (mDec (s.takeWhile nmr)).2.2=0 then (1,s.takeWhile nmr,0) else (0,[],5)).1,(if dtd (s.takeWhile nmr) then ((2:Int),s.takeWhile nmr,(0:Int)) else if (mDec (s.takeWhile nmr)).2.2=0 then (1,s.takeWhile nmr,0) else (0,[],5)).2.1,0,(if dtd (s.takeWhile nmr) then ((2:Int),s.takeWhile nmr,(0:Int)) else if (mDec (s.takeWhile nmr)).2.2=0 then (1,s.takeWhile nmr,0) else (0,[],5)).2.2):=by
   rw [hnum]
   split
   ·rfl
   ·split<;>rfl
  cases h2:dgt b with
  |true=>simp only [Zd,Z84,if_true];exact fin
  |
   false=>
   simp only [Zc,Z82]
   by_cases h3:b.toNat=45
   ·rw [Zt (show (b.toNat:Int)=45 by omega),Zt h3]
    simp only [if_true];exact fin
   ·rw [Zf (show ¬(b.toNat:Int)=45 by omega),Zf h3]
    simp only [Z12,if_false]
    unfold z95.j6
    simp only [Zc]
    rw [hb,Qgh,Quk]
    simp only [Zb]
    cases sgn b with
    |true=>simp only [Zd,if_true];rw [if_pos (by omega)]
    |false=>simp only [Zc,Z12,if_false]
theorem Qgq (b:UInt8):([32,9,10,13]:J1).contains b=bln b:=by
 rw [Z59]
 simp only [List.contains_cons,List.contains_nil,Bool.or_false,Z67,beq_iff_eq,bln,decide_eq_true_eq,<-UInt8.toNat_inj]
 simp only [show (32:UInt8).toNat=32 from rfl,show (9:UInt8).toNat=9 from rfl,show (10:UInt8).toNat=10 from rfl,show (13:UInt8).toNat=13 from rfl]
 omega
theorem Qj8:∀l:J1,skp false (trimL l [32,9,10,13])=skp false l
 |[]=>rfl
 |
  b::t=>by
  by_cases hb:bln b=true
  ·have e:trimL (b::t) [32,9,10,13]=trimL t [32,9,10,13]:=by unfold trimL;exact List.dropWhile_cons_of_pos (by rw [Qgq];exact hb)
   rw [e,Qj8 t]
   have h35:¬b.toNat=35:=λe=>by simp [bln,e] at hb
   conv=>rhs;rw [skp]
   rw [if_neg h35,if_pos hb]
  ·have e:trimL (b::t) [32,9,10,13]=b::t:=by unfold trimL;exact List.dropWhile_cons_of_neg (by rw [Qgq];exact hb)
   rw [e]
theorem Qt0 {l:J1} {b:UInt8} {t:J1} (h:trimL l [32,9,10,13]=b::t):bln b=false:=by
 have:=List.head?_dropWhile_not (λc=>([32,9,10,13]:J1).contains c) l
 unfold trimL at h
 rw [h] at this
 simpa [<-Qgq] using this
theorem Qu4 (l:J1):(trimL l [32,9,10,13]).length<=l.length:=(List.dropWhile_suffix _).length_le
theorem Qg8:∀(t:J1) (c:UInt8),byteIdx t c<t.length/\-1<=byteIdx t c
 |[],c=>by simp [byteIdx]
 |
  b::t,c=>by
  have ih:=Qg8 t c
  rw [Jw,Z8]
  split
  ·omega
  ·split<;>omega
theorem Qk1:∀t:J1,skp true t=if byteIdx t 10<0 then [] else skp false (t.drop (byteIdx t 10).toNat)
 |[]=>rfl
 |
  b::t=>by
  have hlt:=Qg8 t 10
  rw [Jw,skp]
  by_cases h:b=10
  ·subst h
   rw [if_pos rfl,if_pos (show UInt8.toNat 10=10 from rfl),if_neg (by decide)]
   show skp false t=skp false (10::t)
   conv=>rhs;rw [skp]
   rw [if_neg (by decide),if_pos (by decide)]
  ·rw [if_neg h,if_neg (show ¬b.toNat=10 from λe=>h (UInt8.toNat_inj.1 e)),Qk1 t]
   by_cases h2:byteIdx t 10<0
   ·rw [if_pos h2,if_pos h2,if_pos (by decide)]
   ·rw [if_neg h2,if_neg h2,if_neg (by omega)]
    have:(byteIdx t 10+1).toNat=(byteIdx t 10).toNat+1:=by omega
    rw [this];rfl
theorem Qd6 (r:J1):z84.F r [35]=some (decide (r.getD 0 0=35)):=by
 unfold z84.F z31.F
 cases r with
 |nil=>rfl
 |
  cons b t=>
  rw [bif_t (by simp only [Z8,Z31];omega),if_pos (by simp only [Z8,Z31];omega)]
  simp only [Zb,List.getD_cons_zero]
  congr 1
  exact decide_eq_decide.2 (by simp)
theorem Qll {s:J1} (hs:s.length<=4611686018427387904):∀(n:Nat) (l:J1),l.length<=n->l.length<=s.length->Runs (λrec x=>z86.l0P s rec some x) l (((s.length-(skp false l).length:Nat):Int))
 |
  n,l,hn,hls=>by
  have htl:=Qu4 l
  have ht:z4.F l [32,9,10,13]=some (trimL l [32,9,10,13]):=by unfold z4.F;rw [if_pos ⟨by decide,by decide⟩]
  have hsk:=Qj8 l
  cases hr:trimL l [32,9,10,13] with
  |
   nil=>
   refine .done λrec=>?_
   unfold z86.l0P
   rw [ht,hr]
   simp only [Zb]
   rw [Qd6]
   simp only [Zb]
   rw [show (!decide (([]:J1).getD 0 0=35))=true from rfl]
   simp only [Zd]
   rw [<-hsk,hr,Qg (by simp only [Z31];omega) (by simp only [Z31];omega)]
   rfl
  |
   cons b t=>
   have hb:=Qt0 hr
   rw [hr] at hsk htl
   have hlen:(b::t).length=t.length+1:=rfl
   by_cases h35:b=35
   ·subst h35
    have hi:=Qg8 t 10
    have e1:skp false (35::t)=skp true t:=by rw [skp];rfl
    have e2:byteIdx (35::t) 10=if byteIdx t 10<0 then -1 else byteIdx t 10+1:=by rw [Jw,if_neg (by decide)]
    have e3:z85.F (35::t) 10=some (byteIdx (35::t) 10):=rfl
    rw [<-hsk,e1,Qk1]
    by_cases hneg:byteIdx t 10<0
    ·refine .done λrec=>?_
     unfold z86.l0P
     rw [ht,hr]
     simp only [Zb]
     rw [Qd6]
     simp only [Zb]
     rw [show (!decide ((35::t:J1).getD 0 0=35))=false from rfl]
     simp only [Zc]
     rw [e3]
     simp only [Zb]
     rw [e2,if_pos hneg,bif_t (by decide),if_pos hneg]
     simp
    ·rw [if_neg hneg]
     match n,hn with
     |0,hn=>simp at htl;omega
     |
      n+1,hn=>
      have hd:(t.drop (byteIdx t 10).toNat).length<=t.length:=by rw [Z22];omega
      refine .step (λrec=>?_) (Qll hs n (t.drop (byteIdx t 10).toNat) (by omega) (by omega))
      unfold z86.l0P
      rw [ht,hr]
      simp only [Zb]
      rw [Qd6]
      simp only [Zb]
      rw [show (!decide ((35::t:J1).getD 0 0=35))=false from rfl]
      simp only [Zc]
      rw [e3]
      simp only [Zb]
      rw [e2,if_neg hneg,Qc (by omega),if_pos (by simp only [Z8];omega)]
      have:(byteIdx t 10+1).toNat=(byteIdx t 10).toNat+1:=by omega
      rw [this];rfl
   ·refine .done λrec=>?_
    unfold z86.l0P
    rw [ht,hr]
    simp only [Zb]
    rw [Qd6]
    simp only [Zb,List.getD_cons_zero]
    rw [Zf h35]
    simp only [Zo,Zd]
    have e1:skp false (b::t)=b::t:=by rw [skp,if_neg (show ¬b.toNat=35 from λe=>h35 (UInt8.toNat_inj.1 e)),if_neg (by rw [hb];simp)]
    rw [<-hsk,e1,Qg (by omega) (by omega)]
    congr 1;omega
theorem lex_between {s:J1} (hs:s.length<=4611686018427387904):z86.F s=some (((s.length-(skp false s).length:Nat):Int)):=by
 unfold z86.F
 have e:z86.l0 s s=some _:=(Qll hs s.length s (Z5 _) (Z5 _)).lfp
 rw [e];rfl
theorem Qrv {s:J1} (hs:s.length<=1048576):∀(n:Nat) (r:J1) (acc:J2),r.length<=n->r.length<=s.length->s.drop (s.length-r.length)=r->acc.length+r.length<=s.length ->
  ∃x,z96.l0 s ((s.length:Int)-r.length,acc)=some x/\(if (lx s.length r).2.2=0 then x=.inl ((s.length:Int),acc++(lx s.length r).1.map Tk.v) else ∃a,x=.inr ([],(lx s.length r).2.1,(lx s.length r).2.2,a))
 |
  n,r,acc,hn,hrs,hd,hacc=>by
  suffices h:∃x,Runs (λrec y=>z96.l0P s rec some y) ((s.length:Int)-r.length,acc) x/\(if (lx s.length r).2.2=0 then x=.inl ((s.length:Int),acc++(lx s.length r).1.map Tk.v) else ∃a,x=.inr ([],(lx s.length r).2.1,(lx s.length r).2.2,a)) by
   obtain ⟨x,h1,h2⟩:=h
   exact ⟨x,h1.lfp,h2⟩
  revert n
  have key:∀(n:Nat) (r:J1) (acc:J2),r.length<=n->r.length<=s.length->s.drop (s.length-r.length)=r->acc.length+r.length<=s.length ->
    ∃x,Runs (λrec y=>z96.l0P s rec some y) ((s.length:Int)-r.length,acc) x/\(if (lx s.length r).2.2=0 then x=.inl ((s.length:Int),acc++(lx s.length r).1.map Tk.v) else ∃a,x=.inr ([],(lx s.length r).2.1,(lx s.length r).2.2,a)):=by
   intro n
   induction n with
   |
    zero=>
    intro r acc hn hrs hd hacc
    have:r=[]:=Z7 (by omega)
    subst this
    refine ⟨.inl ((s.length:Int),acc),.done λrec=>?_,?_⟩
    ·unfold z96.l0P
     simp only
     rw [Qc (by simp)];simp
    ·rw [lx_nil];simp
   |
    succ n ih=>
    intro r acc hn hrs hd hacc
    by_cases hr:r=[]
    ·subst hr
     refine ⟨.inl ((s.length:Int),acc),.done λrec=>?_,?_⟩
     ·unfold z96.l0P
      simp only
      rw [Qc (by simp)];simp
     ·rw [lx_nil];simp
    have hpos:=Z21.2 hr
    have hat:((s.length:Int)-r.length).toNat=s.length-r.length:=by omega
    have htok:z95.F (s.drop ((s.length:Int)-r.length).toNat)=some ((tokOf r).1,(tokOf r).2.1,0,(tokOf r).2.2):=by rw [hat,hd,lex_token hr]
    by_cases he:(tokOf r).2.2=0
    ·obtain ⟨l1,l2⟩:=Qel hr he
     have hu:s.drop (s.length-r.length+(tokOf r).2.1.length)=r.drop (tokOf r).2.1.length:=by rw [<-Z95,hd]
     generalize hu':r.drop (tokOf r).2.1.length=u at *
     have hul:u.length=r.length-(tokOf r).2.1.length:=by rw [<-hu',Z22]
     have hsl:=W3 false u
     have hbt:=lex_between (s:=u) (by omega)
     have hd2:s.drop (s.length-(skp false u).length)=skp false u:=by
      have hul2:u.length=s.length-(s.length-r.length+(tokOf r).2.1.length):=by rw [<-hu,Z22]
      calc s.drop (s.length-(skp false u).length)=(s.drop (s.length-r.length+(tokOf r).2.1.length)).drop (u.length-(skp false u).length):=by rw [Z95];congr 1;omega
       _=u.drop (u.length-(skp false u).length):=by rw [hu]
       _=skp false u:=Qi9 false u
     obtain ⟨x,hx,hx2⟩:=ih (skp false u) (acc++[[.int .i64 (tokOf r).1,.str (tokOf r).2.1,.int .i64 ((s.length:Int)-r.length)]]) (by omega) (by omega) hd2 (by simp;omega)
     refine ⟨x,.step (λrec=>?_) hx,?_⟩
     ·unfold z96.l0P
      simp only
      rw [bif_t (by omega),if_pos (by omega),htok]
      simp only [Zb]
      rw [Zt he]
      simp only [Zn,Zc]
      rw [if_pos (by simp;omega)]
      have ew:wr .i64 ((s.length:Int)-r.length+(tokOf r).2.1.length)=((s.length-r.length+(tokOf r).2.1.length:Nat):Int):=by
       rw [Qg (by omega) (by omega)];omega
      rw [ew,if_pos (by omega),Zi,hu,hbt]
      simp only [Zb]
      rw [Qg (by omega) (by omega)]
      congr 2
      omega
     ·rw [Qbc hr he,hu']
      by_cases hm:(lx s.length (skp false u)).2.2=0
      ·rw [if_pos hm] at hx2 ⊢
       rw [if_pos rfl,hx2]
       simp [Tk.v]
      ·rw [if_neg hm] at hx2 ⊢
       rw [if_neg hm]
       exact hx2
    ·refine ⟨.inr ([],(s.length:Int)-r.length,(tokOf r).2.2,acc),.done λrec=>?_,?_⟩
     ·unfold z96.l0P
      simp only
      rw [bif_t (by omega),if_pos (by omega),htok]
      simp only [Zb]
      rw [Zf he];rfl
     ·rw [Qcp hr he,if_neg he];exact ⟨acc,rfl⟩
  intro n hn
  exact key n r acc hn hrs hd hacc
theorem lex_Lex (s:J1):z96.F s=some (if 1048576<s.length then ([],0,7) else ((lexOf s).1.map Tk.v,(lexOf s).2.1,(lexOf s).2.2)):=by
 unfold z96.F
 by_cases hs:1048576<s.length
 ·rw [bif_t (by omega),if_pos hs]
 ·rw [Qc (by omega),if_neg hs,lex_between (by omega)]
  simp only [Zb]
  have hsl:=W3 false s
  have hsuf:=Qi9 false s
  obtain ⟨x,h1,h2⟩:=Qrv (s:=s) (by omega) s.length (skp false s) [] (by omega) (by omega) hsuf (by simp;omega)
  have e:((s.length-(skp false s).length:Nat):Int)=(s.length:Int)-(skp false s).length:=by omega
  rw [e,h1]
  unfold lexOf
  by_cases hm:(lx s.length (skp false s)).2.2=0
  ·rw [if_pos hm] at h2
   rw [h2,hm]
   have:(lx s.length (skp false s)).2.1=0:=by
    have key:∀(n:Nat) (r:J1),r.length<=n->(lx s.length r).2.2=0->(lx s.length r).2.1=0:=by
     intro n r _ h
     by_cases hr:r=[]
     ·subst hr;rw [lx_nil]
     ·by_cases he:(tokOf r).2.2=0
      ·rw [Qbc hr he] at h ⊢
       split at h
       ·rename_i h3;rw [if_pos h3]
       ·rename_i h3;exact (h3 h).elim
      ·rw [Qcp hr he] at h;exact (he h).elim
    exact key _ _ (Z5 _) hm
   rw [this];simp
  ·rw [if_neg hm] at h2
   obtain ⟨a,rfl⟩:=h2
   have:(lx s.length (skp false s)).1=[]:=by
    by_cases hr:skp false s=[]
    ·rw [hr,lx_nil] at hm;exact (hm rfl).elim
    ·by_cases he:(tokOf (skp false s)).2.2=0
     ·rw [Qbc hr he] at hm ⊢
      split
      ·rename_i h3;rw [if_pos h3] at hm;exact (hm rfl).elim
      ·rfl
     ·rw [Qcp hr he]
   rw [this];rfl
theorem Qs3 (r:J1):((tokOf r).1=2->(tokOf r).2.2=0->dtd (tokOf r).2.1=true)/\((tokOf r).1=1->(mDec (tokOf r).2.1).2.2=0):=by
 unfold tokOf
 split
 ·exact ⟨λh=>by simp at h,λh=>by simp at h⟩
 ·split
  ·split
   ·rename_i h;exact ⟨λ_ _=>h,λh=>by simp at h⟩
   ·split
    ·rename_i h;exact ⟨λh=>by simp at h,λ_=>h⟩
    ·exact ⟨λh=>by simp at h,λh=>by simp at h⟩
  ·split
   ·exact ⟨λh=>by simp at h,λh=>by simp at h⟩
   ·exact ⟨λh=>by simp at h,λh=>by simp at h⟩
theorem Qwb (N:Nat):∀(n:Nat) (r:J1),r.length<=n->r.length<=N->(lx N r).1.length<=r.length/\∀t∈(lx N r).1,(t.k=2->dtd t.s=true)/\t.s.length<=r.length/\0<=t.p/\t.p<=N:=by
 intro n
 induction n with
 |
  zero=>
  intro r hn _
  have:r=[]:=Z7 (by omega)
  subst this
  rw [lx_nil];exact ⟨Z5 _,λt h=>by simp at h⟩
 |
  succ n ih=>
  intro r hn hN
  by_cases hr:r=[]
  ·subst hr;rw [lx_nil];exact ⟨Z5 _,λt h=>by simp at h⟩
  by_cases he:(tokOf r).2.2=0
  ·obtain ⟨l1,l2⟩:=Qel hr he
   have h4:=W3 false (r.drop (tokOf r).2.1.length)
   rw [Z22] at h4
   rw [Qbc hr he]
   obtain ⟨i1,i2⟩:=ih (skp false (r.drop (tokOf r).2.1.length)) (by omega) (by omega)
   split
   ·refine ⟨by simp only [Z8];omega,λt ht=>?_⟩
    rcases Z62.1 ht with rfl|ht
    ·exact ⟨λh=>(Qs3 r).1 h he,l2,by show (0:Int)<=(N:Int)-r.length;omega,by show (N:Int)-r.length<=N;omega⟩
    ·obtain ⟨j1,j2,j3⟩:=i2 t ht
     exact ⟨j1,by omega,j3⟩
   ·exact ⟨Z65 _,λt h=>by simp at h⟩
  ·rw [Qcp hr he];exact ⟨Z65 _,λt h=>by simp at h⟩
abbrev D9:=Int×Int×Int×Int
def mDate (s:J1):D9:=
 if right (tv 0 (s.take 4)) (tv 0 ((s.drop 5).take 2)) (tv 0 (s.drop 8)) then (tv 0 (s.take 4),tv 0 ((s.drop 5).take 2),tv 0 (s.drop 8),0) else (0,0,0,11)
theorem Qmx {s:J1} (hl:s.length<=6) (hs:∀i,i<s.length->dgt (s.getD i 0)=true):∀(f i:Nat) (n:Int),i+f=s.length->0<=n->n<(10^i:Nat)->Runs (λrec x=>z81.l0P s (s.length:Int) rec some x) (n,(i:Int)) (.inl (tv n (s.drop i),(s.length:Int)))
 |
  0,i,n,h,h1,h2=>by
  refine .done λrec=>?_
  unfold z81.l0P
  simp only
  rw [Qc (by omega),Z55 (by omega),show (i:Int)=(s.length:Int) by omega];rfl
 |
  f+1,i,n,h,h1,h2=>by
  have hi:i<s.length:=by omega
  have hd:=hs i hi
  have hb:48<=(s.getD i 0).toNat/\(s.getD i 0).toNat<=57:=by simpa [dgt] using hd
  have hp:(10^(i+1):Nat)=10*10^i:=by rw [Z38];omega
  have hp2:(10^i:Nat)<=10^6:=Z54 (by decide) (by omega)
  have hp3:(10^6:Nat)=1000000:=by decide
  rw [Qie hi,tv]
  refine .step (λrec=>?_) (Qmx hl hs f (i+1) (10*n+((s.getD i 0).toNat:Int)-48) (by omega) (by omega) (by rw [hp];omega))
  unfold z81.l0P
  simp only
  have hc:(0:Int)<=(i:Int)/\(i:Int)<(s.length:Int):=by omega
  rw [bif_t (by omega),if_pos hc,Zi,Qc (by omega),if_pos hc,Qc (by omega),if_pos hc]
  rw [Qaj (by omega) (by omega),Qg (n:=((s.getD i 0).toNat:Int)-48) (by omega) (by omega),Qg (n:=10*n) (by omega) (by omega),Qg (by omega) (by omega),Qg (by omega) (by omega)]
  congr 2
  omega
theorem date_number {s:J1} (hl:s.length<=6) (hs:∀i,i<s.length->dgt (s.getD i 0)=true):z81.F s=some (tv 0 s,true):=by
 have e:z81.l0 s (s.length:Int) (0,0)=some (.inl (tv 0 s,(s.length:Int))):=(Qmx hl hs s.length 0 0 (by omega) (by omega) (by simp)).lfp
 unfold z81.F
 rw [e];rfl
theorem Qa5 {s:J1} (h:dtd s=true):s.length=10/\∀i,i<10->okD s i=true:=by
 unfold dtd at h
 rw [Z4,decide_eq_true_eq] at h
 exact ⟨h.1,λi hi=>Z14.1 h.2 i (by simpa using hi)⟩
theorem Qe4 {s:J1} (h:dtd s=true) {i:Nat} (hi:i<10) (h4:i≠4) (h7:i≠7):dgt (s.getD i 0)=true:=by
 have:=(Qa5 h).2 i hi
 unfold okD at this
 rwa [if_neg (by omega)] at this
theorem Qc1 {s:J1} (h:dtd s=true) {i:Nat} (hi:i=4\/i=7):(s.getD i 0).toNat=45:=by
 have:=(Qa5 h).2 i (by omega)
 unfold okD at this
 rw [if_pos hi] at this
 simpa using this
theorem date_Parse {s:J1} (h:dtd s=true):z82.F s=some (mDate s):=by
 obtain ⟨hl,_⟩:=Qa5 h
 have g1:∀i,i<(s.take 4).length->dgt ((s.take 4).getD i 0)=true:=λi hi=>by
  rw [Z13] at hi
  have:(s.take 4).getD i 0=s.getD i 0:=by
   rw [Zl,Zl,Z56];rw [if_pos (by omega)]
  rw [this];exact Qe4 h (by omega) (by omega) (by omega)
 have g2:∀i,i<((s.drop 5).take 2).length->dgt (((s.drop 5).take 2).getD i 0)=true:=λi hi=>by
  rw [Z13] at hi
  have:((s.drop 5).take 2).getD i 0=s.getD (5+i) 0:=by
   rw [Zl,Zl,Z56,if_pos (by omega),List.getElem?_drop]
  rw [this];exact Qe4 h (by omega) (by omega) (by omega)
 have g3:∀i,i<(s.drop 8).length->dgt ((s.drop 8).getD i 0)=true:=λi hi=>by
  rw [Z22] at hi
  have:(s.drop 8).getD i 0=s.getD (8+i) 0:=by
   rw [Zl,Zl,List.getElem?_drop]
  rw [this];exact Qe4 h (by omega) (by omega) (by omega)
 have n1:=date_number (s:=s.take 4) (by rw [Z13];omega) g1
 have n2:=date_number (s:=(s.drop 5).take 2) (by rw [Z13];omega) g2
 have n3:=date_number (s:=s.drop 8) (by rw [Z22];omega) g3
 unfold z82.F
 rw [Zt (show (s.length:Int)=10 by omega)]
 simp only [Zn,Zc]
 have h4:=Qc1 h (.inl rfl)
 have h7:=Qc1 h (.inr rfl)
 rw [if_pos (by omega),Zt (show ((s.getD 4 0).toNat:Int)=45 by omega)]
 simp only [Zn,Zc]
 rw [if_pos (by omega),Zt (show ((s.getD 7 0).toNat:Int)=45 by omega)]
 unfold z82.j1
 rw [if_pos (by omega),n1,Zb,if_pos (by omega),show (7:Nat)-5=2 from rfl,n2,Zb,if_pos (by omega),n3,Zb]
 simp only [Zn,Zc]
 unfold z82.j5 mDate
 rw [date_Check,Zb]
 split<;>rfl
def kPay:J1:=[112,97,121]
def kPre:J1:=[112,114,101,112,97,121]
def Qwz:J1:=[114,101,115,101,116]
def Qve:J1:=[112,97,115,115]
def kDue:J1:=[100,117,101]
def We:List J1:=[kPay,kPre,Qwz,Qve]
def idxW:List J1->J1->Int->Int
 |[],_,_=>-1
 |w::t,s,i=>if s=w then i else idxW t s (i+1)
def kindOf (s:J1):Int:=idxW We s 0
def iend:Int⊕Int->Int | .inl _=>-1 | .inr q=>q
theorem Qnb {L:List J1} (hL:L.length<=1000000) (s:J1):∀(f i:Nat),i+f=L.length->∃x,Runs (λrec x=>z75.l0P L s (L.length:Int) rec some x) (i:Int) x/\iend x=idxW (L.drop i) s i
 |
  0,i,h=>by
  refine ⟨.inl (i:Int),.done λrec=>?_,?_⟩
  ·unfold z75.l0P
   rw [Qc (by omega)]
  ·rw [Z55 (by omega)];rfl
 |
  f+1,i,h=>by
  have hi:i<L.length:=by omega
  have hg:L.getD i []=L[i]:=by rw [Zl,Z1 hi];rfl
  have hst:∀rec:Int->Option (Int⊕Int),z75.l0P L s (L.length:Int) rec some (i:Int)=if s=L[i] then some (.inr (i:Int)) else rec ((i+1:Nat):Int):=λrec=>by
   unfold z75.l0P
   rw [bif_t (by omega),if_pos (by omega),Zi,hg,Qg (by omega) (by omega)]
   by_cases hs:s=L[i]
   ·rw [if_pos hs,Zt hs];rfl
   ·rw [if_neg hs,Zf hs];rfl
  rw [Z17 hi,idxW]
  by_cases hs:s=L[i]
  ·exact ⟨.inr (i:Int),.done λrec=>by rw [hst,if_pos hs],by rw [if_pos hs];rfl⟩
  ·obtain ⟨x,r,hx⟩:=Qnb hL s f (i+1) (by omega)
   exact ⟨x,.step (λrec=>by rw [hst,if_neg hs]) r,by rw [if_neg hs,hx];rfl⟩
theorem Qwm (s:J1):z75.F We s=some (kindOf s):=by
 obtain ⟨x,r,hx⟩:=Qnb (L:=We) (by decide) s We.length 0 (by omega)
 have e:z75.l0 We s ((We.length:Nat):Int) 0=some x:=r.lfp
 unfold z75.F
 rw [e]
 have:iend x=kindOf s:=hx
 rw [<-this]
 cases x<;>rfl
theorem Qus (s:J1):-1<=kindOf s/\kindOf s<=3:=by
 unfold kindOf We idxW idxW idxW idxW idxW
 repeat' split
 all_goals omega
def Jr (v:J1):Int:=if (mMoney v).2≠0 then (mMoney v).2 else if (mMoney v).1=0 then 19 else 0
def mVal (k:Int) (v:J1):Int:=
 if k=3 then (if v=[] then 0 else 4) else if k=2 then (W5 v).2 else if k=0/\v=kDue then 0 else Jr v
theorem script_money (v:J1):z48.F v=some (Jr v):=by
 unfold z48.F Jr
 rw [terms_Money,Zb]
 by_cases h:(mMoney v).2=0
 ·simp only [h,decide_true,Zd,ne_eq,not_true_eq_false,if_false]
  rw [Qa3,Zb]
  by_cases h0:(mMoney v).1=0
  ·rw [if_pos h0,bif_t (Qfw.2 h0)]
  ·rw [if_neg h0,Qc (λe=>h0 (Qfw.1 e))]
 ·rw [if_pos h,Qc h]
theorem script_value {k:Int} (hk:0<=k/\k<=3) (y m d:Int) (v:J1):z70.F k y m d v=some (mVal k v):=by
 unfold z70.F mVal
 by_cases h0:k=0
 ·rw [bif_t h0,if_neg (by omega),if_neg (by omega)]
  by_cases hv:v=kDue
  ·rw [if_pos ⟨h0,hv⟩];exact bif_t hv
  ·rw [if_neg (λh=>hv h.2)]
   refine (Qc hv).trans ?_
   rw [script_money];rfl
 ·rw [Qc h0,if_neg (show ¬(k=0/\v=kDue) from λh=>h0 h.1)]
  by_cases h1:k=1
  ·rw [bif_t h1,if_neg (by omega),if_neg (by omega),script_money];rfl
  ·rw [Qc h1]
   by_cases h2:k=2
   ·rw [bif_t h2,if_neg (by omega),if_pos h2,terms_Rate];rfl
   ·rw [Qc h2,if_pos (show k=3 by omega)]
    by_cases hv:v=[]
    ·rw [if_pos hv,Zt hv];rfl
    ·rw [if_neg hv,Zf hv];rfl
theorem Qul {k:Int} (hk:0<=k/\k<=3) (y m d:Int) {v:J1} (hv:v.length<=1000000):z136.F k y m d v=some (mVal k v):=by
 have hj:z136.j2 v=some (Jr v):=by
  unfold z136.j2 Jr
  rw [Qh6 v hv,Zb]
  by_cases h:(mMoney v).2=0
  ·rw [Zt (show (wr4 (mMoney v)).2.2=0 from h),if_neg (λhh=>hh h)]
   simp only [Zn,Zc]
   by_cases h0:(mMoney v).1=0
   ·rw [if_pos h0,bif_t ((dg_len0 _).2 (by rw [h0];rfl))]
   ·rw [if_neg h0,Qc (λe=>h0 (Int.natAbs_eq_zero.1 ((dg_len0 _).1 e)))]
  ·rw [Zf (show ¬(wr4 (mMoney v)).2.2=0 from h),if_pos h];rfl
 unfold z136.F mVal
 by_cases h3:k=3
 ·rw [bif_t h3,if_pos h3]
  by_cases hv:v=[]
  ·rw [if_pos hv,Zt hv];rfl
  ·rw [if_neg hv,Zf hv];rfl
 ·rw [Qc h3,if_neg h3]
  by_cases h2:k=2
  ·rw [bif_t h2,if_pos h2,Qwg];rfl
  ·rw [Qc h2,if_neg h2]
   by_cases h0:k=0
   ·rw [bif_t h0]
    by_cases hv:v=kDue
    ·rw [if_pos ⟨h0,hv⟩];exact bif_t hv
    ·rw [if_neg (λh=>hv h.2)];exact (Qc hv).trans hj
   ·rw [Qc h0,if_neg (show ¬(k=0/\v=kDue) from λh=>h0 h.1)];exact hj
def mWorth (k:Int) (t:Tk):Int×J1:=
 if t.k=0/\k=0 then (if t.s=kDue then (0,kDue) else (14,[]))
 else if t.k≠1 then (4,[])
 else if k=2 then (mVal 2 t.s,t.s)
 else if (mDec t.s).2.2≠0 then ((mDec t.s).2.2,[])
 else if (mDec t.s).2.1≠2 then (10,[])
 else (mVal k (itxt (mDec t.s).1),itxt (mDec t.s).1)
theorem dump_Cents (s:J1):z71.F s=some (if (mDec s).2.2≠0 then ([],false,(mDec s).2.2) else if (mDec s).2.1≠2 then ([],false,10) else (lb (mDec s).1.natAbs,neg (mDec s).1,0)):=by
 unfold z71.F
 rw [dec_Parse,Zb]
 by_cases h:(mDec s).2.2=0
 ·rw [if_neg (λhh=>hh h),Zt (show (decR (mDec s)).2.2.2=0 from h)]
  simp only [Zn,Zc]
  unfold z53.F z54.F
  simp only [Zb]
  by_cases h2:(mDec s).2.1=2
  ·rw [if_neg (λhh=>hh h2),Zt (show (decR (mDec s)).2.2.1=2 from by show ((mDec s).2.1:Int)=2;omega)];rfl
  ·rw [if_pos h2,Zf (show ¬(decR (mDec s)).2.2.1=2 from by show ¬((mDec s).2.1:Int)=2;omega)];rfl
 ·rw [if_pos h,Zf (show ¬(decR (mDec s)).2.2.2=0 from h)];rfl
def hd (N:Int):List Tk->Tk
 |[]=>⟨-1,[],N⟩
 |t::_=>t
theorem Qdq (l:List Tk) (N p:Int):∃z,z7.F (l.map Tk.v) N p=some ((hd N l).k,(hd N l).s,z,l.tail.map Tk.v,N,(hd N l).p):=by
 unfold z7.F
 cases l with
 |nil=>exact ⟨0,rfl⟩
 |
  cons t u=>
  refine ⟨t.p,?_⟩
  have hl:((((t::u).map Tk.v).length:Nat):Int)=(u.length:Int)+1:=by simp
  rw [Qc (by rw [hl];omega),if_pos (by rw [hl];omega)]
  show (if (0:Int)<=1/\(1:Int)<=_ then _ else none)=_
  rw [if_pos (by rw [hl];omega)];rfl
theorem Qth {k:Int} (hk:0<=k/\k<3) (y m d N p:Int) (l:List Tk):∃w,z72.F (l.map Tk.v) N p k y m d []=some ((mWorth k (hd N l)).1,l.tail.map Tk.v,N,(hd N l).p,k,y,m,d,w)/\((mWorth k (hd N l)).1=0->w=(mWorth k (hd N l)).2):=by
 obtain ⟨z,hz⟩:=Qdq l N p
 have hb:=(Qfc (hd N l).s).2
 unfold z72.F
 rw [hz,Zb]
 generalize hd N l=t at *
 generalize l.tail.map Tk.v=u
 have rest:¬(t.k=0/\k=0)->∃w,z72.j3 false (t.k,t.s,z,u,N,t.p) k y m d []=some ((mWorth k t).1,u,N,t.p,k,y,m,d,w)/\((mWorth k t).1=0->w=(mWorth k t).2):=λhn=>by
  unfold z72.j3 mWorth
  simp only [if_neg hn,Zc]
  by_cases h1:t.k=1
  ·rw [Zt h1]
   simp only [if_neg (show ¬(t.k≠1) from λh=>h h1),Zn,Zc]
   by_cases h2:k=2
   ·rw [bif_t h2,script_value (by omega)]
    simp only [if_pos h2]
    subst h2
    exact ⟨t.s,rfl,λ_=>rfl⟩
   ·rw [Qc h2,dump_Cents,Zb]
    simp only [if_neg h2]
    by_cases h3:(mDec t.s).2.2=0
    ·simp only [if_neg (show ¬((mDec t.s).2.2≠0) from λh=>h h3)]
     by_cases h4:(mDec t.s).2.1=2
     ·simp only [if_neg (show ¬((mDec t.s).2.1≠2) from λh=>h h4)]
      simp only [decide_true,Zn,Zc]
      rw [Qlh (by omega),Zb,script_value (by omega)]
      exact ⟨_,rfl,λ_=>rfl⟩
     ·simp only [if_pos h4]
      exact ⟨[],rfl,λh=>by simp at h⟩
    ·simp only [if_pos h3]
     rw [Zf h3]
     exact ⟨[],rfl,λh=>(h3 h).elim⟩
  ·rw [Zf h1]
   simp only [if_pos h1]
   exact ⟨[],rfl,λh=>by simp at h⟩
 by_cases h0:t.k=0
 ·simp only [Zt h0,Zd]
  by_cases hk0:k=0
  ·simp only [Zt hk0,Zd]
   unfold z72.j2 mWorth
   simp only [if_pos (show t.k=0/\k=0 from ⟨h0,hk0⟩)]
   by_cases hd:t.s=kDue
   ·simp only [if_pos hd]
    rw [Zt (show t.s=[100,117,101] from hd)]
    simp only [Zn,Zc,Zt h0,Zt hk0,Zd]
    exact ⟨kDue,rfl,λ_=>rfl⟩
   ·simp only [if_neg hd]
    rw [Zf (show ¬t.s=[100,117,101] from hd)]
    exact ⟨[],rfl,λh=>by simp at h⟩
  ·simp only [Zf hk0,Zc]
   unfold z72.j2
   simp only [Zf hk0,Zc,Zt h0,Zd]
   exact rest (λh=>hk0 h.2)
 ·simp only [Zf h0,Zc]
  unfold z72.j2
  simp only [Zc,Zf h0]
  exact rest (λh=>h0 h.1)
structure Evt where
 k:Int
 y:Int
 m:Int
 d:Int
 v:List UInt8
deriving DecidableEq
def Evt.r (e:Evt):List V:=[.int .i64 e.k,.int .i64 e.y,.int .i64 e.m,.int .i64 e.d,.str e.v]
def mFin (N:Int) (e:Evt) (l:List Tk):(Int×Int)⊕(Evt×List Tk):=
 if (hd N l).k=3/\(hd N l).s=[59] then .inr (e,l.tail) else .inl (4,(hd N l).p)
def mEvent (N:Int) (l:List Tk) (y m d:Int):(Int×Int)⊕(Evt×List Tk):=
 if (hd N l).k≠0 then .inl (4,(hd N l).p)
 else if kindOf (hd N l).s<0 then .inl (14,(hd N l).p)
 else if (hd N l.tail).k≠2 then .inl (4,(hd N l.tail).p)
 else if (mDate (hd N l.tail).s).2.2.2≠0 then .inl ((mDate (hd N l.tail).s).2.2.2,(hd N l.tail).p)
 else if dcmp (mDate (hd N l.tail).s).1 (mDate (hd N l.tail).s).2.1 (mDate (hd N l.tail).s).2.2.1 y m d<0 then .inl (12,(hd N l.tail).p)
 else if kindOf (hd N l).s=3 then mFin N ⟨kindOf (hd N l).s,(mDate (hd N l.tail).s).1,(mDate (hd N l.tail).s).2.1,(mDate (hd N l.tail).s).2.2.1,[]⟩ l.tail.tail
 else if (mWorth (kindOf (hd N l).s) (hd N l.tail.tail)).1≠0 then .inl ((mWorth (kindOf (hd N l).s) (hd N l.tail.tail)).1,(hd N l.tail.tail).p)
 else mFin N ⟨kindOf (hd N l).s,(mDate (hd N l.tail).s).1,(mDate (hd N l.tail).s).2.1,(mDate (hd N l.tail).s).2.2.1,(mWorth (kindOf (hd N l).s) (hd N l.tail.tail)).2⟩ l.tail.tail.tail
def Yj (N:Int):Nat->List Tk->Int->Int->Int->List Evt->List Evt×Int×Int
 |0,_,_,_,_,acc=>(acc,0,0)
 |
  n+1,l,y,m,d,acc=>if l=[] then (acc,0,0) else
  match mEvent N l y m d with
  |.inl e=>([],e.2,e.1)
  |.inr r=>Yj N n r.2 r.1.y r.1.m r.1.d (acc++[r.1])
def Y3 (s:J1):List Evt×Int×Int:=
 if (lexOf s).2.2≠0 then ([],(lexOf s).2.1,(lexOf s).2.2) else Yj (s.length:Int) (lexOf s).1.length (lexOf s).1 0 0 0 []
def Qjk (R:Int×Int×Int×Int×J1×Int×J2×Int×Int) (N:Int):(Int×Int)⊕(Evt×List Tk)->Prop
 |.inl e=>R.2.2.2.2.2.1=e.1/\e.1≠0/\R.2.2.2.2.2.2.2.2=e.2
 |.inr r=>∃q,R=(r.1.k,r.1.y,r.1.m,r.1.d,r.1.v,0,r.2.map Tk.v,N,q)
theorem Qm6 (l:List Tk) (N p k y m d:Int) (v:J1):∃R,z83.j15 (l.map Tk.v) N p k y m d v=some R/\Qjk R N (mFin N ⟨k,y,m,d,v⟩ l):=by
 obtain ⟨z,hz⟩:=Qdq l N p
 unfold z83.j15 mFin
 rw [hz,Zb]
 by_cases h3:(hd N l).k=3
 ·by_cases h4:(hd N l).s=[59]
  ·rw [if_pos ⟨h3,h4⟩,Zt h3,Zt h4]
   exact ⟨_,rfl,_,rfl⟩
  ·rw [if_neg (λh=>h4 h.2),Zt h3,Zf h4]
   exact ⟨_,rfl,rfl,(by simp),rfl⟩
 ·rw [if_neg (λh=>h3 h.1),Zf h3]
  exact ⟨_,rfl,rfl,(by simp),rfl⟩
theorem Qoq {l:List Tk} (hl:∀t∈l,t.k=2->dtd t.s=true) (N:Int) (h:(hd N l).k=2):dtd (hd N l).s=true:=by
 cases l with
 |nil=>simp [hd] at h
 |cons t u=>exact hl t (by simp) h
theorem Qoo {l:List Tk} (hl:∀t∈l,t.k=2->dtd t.s=true) (N p y m d:Int):∃R,z83.F (l.map Tk.v) N p y m d=some R/\Qjk R N (mEvent N l y m d):=by
 obtain ⟨z0,e0⟩:=Qdq l N p
 obtain ⟨z1,e1⟩:=Qdq l.tail N (hd N l).p
 have hl1:∀t∈l.tail,t.k=2->dtd t.s=true:=λt ht=>hl t (List.mem_of_mem_tail ht)
 unfold z83.F mEvent
 rw [e0,Zb]
 by_cases h0:(hd N l).k=0
 ·rw [if_neg (λh=>h h0),Zt h0]
  simp only [Zn,Zc]
  rw [show z76.F=some We from rfl,Zb,Qwm,Zb]
  have hk:=Qus (hd N l).s
  generalize kindOf (hd N l).s=k at *
  by_cases h1:k<0
  ·rw [if_pos h1,bif_t h1]
   exact ⟨_,rfl,rfl,(by simp),rfl⟩
  ·rw [if_neg h1,Qc h1,e1,Zb]
   by_cases h2:(hd N l.tail).k=2
   ·rw [if_neg (λh=>h h2),Zt h2]
    simp only [Zn,Zc]
    rw [date_Parse (Qoq hl1 N h2),Zb]
    generalize mDate (hd N l.tail).s=D at *
    by_cases h3:D.2.2.2=0
    ·rw [if_neg (λh=>h h3),Zt h3]
     simp only [Zn,Zc]
     rw [date_Cmp,Zb]
     by_cases h4:dcmp D.1 D.2.1 D.2.2.1 y m d<0
     ·rw [if_pos h4,bif_t h4]
      exact ⟨_,rfl,rfl,(by simp),rfl⟩
     ·rw [if_neg h4,Qc h4]
      by_cases h5:k=3
      ·rw [if_pos h5,Zt h5]
       exact Qm6 l.tail.tail N _ k D.1 D.2.1 D.2.2.1 []
      ·rw [if_neg h5,Zf h5]
       simp only [Zo,Zd]
       obtain ⟨w,e2,hw⟩:=Qth (k:=k) (by omega) D.1 D.2.1 D.2.2.1 N (hd N l.tail).p l.tail.tail
       rw [e2,Zb]
       by_cases h6:(mWorth k (hd N l.tail.tail)).1=0
       ·rw [if_neg (λh=>h h6),Zt h6,hw h6]
        exact Qm6 l.tail.tail.tail N _ k D.1 D.2.1 D.2.2.1 _
       ·rw [if_pos h6,Zf h6]
        exact ⟨_,rfl,rfl,h6,rfl⟩
    ·rw [if_pos h3,Zf h3]
     exact ⟨_,rfl,rfl,h3,rfl⟩
   ·rw [if_pos h2,Zf h2]
    exact ⟨_,rfl,rfl,(by simp),rfl⟩
 ·rw [if_pos h0,Zf h0]
  exact ⟨_,rfl,rfl,(by simp),rfl⟩
theorem Ql3 {N:Int} {e:Evt} {l:List Tk} {r:Evt×List Tk} (h:mFin N e l=.inr r):r.1=e/\r.2=l.tail/\l≠[]:=by
 unfold mFin at h
 split at h
 ·rename_i hc
  refine ⟨by cases h;rfl,by cases h;rfl,λhn=>?_⟩
  subst hn;simp [hd] at hc
 ·simp at h
theorem Qwr {N:Int} {l:List Tk} {y m d:Int} {r:Evt×List Tk} (h:mEvent N l y m d=.inr r):l≠[]/\r.2.length+3<=l.length/\∃k,k<=l.length/\r.2=l.drop k:=by
 unfold mEvent at h
 split at h
 ·simp at h
 ·rename_i h0
  have hl:l≠[]:=λhn=>by subst hn;simp [hd] at h0
  have hpos:=Z21.2 hl
  split at h
  ·simp at h
  split at h
  ·simp at h
  rename_i h2
  have hl1:l.tail≠[]:=λhn=>by rw [hn] at h2;simp [hd] at h2
  have hpos1:=Z21.2 hl1
  rw [List.length_tail] at hpos1
  split at h
  ·simp at h
  split at h
  ·simp at h
  split at h
  ·obtain ⟨_,h5,h6⟩:=Ql3 h
   have hpos2:=Z21.2 h6
   simp only [List.length_tail] at hpos2
   have e:r.2=l.drop 3:=by rw [h5];simp only [<-List.drop_one,Z95]
   exact ⟨hl,by rw [e,Z22];omega,3,by omega,e⟩
  ·split at h
   ·simp at h
   ·obtain ⟨_,h5,h6⟩:=Ql3 h
    have hpos2:=Z21.2 h6
    simp only [List.length_tail] at hpos2
    have e:r.2=l.drop 4:=by rw [h5];simp only [<-List.drop_one,Z95]
    exact ⟨hl,by rw [e,Z22];omega,4,by omega,e⟩
abbrev PS:=J2×Int×Int×J2×Int×Int×Int
abbrev PT:=J2×Int×Int×J2×Int×Int×J2×Int×Int×Int
def outP:PS⊕PT->J2×Int×Int
 |.inl p=>(p.2.2.2.1,0,0)
 |.inr q=>(q.1,q.2.1,q.2.2.1)
def encM (r:List Evt×Int×Int):J2×Int×Int:=(r.1.map Evt.r,r.2.1,r.2.2)
theorem Qr2 (N:Int):∀(n:Nat) (l:List Tk) (p y m d:Int) (acc:List Evt),l.length<=n->(∀t∈l,t.k=2->dtd t.s=true)->acc.length+l.length<=9999 ->
  ∃x,Runs (λrec x=>z97.l0P rec some x) (l.map Tk.v,N,p,acc.map Evt.r,y,m,d) x/\outP x=encM (Yj N n l y m d acc):=by
 intro n
 induction n with
 |
  zero=>
  intro l p y m d acc hn hl ha
  have:l=[]:=Z7 (by omega)
  subst this
  refine ⟨.inl ([],N,p,acc.map Evt.r,y,m,d),.done λrec=>?_,?_⟩
  ·unfold z97.l0P
   simp only [List.map_nil]
   rw [Qc (by simp)]
  ·rfl
 |
  succ n ih=>
  intro l p y m d acc hn hl ha
  by_cases hnil:l=[]
  ·subst hnil
   refine ⟨.inl ([],N,p,acc.map Evt.r,y,m,d),.done λrec=>?_,?_⟩
   ·unfold z97.l0P
    simp only [List.map_nil]
    rw [Qc (by simp)]
   ·rw [Yj,if_pos rfl];rfl
  ·have hpos:=Z21.2 hnil
   obtain ⟨R,hR,ho⟩:=Qoo hl N p y m d
   have hst:∀rec:PS->Option (PS⊕PT),z97.l0P rec some (l.map Tk.v,N,p,acc.map Evt.r,y,m,d)=(bif (!decide (R.2.2.2.2.2.1=(0:Int))) then (some (.inr ([],R.2.2.2.2.2.2.2.2,R.2.2.2.2.2.1,R.2.2.2.2.2.2.1,R.2.2.2.2.2.2.2.1,R.2.2.2.2.2.2.2.2,acc.map Evt.r,y,m,d))) else (rec (R.2.2.2.2.2.2.1,R.2.2.2.2.2.2.2.1,R.2.2.2.2.2.2.2.2,(acc.map Evt.r++([[(.int .i64 R.1),(.int .i64 R.2.1),(.int .i64 R.2.2.1),(.int .i64 R.2.2.2.1),(.str R.2.2.2.2.1)]]:J2)),R.2.1,R.2.2.1,R.2.2.2.1))):=λrec=>by
    unfold z97.l0P
    simp only
    have l1:(l.map Tk.v).length=l.length:=by simp
    have l2:(acc.map Evt.r).length=acc.length:=by simp
    rw [l1,l2,bif_t (by omega),Qc (by omega),hR,Zb,if_pos (by show (acc.length+1)*48<=_;omega)]
   cases he:mEvent N l y m d with
   |
    inl e=>
    rw [he] at ho
    obtain ⟨h1,h2,h3⟩:=ho
    refine ⟨.inr ([],R.2.2.2.2.2.2.2.2,R.2.2.2.2.2.1,R.2.2.2.2.2.2.1,R.2.2.2.2.2.2.2.1,R.2.2.2.2.2.2.2.2,acc.map Evt.r,y,m,d),.done λrec=>?_,?_⟩
    ·rw [hst,Zf (by rw [h1];exact h2)];rfl
    ·rw [Yj,if_neg hnil,he]
     show (([]:J2),R.2.2.2.2.2.2.2.2,R.2.2.2.2.2.1)=([],e.2,e.1)
     rw [h1,h3]
   |
    inr r=>
    rw [he] at ho
    obtain ⟨q,hq⟩:=ho
    obtain ⟨h1,h2,k,_,h3⟩:=Qwr he
    obtain ⟨x,hx,hx2⟩:=ih r.2 q r.1.y r.1.m r.1.d (acc++[r.1]) (by omega) (λt ht=>hl t (by rw [h3] at ht;exact Z70 ht)) (by simp;omega)
    refine ⟨x,.step (λrec=>?_) hx,?_⟩
    ·rw [hst,hq]
     simp only [Z87,List.map_cons,List.map_nil];rfl
    ·rw [Yj,if_neg hnil,he];exact hx2
theorem Qjc (s:J1):(lexOf s).1.length<=s.length/\∀t∈(lexOf s).1,(t.k=2->dtd t.s=true)/\t.s.length<=s.length/\0<=t.p/\t.p<=s.length:=by
 have h:=W3 false s
 obtain ⟨h1,h2⟩:=Qwb s.length (skp false s).length (skp false s) (Z5 _) h
 exact ⟨by unfold lexOf;omega,λt ht=>by obtain ⟨a,b,c⟩:=h2 t ht;exact ⟨a,by omega,c⟩⟩
theorem Qj7 {s:J1} (hs:s.length<=1048576) (hk:(lexOf s).1.length<=9999):z97.F s=some (encM (Y3 s)):=by
 obtain ⟨h1,h2⟩:=Qjc s
 unfold z97.F Y3
 rw [lex_Lex,if_neg (by omega),Zb]
 by_cases he:(lexOf s).2.2=0
 ·rw [if_neg (λh=>h he)]
  simp only [he,decide_true,Zn,Zc]
  obtain ⟨x,r,hx⟩:=Qr2 (s.length:Int) (lexOf s).1.length (lexOf s).1 0 0 0 0 [] (Z5 _) (λt ht=>(h2 t ht).1) (by simp;omega)
  have e:z97.l0 ((lexOf s).1.map Tk.v,(s.length:Int),0,[],0,0,0)=some x:=r.lfp
  rw [e,<-hx]
  cases x<;>rfl
 ·rw [if_pos he]
  simp only [he,decide_false,Zo,Zd]
  rfl
theorem script_Parse {s:J1} (hs:s.length<=9999):z97.F s=some (encM (Y3 s)):=
 Qj7 (by omega) (by have:=(Qjc s).1;omega)
def cd (v:Int):UInt8:=UInt8.ofNat (48+v%10).toNat
theorem Y7 {v:Int} (hv:0<=v):((cd v).toNat:Int)=48+v%10:=by
 unfold cd
 rw [UInt8.toNat_ofNat']
 omega
def dtxt (y m d:Int):J1:=[cd (y/10/10/10),cd (y/10/10),cd (y/10),cd y,45,cd (m/10),cd m,45,cd (d/10),cd d]
theorem Jy {n:Int} (hn:0<=n/\n<1000000) {b1 b2 i:Nat} (hi:i<b2) {L:J0} (hL:b1+i<L.length) (hb:i<100000) (rec:(Int×Int×J0)->Option (Int×Int×J0)) :
  z139.l0P b1 b2 rec some (n,(i:Int),L)=rec (n/10,(i:Int)-1,L.set (b1+i) (48+n%10)):=by
 have e1:Int.tdiv n 10=n/10:=Int.tdiv_eq_ediv_of_nonneg hn.1
 have e2:Int.tmod n 10=n%10:=Z64 hn.1
 unfold z139.l0P
 simp only
 rw [bif_t (by omega),if_pos (by omega),Zi,if_pos hL,e1,e2,Qg (n:=n/10) (by omega) (by omega),Qg (n:=(i:Int)-1) (by omega) (by omega),Qg (n:=48+n%10) (by omega) (by omega),Qaj (by omega) (by omega)]
theorem Qgj {n:Int} {b1 b2:Nat} {L:J0}:Runs (λrec x=>z139.l0P b1 b2 rec some x) (n,(-1:Int),L) (n,-1,L):=.done λrec=>by
 unfold z139.l0P
 simp only
 rw [Qc (by decide)]
theorem date_Print {y m d:Int} (h:right y m d):z139.F y m d=some (dtxt y m d,0):=by
 obtain ⟨hy,hm1,hm2,hd1,hd2⟩:=J9 h
 have r1:z139.l0 0 4 (y,3,[48,48,48,48,45,48,48,45,48,48])=some (y/10/10/10/10,-1,[48+y/10/10/10%10,48+y/10/10%10,48+y/10%10,48+y%10,45,48,48,45,48,48]):=by
  refine Runs.lfp ?_
  refine .step (Jy (b1:=0) (b2:=4) (i:=3) (by omega) (by decide) (by decide) (by decide)) ?_
  refine .step (Jy (b1:=0) (b2:=4) (i:=2) (by omega) (by decide) (show 2<10 by decide) (by decide)) ?_
  refine .step (Jy (b1:=0) (b2:=4) (i:=1) (by omega) (by decide) (show 1<10 by decide) (by decide)) ?_
  refine .step (Jy (b1:=0) (b2:=4) (i:=0) (by omega) (by decide) (show 0<10 by decide) (by decide)) ?_
  exact Qgj
 have r2:∀(a b c e:Int),z139.l0 5 (7-5) (m,wr .i64 ((((7-5):Nat):Int)-(1:Int)),[a,b,c,e,45,48,48,45,48,48])=some (m/10/10,-1,[a,b,c,e,45,48+m/10%10,48+m%10,45,48,48]):=λa b c e=>by
  rw [show wr .i64 ((((7-5):Nat):Int)-(1:Int))=1 by decide]
  refine Runs.lfp ?_
  refine .step (Jy (b1:=5) (b2:=2) (i:=1) (by omega) (by decide) (show 6<10 by decide) (by decide)) ?_
  refine .step (Jy (b1:=5) (b2:=2) (i:=0) (by omega) (by decide) (show 5<10 by decide) (by decide)) ?_
  exact Qgj
 have r3:∀(a b c e f g:Int),z139.l0 8 ([a,b,c,e,45,f,g,45,48,48].length-8) (d,wr .i64 ((((([a,b,c,e,45,f,g,45,48,48]:J0).length-8):Nat):Int)-(1:Int)),[a,b,c,e,45,f,g,45,48,48])=some (d/10/10,-1,[a,b,c,e,45,f,g,45,48+d/10%10,48+d%10]):=λa b c e f g=>by
  show z139.l0 8 2 (d,wr .i64 (((2:Nat):Int)-1),_)=_
  rw [show wr .i64 (((2:Nat):Int)-(1:Int))=1 by decide]
  refine Runs.lfp ?_
  refine .step (Jy (b1:=8) (b2:=2) (i:=1) (by omega) (by decide) (show 9<10 by decide) (by decide)) ?_
  refine .step (Jy (b1:=8) (b2:=2) (i:=0) (by omega) (by decide) (show 8<10 by decide) (by decide)) ?_
  exact Qgj
 unfold z139.F
 rw [date_Check,if_pos h,Zb]
 rw [show (!decide ((0:Int)=0))=false from rfl]
 simp only [Zc]
 rw [if_pos (by decide),r1,Zb]
 simp only
 rw [if_pos (by simp only [Z8,Z31];decide),r2,Zb]
 simp only
 rw [if_pos (by simp only [Z8,Z31];decide),r3,Zb]
 rfl
def Wj (k:Int):J1:=We.getD k.toNat []
def vtxt (e:Evt):J1:=if e.k=2\/e.v=kDue then e.v else decTxt (mWhole e.v).1.natAbs 2
def etxt (e:Evt):J1:=Wj e.k++32::dtxt e.y e.m e.d++(if e.k=3 then [] else 32::vtxt e)++[59,10]
structure Wb (e:Evt):Prop where
 k:0<=e.k/\e.k<=3
 d:right e.y e.m e.d
 v:mVal e.k e.v=0
 l:e.v.length<=4096
def Seq:Int->Int->Int->List Evt->Prop
 |_,_,_,[]=>True
 |y,m,d,e::t=>¬dcmp e.y e.m e.d y m d<0/\Wb e/\Seq e.y e.m e.d t
theorem Qcd {v:J1} (h:Jr v=0):(mWhole v).2=0/\0<(mWhole v).1/\(mWhole v).1<=10^30:=by
 have e:mMoney v=if (mWhole v).2≠0 then (0,(mWhole v).2) else if (mWhole v).1<0\/10^30<(mWhole v).1 then (0,19) else ((mWhole v).1,0):=rfl
 unfold Jr at h
 by_cases h1:(mWhole v).2=0
 ·rw [if_neg (λhh=>hh h1)] at e
  by_cases h2:(mWhole v).1<0\/10^30<(mWhole v).1
  ·rw [if_pos h2] at e;rw [e] at h;simp at h
  ·rw [if_neg h2] at e
   rw [e] at h
   by_cases h3:(mWhole v).1=0
   ·simp [h3] at h
   ·exact ⟨h1,by omega,by omega⟩
 ·rw [if_pos h1] at e
  rw [e] at h
  simp [h1] at h
theorem Wb.paid {e:Evt} (h:Wb e) (h2:¬(e.k=2\/e.v=kDue)) (h3:e.k≠3):Jr e.v=0:=by
 have:=h.v
 unfold mVal at this
 rw [if_neg h3,if_neg (λhh=>h2 (.inl hh)),if_neg (λhh=>h2 (.inr hh.2))] at this
 exact this
theorem Qr6 (c:Nat):Lib.repeatL [48] c=List.replicate c 48:=by
 induction c with
 |zero=>rfl
 |succ c ih=>show 48::Lib.repeatL [48] c=_;rw [ih];rfl
theorem dump_Point {n:Nat} (hn:n<=10^30):z141.F (lb (Int.natAbs (n:Int))) (neg (n:Int))=some (decTxt n 2):=by
 have hl:(txt n).length<=31:=Qbh (by omega) (by decide)
 have hsz:sz n<=100000000:=Z48 (Qx (k:=31) (by omega)) (by decide)
 have hp:=Qay n 2
 unfold z141.F z52.F z51.F
 rw [Qc (by decide),Zb,show decide ((2:Int)>64)=false from rfl]
 simp only [Zc,Zb]
 have hit:itxt (n:Int)=txt n:=by unfold itxt;rw [if_neg (by omega)];rfl
 have hcut:cutNeg (txt n)=(txt n,false):=Qlv (Qck n)
 have key:z140.F (lb (Int.natAbs (n:Int))) (neg (n:Int)) 2=some (decTxt n 2):=by
  unfold z140.F
  rw [Qlh (by exact hsz),Zb,Qft,Zb,hit,hcut]
  simp only
  have e1:wr .i64 ((2:Int)+1)=3:=by decide
  rw [e1,Qg (n:=3-((txt n).length:Int)) (by omega) (by omega)]
  have e2:z5.F [48] (if 3-((txt n).length:Int)>0 then 3-((txt n).length:Int) else 0)=some (List.replicate (2+1-(txt n).length) 48):=by
   unfold z5.F
   have:(if 3-((txt n).length:Int)>0 then 3-((txt n).length:Int) else 0)=((2+1-(txt n).length:Nat):Int):=by split<;>omega
   rw [this,if_pos (by simp only [Z16];omega),Zi,Qr6]
  rw [e2,Zb,show List.replicate (2+1-(txt n).length) 48++txt n=padded n 2 from rfl]
  have e3:wr .i64 (((padded n 2).length:Int)-2)=(((padded n 2).length-2:Nat):Int):=by rw [Qg (by omega) (by omega)];omega
  rw [e3,Zi]
  have lt:((padded n 2).take ((padded n 2).length-2)).length<=100:=by rw [Z13];omega
  have ld:((padded n 2).drop ((padded n 2).length-2)).length<=100:=by rw [Z22];omega
  rw [if_pos (by rw [List.length_replicate];omega),bif_t (by decide),if_pos (by omega),if_pos (by simp only [Z16];omega),if_pos (by omega),if_pos (by rw [Z3];simp only [Z16];omega)]
  unfold z140.j4
  simp only [Zc,Z51]
  rfl
 rw [key];rfl
theorem Qgo {e:Evt} (h:Wb e) (h3:e.k≠3):(vtxt e).length<=4096:=by
 unfold vtxt
 split
 ·exact h.l
 ·rename_i h2
  obtain ⟨_,p1,p2⟩:=Qcd (h.paid h2 h3)
  have hl:(txt (mWhole e.v).1.natAbs).length<=31:=Qbh (by omega) (by decide)
  have hp:=Qay (mWhole e.v).1.natAbs 2
  unfold decTxt
  rw [Z3,Z8,Z13,Z22]
  omega
theorem Qer {k:Int} (hk:0<=k/\k<=3):(Wj k).length<=6:=by
 have:k=0\/k=1\/k=2\/k=3:=by omega
 rcases this with rfl|rfl|rfl|rfl<;>decide
theorem Qhz {e:Evt} (h:Wb e):0<(etxt e).length/\(etxt e).length<=5000:=by
 have h1:=Qer h.k
 have h2:(dtxt e.y e.m e.d).length=10:=rfl
 unfold etxt
 by_cases h3:e.k=3
 ·rw [if_pos h3];simp only [Z3,Z8,Z31];omega
 ·have:=Qgo h h3
  rw [if_neg h3];simp only [Z3,Z8,Z31];omega
theorem Qql (a b:J1):Lib.join [a,b] [32]=a++32::b:=by
 unfold Lib.join;simp [List.intercalate]
theorem Qqw (a b c:J1):Lib.join [a,b,c] [32]=a++32::b++32::c:=by
 unfold Lib.join;simp [List.intercalate]
theorem script_text {e:Evt} (h:Wb e):z142.F e.k e.y e.m e.d e.v=some (etxt e):=by
 have hk:=h.k
 have h1:=Qer h.k
 have h2:(dtxt e.y e.m e.d).length=10:=rfl
 have hw:We.getD e.k.toNat []=Wj e.k:=rfl
 have last:∀V:J1,V.length<=4096->(if (([We.getD e.k.toNat [],dtxt e.y e.m e.d]:List J1).length+([V]:List J1).length)*16<=140737488355328 then ((z6.F ([We.getD e.k.toNat [],dtxt e.y e.m e.d]++[V]) ([32]:J1)).bind λr7=>(if r7.length+([59,10]:J1).length<=9223372036854775807 then (some (r7++([59,10]:J1))) else none)) else none)=some (Wj e.k++32::dtxt e.y e.m e.d++32::V++[59,10]):=λV hV=>by
  rw [if_pos (by show (2+1)*16<=_;decide),hw]
  unfold z6.F
  rw [show [Wj e.k,dtxt e.y e.m e.d]++[V]=[Wj e.k,dtxt e.y e.m e.d,V] from rfl,Qqw]
  rw [if_pos ⟨by show 3<=_;decide,by simp only [Z3,Z8];omega⟩,Zb,if_pos (by simp only [Z3,Z8,Z31];omega)]
 unfold z142.F
 rw [date_Print h.d,Zb,show z76.F=some We from rfl,Zb,if_pos (by show 0<=e.k/\e.k<((4:Nat):Int);omega)]
 simp only
 unfold etxt
 by_cases h3:e.k=3
 ·rw [bif_t h3,if_pos h3,hw]
  unfold z6.F
  rw [Qql,if_pos ⟨by show 2<=_;decide,by simp only [Z3,Z8];omega⟩,Zb,if_pos (by simp only [Z3,Z8,Z31];omega)]
  simp
 ·rw [Qc h3,if_neg h3]
  have hv:=Qgo h h3
  unfold vtxt at hv ⊢
  by_cases h4:e.k=2
  ·rw [bif_t h4]
   rw [if_pos (show e.k=2\/e.v=kDue from .inl h4)] at hv ⊢
   unfold z142.j3
   simp only [Zd]
   exact last _ hv
  ·rw [Qc h4]
   unfold z142.j3
   by_cases h5:e.v=kDue
   ·rw [Zt (show e.v=[100,117,101] from h5)]
    rw [if_pos (show e.k=2\/e.v=kDue from .inr h5)] at hv ⊢
    simp only [Zd]
    exact last _ hv
   ·rw [Zf (show ¬e.v=[100,117,101] from h5)]
    have h6:¬(e.k=2\/e.v=kDue):=λhh=>hh.elim h4 h5
    rw [if_neg h6] at hv ⊢
    simp only [Zc]
    obtain ⟨p0,p1,p2⟩:=Qcd (h.paid h6 h3)
    have hn:((mWhole e.v).1.natAbs:Int)=(mWhole e.v).1:=by omega
    rw [whole_Parse,Zb]
    have hp:=dump_Point (n:=(mWhole e.v).1.natAbs) (by omega)
    rw [hn] at hp
    rw [hp,Zb]
    exact last _ hv
theorem script_wrong {e:Evt} (h:Wb e) {y m d:Int} (hs:¬dcmp e.y e.m e.d y m d<0):z137.F e.k e.y e.m e.d e.v y m d=some 0:=by
 have hk:=h.k
 unfold z137.F
 rw [Qc (by omega),Zf (by omega)]
 unfold z137.j1
 simp only [Zc]
 rw [date_Check,if_pos h.d,Zb,show (!decide ((0:Int)=0))=false from rfl]
 simp only [Zc]
 rw [date_Cmp,Zb,Qc hs,script_value hk,h.v];rfl
theorem eK {R:Type} (t:Evt) (K:Int->Option R):V.asInt .i64 ((Evt.r t).getD 0 .undef) K=K t.k:=rfl
theorem eY {R:Type} (t:Evt) (K:Int->Option R):V.asInt .i64 ((Evt.r t).getD 1 .undef) K=K t.y:=rfl
theorem eM {R:Type} (t:Evt) (K:Int->Option R):V.asInt .i64 ((Evt.r t).getD 2 .undef) K=K t.m:=rfl
theorem eD {R:Type} (t:Evt) (K:Int->Option R):V.asInt .i64 ((Evt.r t).getD 3 .undef) K=K t.d:=rfl
theorem eV {R:Type} (t:Evt) (K:J1->Option R):V.asStr ((Evt.r t).getD 4 .undef) K=K t.v:=rfl
theorem Jc {L:List Evt} {i:Nat} (h:i<L.length):(L.map Evt.r).getD i []=Evt.r L[i]:=by
 rw [Zl,Z85,Z1 h];rfl
theorem Qk6 {L:List Evt} (hL:L.length<=10000):∀(f i:Nat) (y m d:Int),i+f=L.length->Seq y m d (L.drop i)->∃x,Runs (λrec x=>z138.l0P (L.map Evt.r) (L.length:Int) rec some x) ((i:Int),y,m,d) (.inl x)
 |
  0,i,y,m,d,h,_=>by
  refine ⟨((i:Int),y,m,d),.done λrec=>?_⟩
  unfold z138.l0P
  simp only
  rw [Qc (by omega)]
 |
  f+1,i,y,m,d,h,hs=>by
  have hi:i<L.length:=by omega
  rw [Z17 hi] at hs
  obtain ⟨s1,s2,s3⟩:=hs
  obtain ⟨x,hx⟩:=Qk6 hL f (i+1) _ _ _ (by omega) s3
  refine ⟨x,.step (λrec=>?_) hx⟩
  have l2:(L.map Evt.r).length=L.length:=by simp
  unfold z138.l0P
  simp only
  rw [bif_t (by omega),if_pos (by omega),Zi,Jc hi]
  simp only [eK,eY,eM,eD,eV]
  rw [script_wrong s2 s1,Zb,Qg (by omega) (by omega)];rfl
theorem script_Check {L:List Evt} (hL:L.length<=10000) (hs:Seq 0 0 0 L):z138.F (L.map Evt.r)=some (0,0):=by
 have l2:(L.map Evt.r).length=L.length:=by simp
 obtain ⟨x,hx⟩:=Qk6 hL L.length 0 0 0 0 (by omega) hs
 have e:z138.l0 (L.map Evt.r) (L.length:Int) (0,0,0,0)=some (.inl x):=hx.lfp
 unfold z138.F
 rw [l2,Qc (by omega),e];rfl
def stxt (L:List Evt):J1:=(L.map etxt).flatten
theorem Qbv (e:Evt) (t:List Evt):stxt (e::t)=etxt e++stxt t:=by simp [stxt]
def Wn (s:J1):J0:=s.map λc=>(c.toNat:Int)
theorem Qpt (s:J1):(Wn s).map (λn=>UInt8.ofNat n.toNat)=s:=by
 unfold Wn
 rw [List.map_map]
 refine (Z75 λb _=>?_).trans (List.map_id s)
 show UInt8.ofNat ((b.toNat:Int)).toNat=b
 simp
theorem Qvr (s:J1):(Wn s).all Jh=true:=by
 unfold Wn
 rw [Z14]
 intro n hn
 obtain ⟨b,_,rfl⟩:=List.mem_map.1 hn
 have:=b.toNat_lt
 simp only [Jh,Z4,decide_eq_true_eq]
 omega
theorem Qdy:∀{L:List Evt} {y m d:Int},Seq y m d L->∀e∈L,Wb e
 |[],_,_,_,_,e,he=>by simp at he
 |
  a::t,_,_,_,h,e,he=>by
  rcases Z62.1 he with rfl|he
  ·exact h.2.1
  ·exact Qdy h.2.2 e he
theorem Qij {L:List Evt} (hL:L.length<=10000) (hok:∀e∈L,Wb e):∀(f i:Nat) (T:J1),i+f=L.length->T.length<=5000*i->Runs (λrec x=>z143.l0P (L.map Evt.r) (L.length:Int) rec some x) ((i:Int),Wn T) ((L.length:Int),Wn (T++stxt (L.drop i)))
 |
  0,i,T,h,hT=>by
  refine .done λrec=>?_
  unfold z143.l0P
  simp only
  rw [Qc (by omega),Z55 (by omega),show (i:Int)=(L.length:Int) by omega]
  simp [stxt]
 |
  f+1,i,T,h,hT=>by
  have hi:i<L.length:=by omega
  have ho:=hok L[i] (Z9 hi)
  have hl:=Qhz ho
  have l2:(L.map Evt.r).length=L.length:=by simp
  have ih:=Qij hL hok f (i+1) (T++etxt L[i]) (by omega) (by rw [Z3];omega)
  have e:T++etxt L[i]++stxt (L.drop (i+1))=T++stxt (L.drop i):=by
   rw [Z17 hi,Qbv,Z51]
  rw [e] at ih
  refine .step (λrec=>?_) ih
  unfold z143.l0P
  simp only
  rw [bif_t (by omega),if_pos (by omega),Zi,Jc hi]
  simp only [eK,eY,eM,eD,eV]
  rw [script_text ho,Zb,if_pos (by unfold Wn;rw [Z34,Z34];omega),Qg (by omega) (by omega)]
  unfold Wn
  rw [Z87];rfl
theorem script_Print_nil:z143.F ([]:J2)=some ([],0):=by
 unfold z143.F
 have h:=script_Check (L:=[]) (by decide) trivial
 rw [List.map_nil] at h
 rw [h,Zb,show (!decide ((0:Int)=0))=false from rfl]
 simp only [Zc]
 rw [Qc (by decide)];rfl
theorem script_Print {L:List Evt} (hL:L.length<=10000) (hne:L≠[]) (hs:Seq 0 0 0 L):z143.F (L.map Evt.r)=some (stxt L,0):=by
 have hpos:=Z21.2 hne
 have hok:=Qdy hs
 have ho:=hok L[0] (Z9 hpos)
 have hl:=Qhz ho
 have l2:(L.map Evt.r).length=L.length:=by simp
 have r:=Qij hL hok (L.length-1) 1 (etxt L[0]) (by omega) (by omega)
 have e1:etxt L[0]++stxt (L.drop 1)=stxt L:=by
  conv=>rhs;rw [<-Z45 (l:=L),Z17 hpos,Qbv]
 rw [e1] at r
 have e:z143.l0 (L.map Evt.r) (L.length:Int) (1,Wn (etxt L[0]))=some ((L.length:Int),Wn (stxt L)):=r.lfp
 have hsl:0<(Wn (stxt L)).length:=by unfold Wn;rw [Z34,<-e1,Z3];omega
 unfold z143.F
 rw [script_Check hL hs,Zb,show (!decide ((0:Int)=0))=false from rfl]
 simp only [Zc]
 rw [l2,bif_t (by omega),if_pos (by omega),Jc hpos]
 simp only [eK,eY,eM,eD,eV]
 rw [script_text ho,Zb]
 change (if (([]:J0).length+(Wn (etxt L[0])).length)*1<=140737488355328 then ((z143.l0 (L.map Evt.r) (L.length:Int) (1,[]++Wn (etxt L[0]))).bind _) else none)=_
 rw [if_pos (by unfold Wn;rw [Z34];simp only [Z31];omega),List.nil_append,e,Zb]
 simp only
 rw [if_pos hsl,if_pos ⟨trivial,hsl,Qvr _⟩,Qpt]
def lxF (N:Nat):Nat->J1->List Tk×Int×Int
 |0,_=>([],0,0)
 |
  f+1,r=>if r=[] then ([],0,0) else
  if (tokOf r).2.2=0 then
   if (lxF N f (skp false (r.drop (tokOf r).2.1.length))).2.2=0 then (⟨(tokOf r).1,(tokOf r).2.1,(N:Int)-r.length⟩::(lxF N f (skp false (r.drop (tokOf r).2.1.length))).1,0,0) else ([],(lxF N f (skp false (r.drop (tokOf r).2.1.length))).2.1,(lxF N f (skp false (r.drop (tokOf r).2.1.length))).2.2)
  else ([],(N:Int)-r.length,(tokOf r).2.2)
theorem Qs6 (N:Nat):∀(f:Nat) (r:J1),r.length<=f->lxF N f r=lx N r:=by
 intro f
 induction f with
 |
  zero=>
  intro r h
  have:r=[]:=Z7 (by omega)
  subst this
  rw [lx_nil];rfl
 |
  succ f ih=>
  intro r h
  rw [lxF]
  by_cases hr:r=[]
  ·rw [if_pos hr,hr,lx_nil]
  ·rw [if_neg hr]
   by_cases he:(tokOf r).2.2=0
   ·obtain ⟨l1,l2⟩:=Qel hr he
    have h4:=W3 false (r.drop (tokOf r).2.1.length)
    rw [Z22] at h4
    rw [if_pos he,Qbc hr he,ih _ (by omega)]
   ·rw [if_neg he,Qcp hr he]
def Qkc (s:J1):List Evt×Int×Int:=
 if (lxF s.length s.length (skp false s)).2.2≠0 then ([],(lxF s.length s.length (skp false s)).2.1,(lxF s.length s.length (skp false s)).2.2) else Yj (s.length:Int) (lxF s.length s.length (skp false s)).1.length (lxF s.length s.length (skp false s)).1 0 0 0 []
theorem Qnp (s:J1):Qkc s=Y3 s:=by
 unfold Qkc Y3 lexOf
 rw [Qs6 _ _ _ (W3 false s)]
def wkA:J1:=[112,97,121,32,50,48,50,52,45,48,50,45,48,49,32,100,117,101,59,32,114,101,115,101,116,32,50,48,50,52,45,48,51,45,49,53,32,53,46,53,59]
def wkB:J1:=[112,97,115,115,32,50,48,50,52,45,48,50,45,48,49,59,32,112,97,115,115,32,50,48,50,52,45,48,49,45,48,49,59]
def wkL:List Evt:=[⟨0,2024,2,1,kDue⟩,⟨2,2024,3,15,[53,46,53]⟩]
theorem wk1:Y3 wkA=(wkL,0,0):=by rw [<-Qnp];decide +kernel
theorem wk2:Y3 wkB=([],22,12):=by rw [<-Qnp];decide +kernel
theorem Qui:Seq 0 0 0 wkL:=by
 refine ⟨by decide +kernel,⟨by decide,by decide +kernel,by decide +kernel,by decide⟩,by decide +kernel,⟨by decide,by decide +kernel,by decide +kernel,by decide⟩,trivial⟩
theorem wkT:stxt wkL=[112,97,121,32,50,48,50,52,45,48,50,45,48,49,32,100,117,101,59,10,114,101,115,101,116,32,50,48,50,52,45,48,51,45,49,53,32,53,46,53,59,10]:=by decide +kernel
theorem Qnc:z144.F=some true:=by
 unfold z144.F
 have e1:z97.F wkA=some (encM (wkL,0,0)):=by rw [script_Parse (by decide),wk1]
 have e2:z97.F wkB=some (encM ([],22,12)):=by rw [script_Parse (by decide),wk2]
 have e3:z143.F (wkL.map Evt.r)=some (stxt wkL,0):=script_Print (by decide) (by decide) Qui
 change ((z97.F wkA).bind _)=_
 rw [e1,Zb]
 change ((z143.F (wkL.map Evt.r)).bind _)=_
 rw [e3,Zb]
 change ((z97.F wkB).bind _)=_
 rw [e2,Zb,wkT]
 rfl
theorem Qk7 (L:List Evt) (hL:L.length<=1000000):∀(f i:Nat),i+f=L.length->∃x,Runs (λrec x=>z145.l0P (L.map Evt.r) (L.map Evt.r) (L.length:Int) rec some x) (i:Int) (.inl x)
 |
  0,i,h=>by
  refine ⟨(i:Int),.done λrec=>?_⟩
  unfold z145.l0P
  rw [Qc (by omega)]
 |
  f+1,i,h=>by
  have hi:i<L.length:=by omega
  obtain ⟨x,hx⟩:=Qk7 L hL f (i+1) (by omega)
  refine ⟨x,.step (λrec=>?_) hx⟩
  have l2:(L.map Evt.r).length=L.length:=by simp
  have c:(0:Int)<=(i:Int)/\(i:Int)<((L.map Evt.r).length:Int):=by omega
  unfold z145.l0P
  rw [bif_t (by omega),if_pos c,Zi,Jc hi]
  simp only [eK,eY,eM,eD,eV,if_pos c,decide_true,Bool.and_self,Zn,Zc]
  rw [Qg (by omega) (by omega)];rfl
theorem Qok (L:List Evt) (hL:L.length<=1000000):z145.F (L.map Evt.r) (L.map Evt.r)=some true:=by
 have l2:(L.map Evt.r).length=L.length:=by simp
 obtain ⟨x,hx⟩:=Qk7 L hL L.length 0 (by omega)
 have e:z145.l0 (L.map Evt.r) (L.map Evt.r) (L.length:Int) 0=some (.inl x):=hx.lfp
 unfold z145.F
 rw [l2,Zt (show ((L.length:Nat):Int)=(L.length:Nat) from rfl),e];rfl
structure NumTok (v:List UInt8):Prop where
 hd:∃b t,v=b::t/\ltr b=false/\(dgt b||decide (b.toNat=45))=true
 all:∀x∈v,nmr x=true
 dtd:dtd v=false
 dec:(mDec v).2.2=0
structure Can (e:Evt):Prop where
 rate:e.k=2->NumTok e.v
 paid:e.k<2->(e.v=kDue/\e.k=0)\/∃n:Nat,0<n/\n<=10^30/\e.v=txt n
 len:e.v.length<=800
theorem Qhr {p:UInt8->Bool} {c:UInt8} (hc:p c=false) (R:J1):∀(T:J1),(∀x∈T,p x=true)->(T++c::R).takeWhile p=T
 |[],_=>List.takeWhile_cons_of_neg (by rw [hc];simp)
 |
  b::t,h=>by
  rw [List.cons_append,List.takeWhile_cons_of_pos (h b (by simp)),Qhr hc R t λx hx=>h x (by simp [hx])]
theorem Qfm {b:UInt8} {t:J1} (hb:ltr b=true) (h:∀x∈b::t,wrd x=true) {c:UInt8} (hc:wrd c=false) (R:J1):tokOf (b::t++c::R)=(0,b::t,0):=by
 unfold tokOf
 rw [show (b::t++c::R).getD 0 0=b from rfl,if_pos hb,Qhr hc R (b::t) h]
theorem Qnu {b:UInt8} {t:J1} (hb:ltr b=false) (hd:(dgt b||decide (b.toNat=45))=true) (h:∀x∈b::t,nmr x=true) {c:UInt8} (hc:nmr c=false) (R:J1) :
  tokOf (b::t++c::R)=if dtd (b::t) then (2,b::t,0) else if (mDec (b::t)).2.2=0 then (1,b::t,0) else (0,[],5):=by
 unfold tokOf
 rw [show (b::t++c::R).getD 0 0=b from rfl,if_neg (by rw [hb];simp),if_pos hd,Qhr hc R (b::t) h]
theorem Qtq (R:J1):tokOf (59::R)=(3,[59],0):=by
 unfold tokOf
 rw [show (59::R).getD 0 0=59 from rfl,if_neg (by decide),if_neg (by decide),if_pos (by decide)];rfl
theorem Qbg {N:Nat} {k:Int} {T R:J1} {l:List Tk} (ht:tokOf (T++R)=(k,T,0)) (hne:T≠[]) (hl:lx N (skp false R)=(l,0,0)):∃p,lx N (T++R)=(⟨k,T,p⟩::l,0,0):=by
 have h0:(tokOf (T++R)).2.2=0:=by rw [ht]
 have h1:(tokOf (T++R)).2.1=T:=by rw [ht]
 have h2:(tokOf (T++R)).1=k:=by rw [ht]
 refine ⟨(N:Int)-(T++R).length,?_⟩
 rw [Qbc (by simp [hne]) h0,h1,h2,List.drop_left,hl]
 rfl
theorem Qh4 (R:J1):skp false (32::R)=skp false R:=by rw [skp,if_neg (by decide),if_pos (by decide)]
theorem Qqf (R:J1):skp false (10::R)=skp false R:=by rw [skp,if_neg (by decide),if_pos (by decide)]
theorem Qdu {b:UInt8} (h1:b.toNat≠35) (h2:bln b=false) (R:J1):skp false (b::R)=b::R:=by rw [skp,if_neg h1,if_neg (by rw [h2];simp)]
theorem Wf {v:Int} (hv:0<=v):dgt (cd v)=true:=by
 rw [Qhj,Y7 hv];exact Zt (by omega)
theorem Yt {b:UInt8} (h:dgt b=true):nmr b=true:=by simp [nmr,h]
theorem Qht {b:UInt8} (h:dgt b=true):ltr b=false:=by
 simp only [dgt,Z4,decide_eq_true_eq] at h
 unfold ltr;rw [Zf (by omega)];rfl
theorem Qqv {y m d:Int} (hy:0<=y) (hm:0<=m) (hd:0<=d):dtd (dtxt y m d)=true:=by
 have a0:=Wf (v:=y/10/10/10) (by omega)
 have a1:=Wf (v:=y/10/10) (by omega)
 have a2:=Wf (v:=y/10) (by omega)
 have a3:=Wf (v:=y) hy
 have a5:=Wf (v:=m/10) (by omega)
 have a6:=Wf (v:=m) hm
 have a8:=Wf (v:=d/10) (by omega)
 have a9:=Wf (v:=d) hd
 have e:∀i,i<10->(if i=4\/i=7 then decide (((dtxt y m d).getD i 0).toNat=45) else dgt ((dtxt y m d).getD i 0))=true:=λi hi=>by
  have:i=0\/i=1\/i=2\/i=3\/i=4\/i=5\/i=6\/i=7\/i=8\/i=9:=by omega
  rcases this with rfl|rfl|rfl|rfl|rfl|rfl|rfl|rfl|rfl|rfl
  ·exact a0
  ·exact a1
  ·exact a2
  ·exact a3
  ·rfl
  ·exact a5
  ·exact a6
  ·rfl
  ·exact a8
  ·exact a9
 unfold dtd
 rw [Z4]
 exact ⟨rfl,Z14.2 λi hi=>e i (by simpa using hi)⟩
theorem Qp3 {y m d:Int} (h:right y m d):mDate (dtxt y m d)=(y,m,d,0):=by
 obtain ⟨hy,hm1,hm2,hd1,hd2⟩:=J9 h
 have e1:tv 0 ((dtxt y m d).take 4)=y:=by
  show 10*(10*(10*(10*0+((cd (y/10/10/10)).toNat:Int)-48)+((cd (y/10/10)).toNat:Int)-48)+((cd (y/10)).toNat:Int)-48)+((cd y).toNat:Int)-48=y
  rw [Y7 (by omega),Y7 (by omega),Y7 (by omega),Y7 (by omega)];omega
 have e2:tv 0 (((dtxt y m d).drop 5).take 2)=m:=by
  show 10*(10*0+((cd (m/10)).toNat:Int)-48)+((cd m).toNat:Int)-48=m
  rw [Y7 (by omega),Y7 (by omega)];omega
 have e3:tv 0 ((dtxt y m d).drop 8)=d:=by
  show 10*(10*0+((cd (d/10)).toNat:Int)-48)+((cd d).toNat:Int)-48=d
  rw [Y7 (by omega),Y7 (by omega)];omega
 unfold mDate
 rw [e1,e2,e3,if_pos h]
theorem Qik {y m d:Int} (h:right y m d) {c:UInt8} (hc:nmr c=false) (R:J1):tokOf (dtxt y m d++c::R)=(2,dtxt y m d,0):=by
 obtain ⟨hy,hm1,hm2,hd1,hd2⟩:=J9 h
 have hdt:=Qqv (y:=y) (m:=m) (d:=d) (by omega) (by omega) (by omega)
 have hg:∀x∈dtxt y m d,nmr x=true:=λx hx=>by
  simp only [dtxt,Z62,List.not_mem_nil,or_false] at hx
  rcases hx with rfl|rfl|rfl|rfl|rfl|rfl|rfl|rfl|rfl|rfl
  ·exact Yt (Wf (by omega))
  ·exact Yt (Wf (by omega))
  ·exact Yt (Wf (by omega))
  ·exact Yt (Wf (by omega))
  ·rfl
  ·exact Yt (Wf (by omega))
  ·exact Yt (Wf (by omega))
  ·rfl
  ·exact Yt (Wf (by omega))
  ·exact Yt (Wf (by omega))
 have h0:=Wf (v:=y/10/10/10) (by omega)
 have:=Qnu (b:=cd (y/10/10/10)) (t:=(dtxt y m d).tail) (Qht h0) (by rw [h0];rfl) hg hc R
 rw [show cd (y/10/10/10)::(dtxt y m d).tail=dtxt y m d from rfl,if_pos hdt] at this
 exact this
theorem Quz {n:Nat} (hn:n<=10^30):NumTok (decTxt n 2)/\mDec (decTxt n 2)=((n:Int),2,0):=by
 have hl:(txt n).length<=31:=Qbh (by omega) (by decide)
 have hm:=Qu3 (n:=n) (k:=2) (by decide) (by omega)
 have hp:=Qay n 2
 have hpd:=Qi2 n 2
 have hdg:∀x∈padded n 2,dgt x=true:=λx hx=>by
  have:=hpd x hx
  unfold digit at this
  simp only [dgt,Z4,decide_eq_true_eq];exact this
 have hall:∀x∈decTxt n 2,dgt x=true\/x=46:=λx hx=>by
  unfold decTxt at hx
  rcases Z41.1 hx with hx|hx
  ·exact .inl (hdg x (Z52 hx))
  ·rcases Z62.1 hx with rfl|hx
   ·exact .inr rfl
   ·exact .inl (hdg x (Z70 hx))
 have hfirst:∃b t,decTxt n 2=b::t/\dgt b=true:=by
  cases hq:padded n 2 with
  |nil=>rw [hq] at hp;simp at hp
  |
   cons b t=>
   refine ⟨b,t.take ((padded n 2).length-2-1)++46::(padded n 2).drop ((padded n 2).length-2),?_,hdg b (by rw [hq];simp)⟩
   unfold decTxt
   conv=>lhs;arg 1;rw [hq]
   have:(b::t).length-2=((padded n 2).length-2-1)+1:=by rw [hq] at hp ⊢;omega
   rw [this,List.take_succ_cons];rfl
 obtain ⟨b,t,e,hb⟩:=hfirst
 refine ⟨⟨⟨b,t,e,Qht hb,by rw [hb];rfl⟩,λx hx=>?_,?_,by rw [hm]⟩,hm⟩
 ·rcases hall x hx with h|rfl
  ·exact Yt h
  ·rfl
 ·rw [Bool.eq_false_iff]
  intro hd
  obtain ⟨h10,_⟩:=Qa5 hd
  have h4:=Qc1 hd (i:=4) (.inl rfl)
  have hmem:(decTxt n 2).getD 4 0∈decTxt n 2:=by
   rw [Zl,Z1 (by omega)]
   exact Z9 _
  rcases hall _ hmem with h|h
  ·simp only [dgt,Z4,decide_eq_true_eq] at h;omega
  ·rw [h] at h4;simp at h4
def vk (e:Evt):Int:=if e.v=kDue then 0 else 1
theorem Qpn (h:NumTok kDue):False:=by
 obtain ⟨b,t,e,hb,_⟩:=h.hd
 have:b=100:=by simp only [kDue,List.cons.injEq] at e;exact e.1.symm
 subst this
 exact absurd hb (by decide)
theorem vtok {e:Evt} (ho:Wb e) (hc:Can e) (h3:e.k≠3) (R:J1):tokOf (vtxt e++59::R)=(vk e,vtxt e,0)/\vtxt e≠[]/\∀p,(mWorth e.k ⟨vk e,vtxt e,p⟩)=(0,e.v):=by
 have num:∀v:J1,NumTok v->tokOf (v++59::R)=(1,v,0)/\v≠[]:=λv hv=>by
  obtain ⟨b,t,e,hb,hd⟩:=hv.hd
  have:=Qnu hb hd (by rw [<-e];exact hv.all) (c:=59) (by decide) R
  rw [<-e,if_neg (by rw [hv.dtd];simp),if_pos hv.dec] at this
  exact ⟨this,by rw [e];simp⟩
 by_cases h2:e.k=2
 ·have hn:=hc.rate h2
  have hd:e.v≠kDue:=λhh=>Qpn (hh▸hn)
  have e1:vtxt e=e.v:=by unfold vtxt;rw [if_pos (.inl h2)]
  have e2:vk e=1:=by unfold vk;rw [if_neg hd]
  rw [e1,e2]
  refine ⟨(num _ hn).1,(num _ hn).2,λp=>?_⟩
  unfold mWorth
  have hv:=ho.v
  rw [h2] at hv ⊢
  rw [if_neg (by simp),if_neg (by simp),if_pos rfl,hv]
 ·have hk:=ho.k
  rcases hc.paid (by omega) with ⟨hd,h0⟩|⟨n,n1,n2,hv⟩
  ·have e1:vtxt e=kDue:=by unfold vtxt;rw [if_pos (.inr hd),hd]
   have e2:vk e=0:=by unfold vk;rw [if_pos hd]
   rw [e1,e2,hd]
   refine ⟨Qfm (b:=100) (t:=[117,101]) (by decide) (by decide) (by decide) R,by decide,λp=>?_⟩
   unfold mWorth
   rw [if_pos ⟨rfl,h0⟩,if_pos rfl]
  ·have hdg:=Qck n
   have hd:e.v≠kDue:=λhh=>by
    rw [hv] at hh
    have:=hdg 100 (by rw [hh];decide)
    unfold digit at this;simp at this
   have hl:(txt n).length<=31:=Qbh (by omega) (by decide)
   have e1:vtxt e=decTxt n 2:=by
    unfold vtxt;rw [if_neg (λhh=>hh.elim h2 hd),hv,Qsc (by omega)];rfl
   have e2:vk e=1:=by unfold vk;rw [if_neg hd]
   obtain ⟨d1,d2⟩:=Quz n2
   have hvl:=ho.v
   rw [e1,e2]
   refine ⟨(num _ d1).1,(num _ d1).2,λp=>?_⟩
   unfold mWorth
   have hi:itxt (n:Int)=e.v:=by rw [hv];unfold itxt;rw [if_neg (by omega)];rfl
   simp only [d2,hi,hvl]
   rw [if_neg (by omega),if_neg (by simp),if_neg h2,if_neg (by simp),if_neg (by simp)]
def Qcg:List Evt->List Tk->Prop
 |[],l=>l=[]
 |e::t,l=>∃p0 p1 p2 p3 l',l=⟨0,Wj e.k,p0⟩::⟨2,dtxt e.y e.m e.d,p1⟩::(if e.k=3 then ⟨3,[59],p3⟩::l' else ⟨vk e,vtxt e,p2⟩::⟨3,[59],p3⟩::l')/\Qcg t l'
theorem Qho {k:Int} (hk:0<=k/\k<=3):kindOf (Wj k)=k/\∃b t,Wj k=b::t/\ltr b=true/\(∀x∈b::t,wrd x=true):=by
 have:k=0\/k=1\/k=2\/k=3:=by omega
 rcases this with rfl|rfl|rfl|rfl
 ·exact ⟨by decide,112,[97,121],rfl,by decide,by decide⟩
 ·exact ⟨by decide,112,[114,101,112,97,121],rfl,by decide,by decide⟩
 ·exact ⟨by decide,114,[101,115,101,116],rfl,by decide,by decide⟩
 ·exact ⟨by decide,112,[97,115,115],rfl,by decide,by decide⟩
theorem Qu0 {e:Evt} (hk:0<=e.k/\e.k<=3) (S:J1):skp false (etxt e++S)=etxt e++S:=by
 obtain ⟨_,b,t,hw,hb,_⟩:=Qho hk
 have hbn:97<=b.toNat/\b.toNat<=122:=by simpa [ltr] using hb
 unfold etxt
 rw [hw]
 refine Qdu (by omega) ?_ _
 unfold bln
 rw [Zf (show ¬b.toNat=32 by omega),Zf (show ¬b.toNat=9 by omega),Zf (show ¬b.toNat=10 by omega),Zf (show ¬b.toNat=13 by omega)];rfl
theorem Qo3 {N:Nat} {e:Evt} (ho:Wb e) (hc:Can e) {S:J1} {l:List Tk} (hl:lx N (skp false S)=(l,0,0)) :
  ∃p0 p1 p2 p3,lx N (etxt e++S)=(⟨0,Wj e.k,p0⟩::⟨2,dtxt e.y e.m e.d,p1⟩::(if e.k=3 then ⟨3,[59],p3⟩::l else ⟨vk e,vtxt e,p2⟩::⟨3,[59],p3⟩::l),0,0):=by
 obtain ⟨_,b,t,hw,hb,hall⟩:=Qho ho.k
 obtain ⟨hy,hm1,hm2,hd1,hd2⟩:=J9 ho.d
 have date_stay:∀R,skp false (dtxt e.y e.m e.d++R)=dtxt e.y e.m e.d++R:=λR=>by
  have h0:=Wf (v:=e.y/10/10/10) (by omega)
  have hbn:48<=(cd (e.y/10/10/10)).toNat/\(cd (e.y/10/10/10)).toNat<=57:=by simpa [dgt] using h0
  refine Qdu (b:=cd (e.y/10/10/10)) (by omega) ?_ _
  unfold bln
  rw [Zf (show ¬(cd (e.y/10/10/10)).toNat=32 by omega),Zf (show ¬(cd (e.y/10/10/10)).toNat=9 by omega),Zf (show ¬(cd (e.y/10/10/10)).toNat=10 by omega),Zf (show ¬(cd (e.y/10/10/10)).toNat=13 by omega)];rfl
 have end_stay:∀R,skp false (59::R)=59::R:=λR=>Qdu (by decide) (by decide) R
 obtain ⟨p3,h3⟩:=Qbg (N:=N) (k:=3) (T:=[59]) (R:=10::S) (Qtq _) (by simp) (l:=l) (by rw [Qqf];exact hl)
 have h3':lx N (59::10::S)=(⟨3,[59],p3⟩::l,0,0):=h3
 by_cases hk:e.k=3
 ·obtain ⟨p1,h1⟩:=Qbg (N:=N) (k:=2) (T:=dtxt e.y e.m e.d) (R:=59::10::S) (Qik ho.d (by decide) _) (by simp [dtxt]) (l:=⟨3,[59],p3⟩::l) (by rw [end_stay,h3'])
  obtain ⟨p0,h0⟩:=Qbg (N:=N) (k:=0) (T:=b::t) (R:=32::(dtxt e.y e.m e.d++59::10::S)) (Qfm hb hall (by decide) _) (by simp) (l:=_) (by rw [Qh4,date_stay,h1])
  refine ⟨p0,p1,0,p3,?_⟩
  rw [if_pos hk]
  have e1:etxt e++S=(b::t)++32::(dtxt e.y e.m e.d++59::10::S):=by unfold etxt;rw [if_pos hk,hw];simp
  rw [e1,h0,hw]
 ·obtain ⟨v1,v2,_⟩:=vtok ho hc hk (10::S)
  obtain ⟨p2,h2⟩:=Qbg (N:=N) (k:=vk e) (T:=vtxt e) (R:=59::10::S) v1 v2 (l:=⟨3,[59],p3⟩::l) (by rw [end_stay,h3'])
  have v_stay:skp false (vtxt e++59::10::S)=vtxt e++59::10::S:=by
   cases hq:vtxt e with
   |nil=>exact (v2 hq).elim
   |
    cons c u=>
    rw [hq] at v1
    have hcb:ltr c=true\/(dgt c||decide (c.toNat=45))=true:=by
     rw [List.cons_append] at v1
     unfold tokOf at v1
     rw [show (c::(u++59::10::S)).getD 0 0=c from rfl] at v1
     by_cases x1:ltr c=true
     ·exact .inl x1
     ·by_cases x2:(dgt c||decide (c.toNat=45))=true
      ·exact .inr x2
      ·rw [if_neg x1,if_neg x2] at v1
       split at v1
       ·have hv:vk e=3:=(Prod.mk.inj v1).1.symm
        unfold vk at hv;split at hv<;>omega
       ·have:=(Prod.mk.inj (Prod.mk.inj v1).2).2;simp at this
    have hn:c.toNat≠35/\bln c=false:=by
     simp only [ltr,dgt,Z67,Z4,decide_eq_true_eq] at hcb
     refine ⟨by omega,?_⟩
     unfold bln
     rw [Zf (show ¬c.toNat=32 by omega),Zf (show ¬c.toNat=9 by omega),Zf (show ¬c.toNat=10 by omega),Zf (show ¬c.toNat=13 by omega)];rfl
    exact Qdu hn.1 hn.2 _
  obtain ⟨p1,h1⟩:=Qbg (N:=N) (k:=2) (T:=dtxt e.y e.m e.d) (R:=32::(vtxt e++59::10::S)) (Qik ho.d (by decide) _) (by simp [dtxt]) (l:=_) (by rw [Qh4,v_stay,h2])
  obtain ⟨p0,h0⟩:=Qbg (N:=N) (k:=0) (T:=b::t) (R:=32::(dtxt e.y e.m e.d++32::(vtxt e++59::10::S))) (Qfm hb hall (by decide) _) (by simp) (l:=_) (by rw [Qh4,date_stay,h1])
  refine ⟨p0,p1,p2,p3,?_⟩
  rw [if_neg hk]
  have e1:etxt e++S=(b::t)++32::(dtxt e.y e.m e.d++32::(vtxt e++59::10::S)):=by unfold etxt;rw [if_neg hk,hw];simp
  rw [e1,h0,hw]
theorem Qjn:∀(L:List Evt),(∀e∈L,Wb e)->skp false (stxt L)=stxt L
 |[],_=>rfl
 |e::t,h=>by rw [Qbv];exact Qu0 (h e (by simp)).k _
theorem Qnn (N:Nat):∀(L:List Evt),(∀e∈L,Wb e)->(∀e∈L,Can e)->∃l,lx N (stxt L)=(l,0,0)/\Qcg L l/\l.length<=4*L.length
 |[],_,_=>⟨[],lx_nil N,rfl,by simp⟩
 |
  e::t,ho,hc=>by
  obtain ⟨l,h1,h2,h3⟩:=Qnn N t (λx hx=>ho x (by simp [hx])) (λx hx=>hc x (by simp [hx]))
  obtain ⟨p0,p1,p2,p3,h4⟩:=Qo3 (N:=N) (ho e (by simp)) (hc e (by simp)) (S:=stxt t) (l:=l) (by rw [Qjn t λx hx=>ho x (by simp [hx])];exact h1)
  refine ⟨_,by rw [Qbv];exact h4,⟨p0,p1,p2,p3,l,rfl,h2⟩,?_⟩
  split<;>simp only [Z8]<;>omega
theorem Qq8 {N:Int} {e:Evt} {t:List Evt} {l:List Tk} (ho:Wb e) (hc:Can e) (hs:Qcg (e::t) l) {y m d:Int} (hd:¬dcmp e.y e.m e.d y m d<0):∃l',mEvent N l y m d=.inr (e,l')/\Qcg t l'/\l≠[]/\l'.length<l.length:=by
 obtain ⟨p0,p1,p2,p3,l',rfl,hs⟩:=hs
 obtain ⟨hk,_⟩:=Qho ho.k
 have hk0:=ho.k
 refine ⟨l',?_,hs,by simp,by split<;>simp only [Z8]<;>omega⟩
 obtain ⟨L2,h2⟩:∃L2,L2=(if e.k=3 then (⟨3,[59],p3⟩:Tk)::l' else ⟨vk e,vtxt e,p2⟩::⟨3,[59],p3⟩::l'):=⟨_,rfl⟩
 rw [<-h2]
 obtain ⟨L1,h1⟩:∃L1,L1=(⟨2,dtxt e.y e.m e.d,p1⟩:Tk)::L2:=⟨_,rfl⟩
 rw [<-h1]
 obtain ⟨L0,h0⟩:∃L0,L0=(⟨0,Wj e.k,p0⟩:Tk)::L1:=⟨_,rfl⟩
 rw [<-h0]
 have a0:A.hd N L0=⟨0,Wj e.k,p0⟩:=by rw [h0];rfl
 have b0:L0.tail=L1:=by rw [h0];rfl
 have a1:A.hd N L1=⟨2,dtxt e.y e.m e.d,p1⟩:=by rw [h1];rfl
 have b1:L1.tail=L2:=by rw [h1];rfl
 unfold mEvent
 rw [b0,b1,a0,a1]
 simp only [hk,Qp3 ho.d]
 rw [if_neg (by simp),if_neg (by omega),if_neg (by simp),if_neg (by simp),if_neg hd]
 by_cases h3:e.k=3
 ·rw [if_pos h3]
  rw [if_pos h3] at h2
  subst h2
  unfold mFin
  have hv:e.v=[]:=by
   have:=ho.v
   unfold mVal at this
   rw [if_pos h3] at this
   by_cases hn:e.v=[]
   ·exact hn
   ·rw [if_neg hn] at this;simp at this
  rw [if_pos (show (A.hd N ((⟨3,[59],p3⟩:Tk)::l')).k=3/\(A.hd N ((⟨3,[59],p3⟩:Tk)::l')).s=[59] from ⟨rfl,rfl⟩),<-hv];rfl
 ·rw [if_neg h3]
  rw [if_neg h3] at h2
  obtain ⟨_,_,hw⟩:=vtok ho hc h3 []
  have hw:=hw p2
  have a2:A.hd N L2=⟨vk e,vtxt e,p2⟩:=by rw [h2];rfl
  have b2:L2.tail=⟨3,[59],p3⟩::l':=by rw [h2];rfl
  rw [a2,b2,hw]
  unfold mFin
  rw [if_neg (by simp),if_pos (show (A.hd N ((⟨3,[59],p3⟩:Tk)::l')).k=3/\(A.hd N ((⟨3,[59],p3⟩:Tk)::l')).s=[59] from ⟨rfl,rfl⟩)];rfl
theorem Qvi (N:Int):∀(n:Nat) (L:List Evt) (l:List Tk) (y m d:Int) (acc:List Evt),l.length<=n->Qcg L l->Seq y m d L->(∀e∈L,Can e)->Yj N n l y m d acc=(acc++L,0,0):=by
 intro n
 induction n with
 |
  zero=>
  intro L l y m d acc hn hs hq hc
  have:l=[]:=Z7 (by omega)
  subst this
  cases L with
  |nil=>simp [Yj]
  |cons e t=>obtain ⟨_,_,_,_,_,h,_⟩:=hs;simp at h
 |
  succ n ih=>
  intro L l y m d acc hn hs hq hc
  cases L with
  |
   nil=>
   rw [show l=[] from hs,Yj,if_pos rfl];simp
  |
   cons e t=>
   obtain ⟨q1,q2,q3⟩:=hq
   obtain ⟨l',h1,h2,h3,h4⟩:=Qq8 (N:=N) q2 (hc e (by simp)) hs q1
   rw [Yj,if_neg h3,h1]
   simp only
   rw [ih t l' e.y e.m e.d (acc++[e]) (by omega) h2 q3 λx hx=>hc x (by simp [hx])]
   simp
theorem Qts {L:List Evt} (hq:Seq 0 0 0 L) (hc:∀e∈L,Can e):Y3 (stxt L)=(L,0,0)/\(lexOf (stxt L)).1.length<=4*L.length:=by
 have ho:=Qdy hq
 obtain ⟨l,h1,h2,h3⟩:=Qnn (stxt L).length L ho hc
 have e:lexOf (stxt L)=(l,0,0):=by unfold lexOf;rw [Qjn L ho,h1]
 refine ⟨?_,by rw [e];exact h3⟩
 unfold Y3
 rw [e]
 rw [if_neg (by simp)]
 rw [Qvi _ _ L l 0 0 0 [] (Z5 _) h2 hq hc];simp
theorem Qrf {L:List Evt} (hL:L.length<=10000) (hs:Seq 0 0 0 L):z143.F (L.map Evt.r)=some (stxt L,0):=by
 by_cases h:L=[]
 ·subst h;exact script_Print_nil
 ·exact script_Print hL h hs
theorem Qsr {e:Evt} (ho:Wb e) (hc:Can e):(etxt e).length<=820:=by
 have h1:=Qer ho.k
 have h2:(dtxt e.y e.m e.d).length=10:=rfl
 have hv:e.k≠3->(vtxt e).length<=800:=λh3=>by
  by_cases h4:e.k=2\/e.v=kDue
  ·unfold vtxt;rw [if_pos h4];exact hc.len
  ·obtain ⟨_,p1,p2⟩:=Qcd (ho.paid h4 h3)
   unfold vtxt
   rw [if_neg h4]
   have hl:(txt (mWhole e.v).1.natAbs).length<=31:=Qbh (by omega) (by decide)
   have hp:=Qay (mWhole e.v).1.natAbs 2
   unfold decTxt
   rw [Z3,Z8,Z13,Z22]
   omega
 unfold etxt
 by_cases h3:e.k=3
 ·rw [if_pos h3];simp only [Z3,Z8,Z31];omega
 ·have:=hv h3
  rw [if_neg h3];simp only [Z3,Z8,Z31];omega
theorem Qi5:∀(L:List Evt),(∀e∈L,Wb e)->(∀e∈L,Can e)->(stxt L).length<=820*L.length
 |[],_,_=>by simp [stxt]
 |
  e::t,ho,hc=>by
  have h1:=Qsr (ho e (by simp)) (hc e (by simp))
  have h2:=Qi5 t (λx hx=>ho x (by simp [hx])) (λx hx=>hc x (by simp [hx]))
  rw [Qbv,Z3,Z8];omega
theorem Qic {b:UInt8} (h:48<=b.toNat):ch ((b.toNat:Int)-48)=b:=by
 unfold ch
 have:48+((b.toNat:Int)-48).toNat=b.toNat:=by omega
 rw [this];simp
theorem Qsv:∀(k:Nat) (s:J1),s.length=k->numOK s=true->txt (tv 0 s).toNat=s:=by
 intro k
 induction k with
 |
  zero=>
  intro s hs h
  exact ((Qdv h).2.1 (Z7 hs)).elim
 |
  succ k ih=>
  intro s hs h
  obtain ⟨h1,h2,h3⟩:=Qdv h
  rcases List.eq_nil_or_concat s with h0|⟨t,b,h0⟩
  ·exact (h2 h0).elim
  ·rw [List.concat_eq_append] at h0
   have hb:=h1 b (by rw [h0];simp)
   unfold digit at hb
   have htv:tv 0 s=10*tv 0 t+(b.toNat:Int)-48:=by rw [h0,Qcy];rfl
   by_cases ht:t=[]
   ·subst ht
    have e:(tv 0 s).toNat=b.toNat-48:=by rw [htv];show (10*0+(b.toNat:Int)-48).toNat=_;omega
    rw [e,h0]
    by_cases hz:b.toNat=48
    ·rw [hz]
     have:b=48:=UInt8.toNat_inj.1 hz
     subst this;rfl
    ·unfold txt
     rw [if_neg (by omega),Wv (by decide) (by omega),show (b.toNat-48)/10=0 by omega,toB_zero]
     have:(((b.toNat-48)%10:Nat):Int)=(b.toNat:Int)-48:=by omega
     simp only [this,List.reverse_cons,List.reverse_nil,List.nil_append,List.map_cons,List.map_nil,Qic hb.1]
   ·have hpos:=Z21.2 ht
    have hl:s.length=t.length+1:=by rw [h0];simp
    have hg:s.getD 0 0=t.getD 0 0:=by
     cases t with
     |nil=>exact (ht rfl).elim
     |cons c u=>rw [h0];rfl
    have hhd:=h3 (by omega)
    have hdt:Qu t:=λx hx=>h1 x (by rw [h0];simp [hx])
    have htOK:numOK t=true:=by
     unfold numOK
     rw [Zf ht,Yh.2 hdt,Zf (show ¬(t.getD 0 0).toNat=48 by rw [<-hg];exact hhd)];simp
    have hit:=ih t (by omega) htOK
    have hnz:(tv 0 t).toNat≠0:=λe=>by
     have:=(Qm4 htOK).1 e
     rw [hg,this] at hhd;exact hhd rfl
    have hb0:=W6 hdt
    have e:(tv 0 s).toNat=10*(tv 0 t).toNat+(b.toNat-48):=by rw [htv];omega
    have hm:(10*(tv 0 t).toNat+(b.toNat-48))%10=b.toNat-48:=by omega
    have hd:(10*(tv 0 t).toNat+(b.toNat-48))/10=(tv 0 t).toNat:=by omega
    have:((b.toNat-48:Nat):Int)=(b.toNat:Int)-48:=by omega
    rw [e]
    unfold txt at hit ⊢
    rw [if_neg hnz] at hit
    rw [if_neg (by omega),Wv (by decide) (by omega),hm,hd,this]
    simp only [List.reverse_cons,Z87,List.map_cons,List.map_nil,hit,Qic hb.1]
    exact h0.symm
theorem Qv1 {s:J1} (h0:(mWhole s).2=0) (h1:0<(mWhole s).1):s=txt (mWhole s).1.toNat:=by
 unfold mWhole at h0 h1 ⊢
 by_cases hd:(mDigits (cutNeg s).1).2=0
 ·rw [if_neg (λhh=>hh hd)] at h0 h1 ⊢
  by_cases hb:(cutNeg s).2=true
  ·exfalso
   split at h1
   ·simp at h1
   ·simp only [hb,if_true] at h1;omega
  ·have hb':(cutNeg s).2=false:=by simpa using hb
   simp only [hb',Z37,Z12,if_false] at h1 ⊢
   have hs:(cutNeg s).1=s:=by
    cases s with
    |nil=>rfl
    |
     cons b t=>
     unfold cutNeg at hb' ⊢
     simp only at hb' ⊢
     split at hb'
     ·simp at hb'
     ·rename_i hh;rw [if_neg hh]
   rw [hs] at hd h1 ⊢
   unfold mDigits at hd h1 ⊢
   split at hd
   ·simp at hd
   ·rename_i hl
    split at hd
    ·rename_i hok
     rw [if_neg hl,if_pos hok]
     simp only [Zi]
     exact (Qsv s.length s rfl hok).symm
    ·simp at hd
 ·rw [if_pos hd] at h1;simp at h1
theorem Qug {v:J1} (h:(mDec v).2.2=0):NumTok v:=by
 have hdec:=h
 unfold mDec at h
 by_cases hl:4096<v.length
 ·rw [if_pos hl] at h;simp at h
 rw [if_neg hl] at h
 unfold Yu at h
 split at h
 ·simp at h
 rename_i hc
 simp only [Z67,not_or,Z47,Bool.not_eq_false,Z4] at hc
 obtain ⟨⟨p1,p2⟩,p3⟩:=hc
 obtain ⟨d1,n1⟩:=Qaa (by simpa using p1)
 have dg_of:∀{l:J1},Qu l->∀x∈l,dgt x=true:=λhd x hx=>by
  have:=hd x hx
  unfold digit at this
  simp only [dgt,Z4,decide_eq_true_eq];exact this
 have ht:(∀x∈(cutNeg v).1,dgt x=true\/x=46)/\∃c u,(cutNeg v).1=c::u/\dgt c=true:=by
  obtain ⟨c,u,hcu⟩:∃c u,(cutDot (cutNeg v).1).1=c::u:=by
   cases hq:(cutDot (cutNeg v).1).1 with
   |nil=>exact (n1 hq).elim
   |cons c u=>exact ⟨c,u,rfl⟩
  have hc0:dgt c=true:=dg_of d1 c (by rw [hcu];simp)
  cases ho:(cutDot (cutNeg v).1).2 with
  |
   none=>
   have e:=Qcu ho
   refine ⟨λx hx=>.inl (dg_of d1 x (by rw [e];exact hx)),c,u,by rw [<-e];exact hcu,hc0⟩
  |
   some b=>
   have e:=Qcq ho
   have hb:plainB b=true:=by
    by_cases hpb:plainB b=true
    ·exact hpb
    ·exfalso
     apply p2
     rw [ho];exact ⟨rfl,by simpa using hpb⟩
   obtain ⟨d2,_⟩:=Qaa hb
   refine ⟨λx hx=>?_,c,u++46::b,by rw [e,hcu];rfl,hc0⟩
   rw [e] at hx
   rcases Z41.1 hx with hx|hx
   ·exact .inl (dg_of d1 x hx)
   ·rcases Z62.1 hx with rfl|hx
    ·exact .inr rfl
    ·exact .inl (dg_of d2 x hx)
 obtain ⟨hall,c,u,hcu,hc0⟩:=ht
 have hn:∀x,dgt x=true\/x=46->nmr x=true:=λx hx=>by
  rcases hx with hx|rfl
  ·exact Yt hx
  ·rfl
 have hno:∀x,dgt x=true\/x=46->x.toNat≠45:=λx hx e=>by
  rcases hx with hx|rfl
  ·simp only [dgt,Z4,decide_eq_true_eq] at hx;omega
  ·simp at e
 cases v with
 |nil=>simp [cutNeg] at hcu
 |
  cons b t=>
  by_cases hb:b=45
  ·subst hb
   have e:(cutNeg (45::t)).1=t:=rfl
   rw [e] at hall hcu
   refine ⟨⟨45,t,rfl,by decide,by decide⟩,λx hx=>?_,?_,hdec⟩
   ·rcases Z62.1 hx with rfl|hx
    ·rfl
    ·exact hn x (hall x hx)
   ·rw [Bool.eq_false_iff]
    intro hd
    obtain ⟨h10,_⟩:=Qa5 hd
    have h4:=Qc1 hd (i:=4) (.inl rfl)
    have hlt:3<t.length:=by rw [Z8] at h10;omega
    have:(45::t).getD 4 0=t[3]:=by
     rw [Zl];simp [hlt]
    rw [this] at h4
    exact hno _ (hall _ (Z9 hlt)) h4
  ·have e:(cutNeg (b::t)).1=b::t:=by unfold cutNeg;simp only;rw [if_neg hb]
   rw [e] at hall hcu
   simp only [List.cons.injEq] at hcu
   obtain ⟨rfl,rfl⟩:=hcu
   refine ⟨⟨b,t,rfl,Qht hc0,by rw [hc0];rfl⟩,λx hx=>hn x (hall x hx),?_,hdec⟩
   rw [Bool.eq_false_iff]
   intro hd
   obtain ⟨h10,_⟩:=Qa5 hd
   have h4:=Qc1 hd (i:=4) (.inl rfl)
   have hlt:4<(b::t).length:=by omega
   have:(b::t).getD 4 0=(b::t)[4]:=by
    rw [Zl,Z1 hlt];rfl
   rw [this] at h4
   exact hno _ (hall _ (Z9 hlt)) h4
theorem Qro {e:Evt} (ho:Wb e) (hl:e.v.length<=800):Can e:=by
 refine ⟨λh2=>?_,λh2=>?_,hl⟩
 ·have hv:=ho.v
  unfold mVal at hv
  rw [if_neg (by omega),if_pos h2] at hv
  apply Qug
  unfold W5 at hv
  by_cases hd:(mDec e.v).2.2=0
  ·exact hd
  ·rw [if_pos hd] at hv;exact hv
 ·by_cases h0:e.k=0/\e.v=kDue
  ·exact .inl ⟨h0.2,h0.1⟩
  ·have hv:=ho.v
   have hk:=ho.k
   unfold mVal at hv
   rw [if_neg (by omega),if_neg (by omega),if_neg h0] at hv
   obtain ⟨p0,p1,p2⟩:=Qcd hv
   refine .inr ⟨(mWhole e.v).1.toNat,by omega,?_,Qv1 p0 p1⟩
   have:(mWhole e.v).1<=((10^30:Nat):Int):=p2
   omega
def eErr (y m d:Int) (e:Evt):Int:=
 if e.k<0\/3<e.k then 2 else if ¬right e.y e.m e.d then 11 else if dcmp e.y e.m e.d y m d<0 then 12 else mVal e.k e.v
def mChk:Int->Int->Int->Int->List Evt->Int×Int
 |_,_,_,_,[]=>(0,0)
 |i,y,m,d,e::t=>if eErr y m d e≠0 then (i,eErr y m d e) else mChk (i+1) e.y e.m e.d t
theorem Qqq (e:Evt) (y m d:Int):z137.F e.k e.y e.m e.d e.v y m d=some (eErr y m d e):=by
 unfold z137.F eErr
 by_cases h0:e.k<0
 ·rw [bif_t h0,if_pos (.inl h0)];rfl
 ·rw [Qc h0]
  unfold z137.j1
  by_cases h4:e.k>=4
  ·rw [bif_t h4,if_pos (.inr (by omega))]
  ·rw [Qc h4,if_neg (by omega),date_Check,Zb]
   by_cases hr:right e.y e.m e.d
   ·rw [if_pos hr,if_neg (λhh=>hh hr),show (!decide ((0:Int)=0))=false from rfl]
    simp only [Zc]
    rw [date_Cmp,Zb]
    by_cases hd:dcmp e.y e.m e.d y m d<0
    ·rw [bif_t hd,if_pos hd]
    ·rw [Qc hd,if_neg hd,script_value (by omega)];rfl
   ·rw [if_neg hr,if_pos hr];rfl
def outC:(Int×Int×Int×Int)⊕(Int×Int×Int×Int×Int)->Int×Int
 |.inl _=>(0,0)
 |.inr q=>(q.1,q.2.1)
theorem Qk4 {L:List Evt} (hL:L.length<=10000):∀(f i:Nat) (y m d:Int),i+f=L.length->∃x,Runs (λrec x=>z138.l0P (L.map Evt.r) (L.length:Int) rec some x) ((i:Int),y,m,d) x/\outC x=mChk (i:Int) y m d (L.drop i)
 |
  0,i,y,m,d,h=>by
  refine ⟨.inl ((i:Int),y,m,d),.done λrec=>?_,?_⟩
  ·unfold z138.l0P
   simp only
   rw [Qc (by omega)]
  ·rw [Z55 (by omega)];rfl
 |
  f+1,i,y,m,d,h=>by
  have hi:i<L.length:=by omega
  have l2:(L.map Evt.r).length=L.length:=by simp
  have hst:∀rec:(Int×Int×Int×Int)->Option ((Int×Int×Int×Int)⊕(Int×Int×Int×Int×Int)),z138.l0P (L.map Evt.r) (L.length:Int) rec some ((i:Int),y,m,d)=if eErr y m d L[i]≠0 then some (.inr ((i:Int),eErr y m d L[i],y,m,d)) else rec (((i+1:Nat):Int),L[i].y,L[i].m,L[i].d):=λrec=>by
   unfold z138.l0P
   simp only
   rw [bif_t (by omega),if_pos (by omega),Zi,Jc hi]
   simp only [eK,eY,eM,eD,eV]
   rw [Qqq,Zb,Qg (by omega) (by omega)]
   by_cases he:eErr y m d L[i]=0
   ·rw [Zt he,if_neg (λhh=>hh he)];rfl
   ·rw [Zf he,if_pos he];rfl
  rw [Z17 hi,mChk]
  by_cases he:eErr y m d L[i]=0
  ·obtain ⟨x,hx,ho⟩:=Qk4 hL f (i+1) L[i].y L[i].m L[i].d (by omega)
   exact ⟨x,.step (λrec=>by rw [hst,if_neg (λhh=>hh he)]) hx,by rw [if_neg (λhh=>hh he),ho];rfl⟩
  ·exact ⟨_,.done λrec=>by rw [hst,if_pos he],by rw [if_pos he];rfl⟩
theorem Qjx {L:List Evt} (hL:L.length<=10000):z138.F (L.map Evt.r)=some (mChk 0 0 0 0 L):=by
 have l2:(L.map Evt.r).length=L.length:=by simp
 obtain ⟨x,hx,ho⟩:=Qk4 hL L.length 0 0 0 0 (by omega)
 have e:z138.l0 (L.map Evt.r) (L.length:Int) (0,0,0,0)=some x:=hx.lfp
 rw [Z45] at ho
 have ho:outC x=mChk 0 0 0 0 L:=ho
 unfold z138.F
 rw [l2,Qc (by omega),e,<-ho]
 cases x<;>rfl
theorem Qkf:∀(L:List Evt) (i y m d:Int),(∀e∈L,e.v.length<=4096)->(mChk i y m d L).2=0->Seq y m d L/\(mChk i y m d L).1=0
 |[],_,_,_,_,_,_=>⟨trivial,rfl⟩
 |
  e::t,i,y,m,d,hl,h=>by
  rw [mChk] at h ⊢
  by_cases he:eErr y m d e=0
  ·rw [if_neg (λhh=>hh he)] at h ⊢
   obtain ⟨h1,h2⟩:=Qkf t (i+1) e.y e.m e.d (λx hx=>hl x (by simp [hx])) h
   refine ⟨⟨?_,?_,h1⟩,h2⟩
   ·intro hd
    unfold eErr at he
    split at he
    ·simp at he
    ·split at he
     ·simp at he
     ·first|(simp at he;done)|(rw [if_pos hd] at he;simp at he)
   ·unfold eErr at he
    split at he
    ·simp at he
    ·rename_i hk
     split at he
     ·simp at he
     ·rename_i hr
      split at he
      ·simp at he
      ·exact ⟨by omega,Classical.byContradiction hr,he,hl e (by simp)⟩
  ·rw [if_pos he] at h;exact (he h).elim
def outD:Int⊕(Int×Int)->Int×Int
 |.inl _=>(0,0)
 |.inr q=>(q.1,q.2)
theorem Qp4 (y m d:Int):dcmp y m d y m d=0:=by
 unfold dcmp
 rw [if_neg (by omega),if_neg (by omega),if_neg (by omega),if_neg (by omega),if_neg (by omega),if_neg (by omega)]
theorem Qvt {y m d:Int} (h:right y m d):¬dcmp y m d 0 0 0<0:=by
 obtain ⟨hy,_⟩:=J9 h
 unfold dcmp
 rw [if_neg (by omega),if_pos (by omega)];omega
theorem Qkw {L:List Evt} (hL:L.length<=10000) (hv:∀e∈L,e.v.length<=1000000):∀(f i:Nat) (y m d:Int),i+f=L.length->((i=0/\y=0/\m=0/\d=0)\/(0<i/\∀h:i-1<L.length,y=L[i-1].y/\m=L[i-1].m/\d=L[i-1].d)) ->
  ∃x,Runs (λrec x=>z148.l0P (L.map Evt.r) rec some x) (i:Int) x/\outD x=mChk (i:Int) y m d (L.drop i)
 |
  0,i,y,m,d,h,_=>by
  have l2:(L.map Evt.r).length=L.length:=by simp
  refine ⟨.inl (i:Int),.done λrec=>?_,?_⟩
  ·unfold z148.l0P
   rw [Qc (by omega)]
  ·rw [Z55 (by omega)];rfl
 |
  f+1,i,y,m,d,h,hp=>by
  have hi:i<L.length:=by omega
  have l2:(L.map Evt.r).length=L.length:=by simp
  have c:(0:Int)<=(i:Int)/\(i:Int)<((L.map Evt.r).length:Int):=by omega
  have em:wr .i64 ((if (1:Int)>(i:Int) then (1:Int) else (i:Int))-1)=((i-1:Nat):Int):=by
   split
   ·rw [Qg (by omega) (by omega)];omega
   ·rw [Qg (by omega) (by omega)];omega
  have hi1:i-1<L.length:=by omega
  have c1:(0:Int)<=((i-1:Nat):Int)/\((i-1:Nat):Int)<((L.map Evt.r).length:Int):=by omega
  have hcm:right L[i].y L[i].m L[i].d->(dcmp L[i].y L[i].m L[i].d L[i-1].y L[i-1].m L[i-1].d<0↔dcmp L[i].y L[i].m L[i].d y m d<0):=λhr=>by
   rcases hp with ⟨rfl,rfl,rfl,rfl⟩|⟨_,hp⟩
   ·have:=Qvt hr
    have e0:dcmp L[0].y L[0].m L[0].d L[0-1].y L[0-1].m L[0-1].d=0:=Qp4 _ _ _
    rw [e0]
    exact ⟨λh=>by omega,λh=>(this h).elim⟩
   ·obtain ⟨rfl,rfl,rfl⟩:=hp hi1
    exact Iff.rfl
  have hst:∀rec:Int->Option (Int⊕(Int×Int)),z148.l0P (L.map Evt.r) rec some (i:Int)=if eErr y m d L[i]≠0 then some (.inr ((i:Int),eErr y m d L[i])) else rec ((i+1:Nat):Int):=λrec=>by
   have hvl:=hv L[i] (Z9 hi)
   unfold z148.l0P
   rw [bif_t (by omega)]
   simp only [if_pos c,em,if_pos c1,Zi,Jc hi,Jc hi1,eK,eY,eM,eD,eV]
   unfold eErr
   by_cases h0:L[i].k<0
   ·simp only [if_pos (show L[i].k<0\/3<L[i].k from .inl h0)]
    rw [bif_t h0];rfl
   ·rw [Qc h0]
    by_cases h3:L[i].k>3
    ·simp only [if_pos (show L[i].k<0\/3<L[i].k from .inr h3)]
     rw [bif_t h3];rfl
    ·rw [Qc h3]
     simp only [if_neg (show ¬(L[i].k<0\/3<L[i].k) by omega)]
     rw [Qrm,Zb]
     by_cases hr:right L[i].y L[i].m L[i].d
     ·rw [Zt hr]
      simp only [Zn,Zc,if_neg (show ¬¬right L[i].y L[i].m L[i].d from λhh=>hh hr)]
      rw [Qom,Zb]
      have hcm:=hcm hr
      by_cases hd:dcmp L[i].y L[i].m L[i].d y m d<0
      ·rw [bif_t (hcm.2 hd)]
       simp only [if_pos hd];rfl
      ·rw [Qc (λhh=>hd (hcm.1 hh))]
       simp only [if_neg hd]
       rw [Qul (by omega) _ _ _ hvl,Zb]
       by_cases hm:mVal L[i].k L[i].v=0
       ·rw [Zt hm]
        simp only [hm,ne_eq,not_true_eq_false,if_false,Zn,Zc]
        rw [Qg (by omega) (by omega)];rfl
       ·rw [Zf hm]
        simp only [ne_eq,hm,not_false_eq_true,if_true,Zo,Zd]
     ·rw [Zf hr]
      simp only [if_pos hr];rfl
  rw [Z17 hi,mChk]
  by_cases he:eErr y m d L[i]=0
  ·obtain ⟨x,hx,ho⟩:=Qkw hL hv f (i+1) L[i].y L[i].m L[i].d (by omega) (.inr ⟨by omega,λh=>⟨rfl,rfl,rfl⟩⟩)
   exact ⟨x,.step (λrec=>by rw [hst,if_neg (λhh=>hh he)]) hx,by rw [if_neg (λhh=>hh he),ho];rfl⟩
  ·exact ⟨_,.done λrec=>by rw [hst,if_pos he],by rw [if_pos he];rfl⟩
theorem Qib {L:List Evt} (hL:L.length<=10000) (hv:∀e∈L,e.v.length<=1000000):z148.F (L.map Evt.r)=some (mChk 0 0 0 0 L):=by
 have l2:(L.map Evt.r).length=L.length:=by simp
 obtain ⟨x,hx,ho⟩:=Qkw hL hv L.length 0 0 0 0 (by omega) (.inl ⟨rfl,rfl,rfl,rfl⟩)
 have e:z148.l0 (L.map Evt.r) 0=some x:=hx.lfp
 rw [Z45] at ho
 have ho:outD x=mChk 0 0 0 0 L:=ho
 unfold z148.F
 rw [l2,Qc (by omega),e,<-ho]
 cases x<;>rfl
theorem Qbi {n:Int} (hn:0<=n/\n<1000000) {k:Nat} {i:Nat} (hi:i<k) (hk:k<=10) {s:J1} (hs:s.length<=100) (rec:(Int×J1×Int)->Option (Int×J1×Int)) :
  z149.l0P (k:Int) rec some (n,s,(i:Int))=rec (n/10,cd n::s,((i+1:Nat):Int)):=by
 have e1:Int.tdiv n 10=n/10:=Int.tdiv_eq_ediv_of_nonneg hn.1
 have e2:Int.tmod n 10=n%10:=Z64 hn.1
 unfold z149.l0P
 simp only
 rw [bif_t (by omega),e1,e2,Qg (n:=48+n%10) (by omega) (by omega),Qaj (by omega) (by omega),Qg (n:=n/10) (by omega) (by omega),Qg (n:=(i:Int)+1) (by omega) (by omega),if_pos (by simp only [Z34,Z8,Z31];omega)]
 rfl
theorem Qmf {n:Int} {k:Nat} {s:J1}:Runs (λrec x=>z149.l0P (k:Int) rec some x) (n,s,(k:Int)) (n,s,(k:Int)):=.done λrec=>by
 unfold z149.l0P
 simp only
 rw [Qc (by omega)]
theorem Qoe {y m d:Int} (h:right y m d):z150.F y m d=some (dtxt y m d):=by
 obtain ⟨hy,hm1,hm2,hd1,hd2⟩:=J9 h
 have r4:z149.F y 4=some [cd (y/10/10/10),cd (y/10/10),cd (y/10),cd y]:=by
  have r:Runs (λrec x=>z149.l0P ((4:Nat):Int) rec some x) (y,[],((0:Nat):Int)) (y/10/10/10/10,[cd (y/10/10/10),cd (y/10/10),cd (y/10),cd y],((4:Nat):Int)):=by
   refine .step (Qbi (k:=4) (i:=0) (by omega) (by decide) (by decide) (by simp)) ?_
   refine .step (Qbi (k:=4) (i:=1) (by omega) (by decide) (by decide) (by simp)) ?_
   refine .step (Qbi (k:=4) (i:=2) (by omega) (by decide) (by decide) (by simp)) ?_
   refine .step (Qbi (k:=4) (i:=3) (by omega) (by decide) (by decide) (by simp)) ?_
   exact Qmf
  have e:z149.l0 4 (y,[],0)=some _:=r.lfp
  unfold z149.F
  rw [e];rfl
 have r2:∀n:Int,0<=n/\n<100->z149.F n 2=some [cd (n/10),cd n]:=λn hn=>by
  have r:Runs (λrec x=>z149.l0P ((2:Nat):Int) rec some x) (n,[],((0:Nat):Int)) (n/10/10,[cd (n/10),cd n],((2:Nat):Int)):=by
   refine .step (Qbi (k:=2) (i:=0) (by omega) (by decide) (by decide) (by simp)) ?_
   refine .step (Qbi (k:=2) (i:=1) (by omega) (by decide) (by decide) (by simp)) ?_
   exact Qmf
  have e:z149.l0 2 (n,[],0)=some _:=r.lfp
  unfold z149.F
  rw [e];rfl
 unfold z150.F
 rw [r4,Zb,r2 m (by omega),Zb,r2 d (by omega),Zb]
 rw [if_pos (by simp),if_pos (by simp),if_pos (by simp),if_pos (by simp)]
 rfl
theorem Qq0 {n:Nat} (hn:n<=10^30):z152.F (dg (Int.natAbs (n:Int))) (neg (n:Int))=some (decTxt n 2):=by
 have hl:(txt n).length<=31:=Qbh (by omega) (by decide)
 have hd:=Wa n
 have hsz:sz n<=31:=Qx (k:=31) (by omega)
 have h:=Qqd (n:=n) (k:=2) (by decide) (by omega) (by omega)
 have e:neg (n:Int)=false:=by unfold neg;exact Zf (by omega)
 unfold z152.F
 rw [e]
 rw [show dg (Int.natAbs (n:Int))=dg n from rfl,show (2:Int)=((2:Nat):Int) from rfl,h];rfl
theorem Qlt {L:List Evt} (hL:L.length<=10000) (hok:∀e∈L,Wb e):∀(f i:Nat) (T:J1),i+f=L.length->T.length<=5000*i->Runs (λrec x=>z153.l0P (L.map Evt.r) We rec some x) (T,(i:Int)) (T++stxt (L.drop i),(L.length:Int))
 |
  0,i,T,h,hT=>by
  have l2:(L.map Evt.r).length=L.length:=by simp
  refine .done λrec=>?_
  unfold z153.l0P
  simp only
  rw [Qc (by omega),Z55 (by omega),show (i:Int)=(L.length:Int) by omega]
  simp [stxt]
 |
  f+1,i,T,h,hT=>by
  have hi:i<L.length:=by omega
  have ho:=hok L[i] (Z9 hi)
  have hl:=Qhz ho
  have hk:=ho.k
  have l2:(L.map Evt.r).length=L.length:=by simp
  have ih:=Qlt hL hok f (i+1) (T++etxt L[i]) (by omega) (by rw [Z3];omega)
  have e:T++etxt L[i]++stxt (L.drop (i+1))=T++stxt (L.drop i):=by
   rw [Z17 hi,Qbv,Z51]
  rw [e] at ih
  refine .step (λrec=>?_) ih
  have c:(0:Int)<=(i:Int)/\(i:Int)<((L.map Evt.r).length:Int):=by omega
  have ck:(0:Int)<=L[i].k/\L[i].k<((We.length:Nat):Int):=by show 0<=L[i].k/\L[i].k<((4:Nat):Int);omega
  have h1:=Qer ho.k
  have h2:(dtxt L[i].y L[i].m L[i].d).length=10:=rfl
  have hw:We.getD L[i].k.toNat []=Wj L[i].k:=rfl
  have one:([32]:J1).length=1:=rfl
  have two:([59,10]:J1).length=2:=rfl
  unfold z153.l0P
  simp only
  rw [bif_t (by omega)]
  simp only [if_pos c,Zi,Jc hi,eK,eY,eM,eD,eV,if_pos ck,hw]
  rw [Qoe ho.d,Zb,if_pos (by omega),if_pos (by rw [Z3,one];omega),if_pos (by simp only [Z3,one];omega)]
  rw [Qg (n:=(i:Int)+1) (by omega) (by omega)]
  by_cases h3:L[i].k=3
  ·rw [Qc (by omega)]
   have hv:L[i].v=[]:=by
    have:=ho.v
    unfold mVal at this
    rw [if_pos h3] at this
    by_cases hn:L[i].v=[]
    ·exact hn
    ·rw [if_neg hn] at this;simp at this
   rw [Zf (show ¬L[i].v=[100,117,101] by rw [hv];decide)]
   simp only [Zc]
   rw [Qc (by omega),if_pos (by simp only [Z3,one,two];omega)]
   have e2:T++Wj L[i].k++[32]++dtxt L[i].y L[i].m L[i].d++[59,10]=T++etxt L[i]:=by unfold etxt;rw [if_pos h3];simp
   rw [e2];rfl
  ·have hvl:=Qgo ho h3
   by_cases h4:L[i].k=2
   ·have ev:vtxt L[i]=L[i].v:=by unfold vtxt;rw [if_pos (.inl h4)]
    rw [ev] at hvl
    rw [bif_t h4,if_pos (by simp only [Z3,one];omega),if_pos (by simp only [Z3,one];omega),if_pos (by simp only [Z3,one,two];omega)]
    have e2:T++Wj L[i].k++[32]++dtxt L[i].y L[i].m L[i].d++[32]++L[i].v++[59,10]=T++etxt L[i]:=by unfold etxt;rw [if_neg h3,ev];simp
    rw [e2];rfl
   ·rw [Qc h4]
    by_cases h5:L[i].v=kDue
    ·have ev:vtxt L[i]=L[i].v:=by unfold vtxt;rw [if_pos (.inr h5)]
     rw [ev] at hvl
     rw [Zt (show L[i].v=[100,117,101] from h5)]
     simp only [Zd]
     rw [if_pos (by simp only [Z3,one];omega),if_pos (by simp only [Z3,one];omega),if_pos (by simp only [Z3,one,two];omega)]
     have e2:T++Wj L[i].k++[32]++dtxt L[i].y L[i].m L[i].d++[32]++L[i].v++[59,10]=T++etxt L[i]:=by unfold etxt;rw [if_neg h3,ev];simp
     rw [e2];rfl
    ·rw [Zf (show ¬L[i].v=[100,117,101] from h5)]
     simp only [Zc]
     have h6:¬(L[i].k=2\/L[i].v=kDue):=λhh=>hh.elim h4 h5
     have hpd:=ho.paid h6 h3
     obtain ⟨p0,p1,p2⟩:=Qcd hpd
     have ev:vtxt L[i]=decTxt (mWhole L[i].v).1.natAbs 2:=by unfold vtxt;rw [if_neg h6]
     rw [ev] at hvl
     have hn:((mWhole L[i].v).1.natAbs:Int)=(mWhole L[i].v).1:=by omega
     have em:mMoney L[i].v=((mWhole L[i].v).1,0):=by
      unfold mMoney
      rw [if_neg (λhh=>hh p0),if_neg (by omega)]
     have hp:=Qq0 (n:=(mWhole L[i].v).1.natAbs) (by omega)
     rw [hn] at hp
     have hvv:=ho.l
     rw [bif_t (by omega),Qh6 _ (by omega),em,Zb]
     simp only
     rw [hp,Zb,if_pos (by simp only [Z3,one];omega),if_pos (by simp only [Z3,one];omega),if_pos (by simp only [Z3,one,two];omega)]
     have e2:T++Wj L[i].k++[32]++dtxt L[i].y L[i].m L[i].d++[32]++decTxt (mWhole L[i].v).1.natAbs 2++[59,10]=T++etxt L[i]:=by unfold etxt;rw [if_neg h3,ev];simp
     rw [e2];rfl
theorem Qru {L:List Evt} (hL:L.length<=10000) (hok:∀e∈L,Wb e):z153.F (L.map Evt.r)=some (stxt L):=by
 have r:=Qlt hL hok L.length 0 [] (by omega) (by simp)
 rw [Z45,List.nil_append] at r
 have e:z153.l0 (L.map Evt.r) We ([],0)=some (stxt L,(L.length:Int)):=r.lfp
 unfold z153.F
 change ((z153.l0 (L.map Evt.r) We ([],0)).bind _)=_
 rw [e];rfl
end Go.Proofs.YtjfipepaaddlmaaGreatDoor.A
end
section
namespace Go.Proofs.YtjfipepaaddlmaaGreatDoor.A
open Go Go.RowKit Go.ChangeShapes Go.WideShapes Go.ChangeAt
theorem Qqs {L:List Evt} (hL:L.length<=10000) (he:(mChk 0 0 0 0 L).2≠0):z143.F (L.map Evt.r)=some ([],(mChk 0 0 0 0 L).2):=by
 unfold z143.F
 rw [Qjx hL,Zb,Zf he];rfl
abbrev PrR:=Int⊕Bool
theorem Qgl {T:J2} {i:Nat} {L:List Evt} (hi:i<T.length) (hn:T.length<=100) (hT:T.getD i []=[.recs false 5 (L.map Evt.r)]) (hL:L.length<=30) (hv:∀e∈L,e.v.length<=200) (rec:Int->Option PrR) :
  z155.l2aP T (T.length:Int) rec some (i:Int)=rec ((i+1:Nat):Int):=by
 have hr:∀{R:Type} (l:J2) (K:J2->Option R),V.asRecs 5 (([.recs false 5 l]:List V).getD 0 .undef) K=K l:=λl K=>rfl
 have w:wr .i64 ((i:Int)+1)=((i+1:Nat):Int):=by rw [Qg (by omega) (by omega)];rfl
 unfold z155.l2aP
 rw [bif_t (by omega),if_pos (by omega),Zi,hT,hr,Qjx (by omega),Zb]
 by_cases he:(mChk 0 0 0 0 L).2=0
 ·obtain ⟨hs,h1⟩:=Qkf L 0 0 0 0 (λe h=>by have:=hv e h;omega) he
  have hok:=Qdy hs
  have hc:∀e∈L,Can e:=λe h=>Qro (hok e h) (by have:=hv e h;omega)
  have hl:=Qi5 L hok hc
  obtain ⟨p1,p2⟩:=Qts hs hc
  have e0:mChk 0 0 0 0 L=(0,0):=Prod.ext h1 he
  rw [Qrf (by omega) hs,Zb,Qib (by omega) (λe h=>by have:=hv e h;omega),Zb,e0]
  rw [show (!decide ((0:Int)=0))=false from rfl]
  simp only [Zc]
  rw [Qj7 (by omega) (by omega),Zb,Qru (by omega) hok,Zb,p1]
  simp only [encM,decide_true,Zn,Zc]
  rw [Qok L (by omega),Zb,w];rfl
 ·rw [Qqs (by omega) he,Zb,Qib (by omega) (λe h=>by have:=hv e h;omega),Zb]
  rw [Zt (show (mChk 0 0 0 0 L).1=(mChk 0 0 0 0 L).1 from rfl),Zt (show (mChk 0 0 0 0 L).2=(mChk 0 0 0 0 L).2 from rfl),Zf he,w]
  rfl
theorem Qqg {y m d:Int} (h:right y m d):∃y' m' d' ok,z154.F y m d=some (y',m',d',ok)/\(ok=true->right y' m' d'):=by
 obtain ⟨hy,hm1,hm2,hd1,hd2⟩:=J9 h
 unfold z154.F
 rw [Qc7,Zb]
 by_cases h1:d<dDays y m
 ·rw [bif_t h1,Qg (by omega) (by omega)]
  exact ⟨_,_,_,_,rfl,λ_=>⟨by omega,by omega⟩⟩
 ·rw [Qc h1]
  by_cases h2:m<12
  ·rw [bif_t h2,Qg (by omega) (by omega)]
   have:=Qgr (y:=y) (m:=m+1) hy (by omega)
   exact ⟨_,_,_,_,rfl,λ_=>⟨by omega,by omega⟩⟩
  ·rw [Qc h2,Qg (by omega) (by omega)]
   refine ⟨_,_,_,_,rfl,λhk=>?_⟩
   simp only [decide_eq_true_eq] at hk
   have:=Qgr (y:=y+1) (m:=1) (by omega) (by omega)
   exact ⟨by omega,by omega⟩
theorem Qhl {D:J0} {i:Nat} (hi:i<D.length) (hi2:i<=100) (hD:0<=D.getD i 0/\D.getD i 0<256):∀(f k:Nat) (y m d:Int),k+f=((D.getD i 0)%71).toNat->right y m d->∃y' m' d',Runs (λrec x=>z155.l2P (i:Int) D rec some x) ((k:Int),y,m,d) ((((D.getD i 0)%71).toNat:Int),y',m',d')/\right y' m' d'
 |
  0,k,y,m,d,h,hr=>by
  have e2:Int.tmod (D.getD i 0) 71=(D.getD i 0)%71:=Z64 hD.1
  refine ⟨y,m,d,.done λrec=>?_,hr⟩
  unfold z155.l2P
  simp only
  rw [if_pos (by omega),Zi,Qg (by omega) (by omega),e2,Qc (by omega)]
  congr 2;omega
 |
  f+1,k,y,m,d,h,hr=>by
  have e2:Int.tmod (D.getD i 0) 71=(D.getD i 0)%71:=Z64 hD.1
  obtain ⟨y1,m1,d1,ok,hn,hok⟩:=Qqg hr
  have hst:∀rec:(Int×Int×Int×Int)->Option (Int×Int×Int×Int),z155.l2P (i:Int) D rec some ((k:Int),y,m,d)=if ok=true then rec (((k+1:Nat):Int),y1,m1,d1) else rec (((k+1:Nat):Int),y,m,d):=λrec=>by
   unfold z155.l2P
   simp only
   rw [if_pos (by omega),Zi,Qg (by omega) (by omega),e2,bif_t (by omega),hn,Zb,Qg (n:=(k:Int)+1) (by omega) (by omega)]
   cases ok<;>rfl
  cases ok with
  |
   true=>
   obtain ⟨y',m',d',r,hr'⟩:=Qhl hi hi2 hD f (k+1) y1 m1 d1 (by omega) (hok rfl)
   exact ⟨y',m',d',.step (λrec=>by rw [hst,if_pos rfl]) r,hr'⟩
  |
   false=>
   obtain ⟨y',m',d',r,hr'⟩:=Qhl hi hi2 hD f (k+1) y m d (by omega) hr
   exact ⟨y',m',d',.step (λrec=>by rw [hst,if_neg (by simp)]) r,hr'⟩
abbrev MS:=Int×J2×Int×Int×Int
theorem Qkz {acc:List Evt} (hacc:acc.length<=100) {i:Nat} (hi:i<=100) {k:Int} (hk:0<=k/\k<256) (o:Int×Int×Int×Int) {t:J1} (ht:t.length<=200) :
  ∃e:Evt,e.v.length<=200/\∀rec:MS->Option MS,z155.j2030a rec some k (acc.map Evt.r) o (i:Int) t=rec (((i+1:Nat):Int),(acc++[e]).map Evt.r,o.2.1,o.2.2.1,o.2.2.2):=by
 have w:wr .i64 ((i:Int)+1)=((i+1:Nat):Int):=by rw [Qg (by omega) (by omega)];rfl
 have push:∀(v:J1) (rec:MS->Option MS),(if ((acc.map Evt.r).length+(([[(.int .i64 (Int.tmod k (4:Int))),(.int .i64 o.2.1),(.int .i64 o.2.2.1),(.int .i64 o.2.2.2),(.str v)]]:J2)).length)*48<=140737488355328 then (rec ((wr .i64 ((i:Int)+(1:Int))),((acc.map Evt.r)++([[(.int .i64 (Int.tmod k (4:Int))),(.int .i64 o.2.1),(.int .i64 o.2.2.1),(.int .i64 o.2.2.2),(.str v)]]:J2)),o.2.1,o.2.2.1,o.2.2.2)) else none)=rec (((i+1:Nat):Int),(acc++[(⟨Int.tmod k 4,o.2.1,o.2.2.1,o.2.2.2,v⟩:Evt)]).map Evt.r,o.2.1,o.2.2.1,o.2.2.2):=λv rec=>by
  have l2:(acc.map Evt.r).length=acc.length:=by simp
  rw [l2,if_pos (by show (acc.length+1)*48<=_;omega),w,Z87];rfl
 by_cases h0:Int.tmod k 4=0
 ·by_cases h1:Int.tmod (wr .i64 (Int.tdiv k 4)) 3=0
  ·refine ⟨⟨Int.tmod k 4,o.2.1,o.2.2.1,o.2.2.2,t⟩,ht,λrec=>?_⟩
   unfold z155.j2030a
   rw [bif_t h0,Zt h1]
   exact push t rec
  ·refine ⟨⟨Int.tmod k 4,o.2.1,o.2.2.1,o.2.2.2,kDue⟩,(show kDue.length<=200 by decide),λrec=>?_⟩
   unfold z155.j2030a
   rw [bif_t h0,Zf h1]
   exact push kDue rec
 ·refine ⟨⟨Int.tmod k 4,o.2.1,o.2.2.1,o.2.2.2,t⟩,ht,λrec=>?_⟩
  unfold z155.j2030a
  rw [Qc h0]
  exact push t rec
theorem Qpi {z:Int} (h:0<=z/\z<=4294967296):(itxt z).length<=20/\sz z.natAbs<=100000000:=by
 have h1:sz z.natAbs<=10:=Qx (k:=10) (by omega)
 have h2:=Qwi z
 exact ⟨by omega,by omega⟩
theorem Qiy {acc:List Evt} (hacc:acc.length<=100) {i:Nat} (hi:i<=100) {k v:Int} (hk:0<=k/\k<256) (hv:0<=v/\v<=4294967296) (o:Int×Int×Int×Int) :
  ∃e:Evt,e.v.length<=200/\∀rec:MS->Option MS,z155.j2024a rec some v k (acc.map Evt.r) o (i:Int)=rec (((i+1:Nat):Int),(acc++[e]).map Evt.r,o.2.1,o.2.2.1,o.2.2.2):=by
 have e2:Int.tmod v 900=v%900:=Z64 hv.1
 have at28:∀z:Int,0<=z/\z<=4294967296->∃e:Evt,e.v.length<=200/\∀rec:MS->Option MS,z155.j2028a rec some k (dg z.natAbs) (neg z) (acc.map Evt.r) o (i:Int)=rec (((i+1:Nat):Int),(acc++[e]).map Evt.r,o.2.1,o.2.2.1,o.2.2.2):=λz hz=>by
  obtain ⟨l1,l2⟩:=Qpi hz
  by_cases h3:Int.tmod k 4=3
  ·obtain ⟨e,h1,h2⟩:=Qkz hacc hi hk o (t:=[]) (by simp)
   refine ⟨e,h1,λrec=>?_⟩
   unfold z155.j2028a
   rw [Zt h3]
   exact h2 rec
  ·obtain ⟨e,h1,h2⟩:=Qkz hacc hi hk o (t:=itxt z) (by omega)
   refine ⟨e,h1,λrec=>?_⟩
   unfold z155.j2028a
   rw [Zf h3]
   simp only [Zo,Zd]
   rw [Qsh l2,Zb]
   exact h2 rec
 by_cases h2:Int.tmod k 4=2
 ·obtain ⟨e,h3,h4⟩:=at28 (v%900) (by omega)
  refine ⟨e,h3,λrec=>?_⟩
  unfold z155.j2024a
  rw [Qac (z:=v) (by omega),Zb,bif_t h2,e2,Qac (z:=v%900) (by omega),Zb]
  exact h4 rec
 ·obtain ⟨e,h3,h4⟩:=at28 v hv
  refine ⟨e,h3,λrec=>?_⟩
  unfold z155.j2024a
  rw [Qac (z:=v) (by omega),Zb,Qc h2]
  exact h4 rec
theorem Qky {D K U:J0} (hD:∀n∈D,0<=n/\n<256) (hK:∀n∈K,0<=n/\n<256) (hU:∀n∈U,0<=n/\n<4294967296):∀(f i:Nat) (acc:List Evt) (y m d:Int),i+f=16->acc.length<=i->(∀e∈acc,e.v.length<=200)->right y m d ->
  ∃x:MS,∃E:List Evt,Runs (λrec x=>z155.l0aP D K U rec some x) ((i:Int),acc.map Evt.r,y,m,d) x/\x.2.1=E.map Evt.r/\E.length<=16/\∀e∈E,e.v.length<=200
 |
  0,i,acc,y,m,d,h,ha,hv,hr=>by
  refine ⟨((i:Int),acc.map Evt.r,y,m,d),acc,.done λrec=>?_,rfl,by omega,hv⟩
  unfold z155.l0aP
  simp only
  by_cases hl:(i:Int)<((D.length:Nat):Int)
  ·rw [bif_t hl,Qc (by omega)]
  ·rw [Qc hl]
 |
  f+1,i,acc,y,m,d,h,ha,hv,hr=>by
  by_cases hl:i<D.length
  ·have mem:∀{l:J0} {j:Nat},j<l.length->l.getD j 0∈l:=λ{l j} hj=>by
    rw [Zl,Z1 hj];exact Z9 hj
   obtain ⟨y1,m1,d1,r,hr1⟩:=Qhl hl (by omega) (hD _ (mem hl)) _ 0 y m d (Z29 _) hr
   have e1:z155.l2 (i:Int) D (0,y,m,d)=some ((((D.getD i 0)%71).toNat:Int),y1,m1,d1):=r.lfp
   generalize ((((D.getD i 0)%71).toNat:Nat):Int)=q at e1
   have hval:∀k:Int,0<=k/\k<256->∃e:Evt,e.v.length<=200/\∀rec:MS->Option MS,z155.j2023a rec some (i:Int) U k (acc.map Evt.r) (q,y1,m1,d1)=rec (((i+1:Nat):Int),(acc++[e]).map Evt.r,y1,m1,d1):=λk hk=>by
    by_cases hu:i<U.length
    ·have:=hU _ (mem hu)
     obtain ⟨e,h1,h2⟩:=Qiy (acc:=acc) (by omega) (i:=i) (by omega) hk (v:=1+U.getD i 0) (by omega) (q,y1,m1,d1)
     refine ⟨e,h1,λrec=>?_⟩
     unfold z155.j2023a
     rw [bif_t (by omega),if_pos (by omega),Zi,Qg (n:=U.getD i 0) (by omega) (by omega),Qg (by omega) (by omega)]
     exact h2 rec
    ·obtain ⟨e,h1,h2⟩:=Qiy (acc:=acc) (by omega) (i:=i) (by omega) hk (v:=100*((i:Int)+1)) (by omega) (q,y1,m1,d1)
     refine ⟨e,h1,λrec=>?_⟩
     unfold z155.j2023a
     rw [Qc (by omega),Qg (n:=(i:Int)+1) (by omega) (by omega),Qg (by omega) (by omega)]
     exact h2 rec
   have hkind:∃k:Int,(0<=k/\k<256)/\∀rec:MS->Option MS,z155.l0aP D K U rec some ((i:Int),acc.map Evt.r,y,m,d)=z155.j2023a rec some (i:Int) U k (acc.map Evt.r) (q,y1,m1,d1):=by
    by_cases hk:i<K.length
    ·have:=hK _ (mem hk)
     refine ⟨K.getD i 0,this,λrec=>?_⟩
     unfold z155.l0aP
     simp only
     rw [bif_t (by omega),bif_t (by omega),e1,Zb,bif_t (by omega),if_pos (by omega),Zi,Qg (by omega) (by omega)]
    ·refine ⟨(i:Int),by omega,λrec=>?_⟩
     unfold z155.l0aP
     simp only
     rw [bif_t (by omega),bif_t (by omega),e1,Zb,Qc (by omega)]
   obtain ⟨k,hk,hst⟩:=hkind
   have hev:=hval k hk
   obtain ⟨e,he,hev⟩:=hev
   obtain ⟨x,E,hx,h1,h2,h3⟩:=Qky hD hK hU f (i+1) (acc++[e]) y1 m1 d1 (by omega) (by simp;omega) (λe' h'=>by
    rcases Z41.1 h' with h'|h'
    ·exact hv e' h'
    ·simp only [List.mem_singleton] at h';subst h';exact he) hr1
   exact ⟨x,E,.step (λrec=>by rw [hst,hev]) hx,h1,h2,h3⟩
  ·refine ⟨((i:Int),acc.map Evt.r,y,m,d),acc,.done λrec=>?_,rfl,by omega,hv⟩
   unfold z155.l0aP
   simp only
   rw [Qc (by omega)]
theorem Qkv:∀{L:J2},(∀r∈L,okSL [.i .i64,.i .i64,.i .i64,.i .i64,.s] r)->∃E:List Evt,L=E.map Evt.r
 |[],_=>⟨[],rfl⟩
 |
  r::L,h=>by
  obtain ⟨l,rfl⟩:=Qkv (L:=L) λx hx=>h x (List.mem_cons_of_mem _ hx)
  obtain ⟨_,_,rfl,⟨n0,rfl,_⟩,_,_,rfl,⟨n1,rfl,_⟩,_,_,rfl,⟨n2,rfl,_⟩,_,_,rfl,⟨n3,rfl,_⟩,_,_,rfl,⟨s0,rfl,_⟩,rfl⟩:=h r (List.mem_cons_self ..)
  exact ⟨⟨n0,n1,n2,n3,s0⟩::l,rfl⟩
theorem raw_loop (L:List Evt) (hL:L.length<=100):∀(f i:Nat),i+f=L.length->(∃x,Runs (λrec x=>z155.l0P (L.map Evt.r) (((L.map Evt.r).length:Nat):Int) rec some x) (i:Int) (.inl x)/\∀e∈L.drop i,e.v.length<=200)\/Runs (λrec x=>z155.l0P (L.map Evt.r) (((L.map Evt.r).length:Nat):Int) rec some x) (i:Int) (.inr true)
 |
  0,i,h=>by
  have l2:(L.map Evt.r).length=L.length:=by simp
  refine .inl ⟨(i:Int),.done λrec=>?_,λe he=>?_⟩
  ·unfold z155.l0P
   rw [Qc (by omega)]
  ·rw [Z55 (by omega)] at he;simp at he
 |
  f+1,i,h=>by
  have hi:i<L.length:=by omega
  have l2:(L.map Evt.r).length=L.length:=by simp
  have hst:∀rec:Int->Option PrR,z155.l0P (L.map Evt.r) (((L.map Evt.r).length:Nat):Int) rec some (i:Int)=if 200<L[i].v.length then some (.inr true) else rec ((i+1:Nat):Int):=λrec=>by
   unfold z155.l0P
   rw [bif_t (by omega),if_pos (by omega),Zi,Jc hi]
   simp only [eK,eY,eM,eD,eV]
   by_cases hg:200<L[i].v.length
   ·rw [bif_t (by omega),if_pos hg,Qnc];rfl
   ·rw [Qc (by omega),if_neg hg,Qg (by omega) (by omega)];rfl
  by_cases hg:200<L[i].v.length
  ·exact .inr (.done λrec=>by rw [hst,if_pos hg])
  ·rcases raw_loop L hL f (i+1) (by omega) with ⟨x,hx,hall⟩|hx
   ·refine .inl ⟨x,.step (λrec=>by rw [hst,if_neg hg]) hx,λe he=>?_⟩
    rw [Z17 hi] at he
    rcases Z62.1 he with rfl|he
    ·omega
    ·exact hall e he
   ·exact .inr (.step (λrec=>by rw [hst,if_neg hg]) hx)
theorem Quc {a0 a1 a2:Int} {a3 a4 a5:J0} {a6:J2} (h3:(∀n∈a3,(Lit.int .u8 n).wf=true)/\a3.length<=maxLen) (h4:(∀n∈a4,(Lit.int .u8 n).wf=true)/\a4.length<=maxLen) (h5:(∀n∈a5,(Lit.int .u32 n).wf=true)/\a5.length<=maxLen)
  (h6:(∀r∈a6,okSL [.i .i64,.i .i64,.i .i64,.i .i64,.s] r)/\a6.length<=maxLen):z155.F a0 a1 a2 a3 a4 a5 a6=some true:=by
 obtain ⟨E0,rfl⟩:=Qkv h6.1
 have l6:(E0.map Evt.r).length=E0.length:=by simp
 have hc:(0:Int)<=(if (4:Int)<(((E0.map Evt.r).length:Nat):Int) then (4:Int) else (((E0.map Evt.r).length:Nat):Int))/\(if (4:Int)<(((E0.map Evt.r).length:Nat):Int) then (4:Int) else (((E0.map Evt.r).length:Nat):Int))<=((E0.map Evt.r).length:Int):=by
  split<;>omega
 have ht:∃B:List Evt,(E0.map Evt.r).take (if (4:Int)<(((E0.map Evt.r).length:Nat):Int) then (4:Int) else (((E0.map Evt.r).length:Nat):Int)).toNat=B.map Evt.r/\B.length<=4:=
  ⟨E0.take _,by rw [List.map_take],by rw [Z13];split<;>omega⟩
 obtain ⟨B,hB,hBl⟩:=ht
 unfold z155.F
 rw [if_pos hc]
 simp only [hB]
 have lB:(B.map Evt.r).length=B.length:=by simp
 rcases raw_loop B (by omega) B.length 0 (by omega) with ⟨x,hx,hall⟩|hx
 ·have e0:z155.l0 (B.map Evt.r) (((B.map Evt.r).length:Nat):Int) 0=some (.inl x):=hx.lfp
  rw [Z45] at hall
  obtain ⟨y,m,d,hm,hr,_⟩:=Qrl (a:=a0) (b:=a1) (c:=a2) (n:=9990) (by decide)
  have hs:z147.F a0 a1 a2 a3 a4 a5=some (y,m,d):=by
   unfold z147.F
   rw [hm];rfl
  obtain ⟨q,E,hq,q1,q2,q3⟩:=Qky (D:=a3) (K:=a4) (U:=a5) (λn hn=>Qln (h3.1 n hn)) (λn hn=>Qln (h4.1 n hn)) (λn hn=>Qr8 (h5.1 n hn)) 16 0 [] y m d (by omega) (by simp) (by simp) hr
  have e1:z155.l0a a3 a4 a5 (0,[],y,m,d)=some q:=hq.lfp
  have lE:(E.map Evt.r).length=E.length:=by simp
  rw [e0,Zb]
  simp only
  rw [hs,Zb]
  simp only
  rw [e1,Zb,q1,if_pos (by omega),<-Z87]
  have r3:Runs (λrec x=>z155.l2aP [[.recs false 5 (E.map Evt.r)],[.recs false 5 (B.map Evt.r)],[.recs false 5 ((E++B).map Evt.r)]] ((3:Nat):Int) rec some x) ((0:Nat):Int) (.inl ((3:Nat):Int)):=by
   refine .step (Qgl (T:=[[.recs false 5 (E.map Evt.r)],[.recs false 5 (B.map Evt.r)],[.recs false 5 ((E++B).map Evt.r)]]) (i:=0) (L:=E) (show 0<3 by decide) (show 3<=100 by decide) rfl (by omega) q3) ?_
   refine .step (Qgl (T:=[[.recs false 5 (E.map Evt.r)],[.recs false 5 (B.map Evt.r)],[.recs false 5 ((E++B).map Evt.r)]]) (i:=1) (L:=B) (show 1<3 by decide) (show 3<=100 by decide) rfl (by omega) hall) ?_
   refine .step (Qgl (T:=[[.recs false 5 (E.map Evt.r)],[.recs false 5 (B.map Evt.r)],[.recs false 5 ((E++B).map Evt.r)]]) (i:=2) (L:=E++B) (show 2<3 by decide) (show 3<=100 by decide) rfl (by rw [Z3];omega) (λe he=>(Z41.1 he).elim (q3 e) (hall e))) ?_
   refine .done λrec=>?_
   unfold z155.l2aP
   rw [Qc (by omega)]
  have e2:z155.l2a [[.recs false 5 (E.map Evt.r)],[.recs false 5 (B.map Evt.r)],[.recs false 5 ((E++B).map Evt.r)]] ((3:Nat):Int) 0=some (.inl ((3:Nat):Int)):=r3.lfp
  change ((z155.l2a [[.recs false 5 (E.map Evt.r)],[.recs false 5 (B.map Evt.r)],[.recs false 5 ((E++B).map Evt.r)]] ((3:Nat):Int) 0).bind _)=_
  rw [e2,Zb]
  simp only
  rw [Qnc];rfl
 ·have e0:z155.l0 (B.map Evt.r) (((B.map Evt.r).length:Nat):Int) 0=some (.inr true):=hx.lfp
  rw [e0];rfl
end Go.Proofs.YtjfipepaaddlmaaGreatDoor.A
end
section
set_option linter.unusedVariables false
namespace Go.Proofs.YtjfipepaaddlmaaGreatDoor.A
open Go
namespace ScriptPrints
theorem law (a0:Int) (a1:Int) (a2:Int) (a3:J0) (a4:J0) (a5:J0) (a6:J2) (h0:(Lit.int .i64 a0).wf=true) (h1:(Lit.int .i64 a1).wf=true) (h2:(Lit.int .i64 a2).wf=true) (h3:(∀n∈a3,(Lit.int .u8 n).wf=true)/\a3.length<=maxLen) (h4:(∀n∈a4,(Lit.int .u8 n).wf=true)/\a4.length<=maxLen) (h5:(∀n∈a5,(Lit.int .u32 n).wf=true)/\a5.length<=maxLen) (h6:(∀r∈a6,okSL [(.i .i64),(.i .i64),(.i .i64),(.i .i64),.s] r)/\a6.length<=maxLen):z155.F a0 a1 a2 a3 a4 a5 a6=some true:=
 Quc h3 h4 h5 h6
end ScriptPrints
end Go.Proofs.YtjfipepaaddlmaaGreatDoor.A
end
section
set_option maxRecDepth 100000
namespace Go.Proofs.YtjfipepaaddlmaaGreatDoor.A
open Go Go.RowKit Go.ChangeShapes Go.WideShapes Go.ChangeAt
noncomputable section
namespace ScriptPrints
theorem wide:Qa4 Tryz.prog 8 Tryz.f6.params.toList=some [(.agg [.sc (.i .i64),.sc (.i .i64),.sc (.i .i64),.sl [(.i .u8)],.sl [(.i .u8)],.sl [(.i .u32)]]),(.one (.sl [(.i .i64),(.i .i64),(.i .i64),(.i .i64),.s]))]:=by kernel_rfl
theorem readable:Tryz.f6.params.toList.all (λt=>Tryz.prog.readableRec t&&decide (t<Tryz.prog.types.size))=true:=by kernel_rfl
noncomputable def args0:Array Value:=#[.agg #[.int .i64 0,.int .i64 0,.int .i64 0,.slice none 0 0,.slice none 0 0,.slice none 0 0],.slice none 0 0]
theorem laid_met (os:Os):laidMet Tryz.prog Rows.scriptPrintsRow.laid ((Qf9 os).forCall (λ_ _=>0) ⟨#[],args0,[]⟩).memory:=
 laidMet_of_run' 12 (by kernel_rfl) (by kernel_rfl)
theorem reads (os:Os) {H:Type} (enc:TypeId×Value->H):∃ds places,DataW.whole enc Tryz.prog ((Qf9 os).forCall (λ_ _=>0) ⟨#[],args0,[]⟩).memory Tryz.f6.params.toList Rows.scriptPrintsSpec.vars false args0.toList 12=some (ds,[],places):=
 ⟨[.agg [.agg [.lit (.int .i64 0),.lit (.int .i64 0),.lit (.int .i64 0)],.nil,.nil,.nil],.nil],[],by kernel_rfl⟩
theorem plainly (vs:List V) (h:okAL [(.agg [.sc (.i .i64),.sc (.i .i64),.sc (.i .i64),.sl [(.i .u8)],.sl [(.i .u8)],.sl [(.i .u32)]]),(.one (.sl [(.i .i64),(.i .i64),(.i .i64),(.i .i64),.s]))] vs):∃p r,SoundC Tryz.prog 6 vs p/\p.m=some r/\p.enc r=.bool true:=by
 obtain ⟨_,_,rfl,⟨_,rfl,_,_,rfl,⟨a0,rfl,h0⟩,_,_,rfl,⟨a1,rfl,h1⟩,_,_,rfl,⟨a2,rfl,h2⟩,_,_,rfl,⟨a3,rfl,h3⟩,_,_,rfl,⟨a4,rfl,h4⟩,_,_,rfl,⟨a5,rfl,h5⟩,rfl⟩,_,_,rfl,⟨a6,rfl,h6⟩,rfl⟩:=h
 exact ⟨⟨Bool,z155.F a0 a1 a2 a3 a4 a5 a6,z8.enc⟩,true,z155.sound _ _ (by kernel_rfl),law a0 a1 a2 a3 a4 a5 a6 h0 h1 h2 h3 h4 h5 h6,rfl⟩
theorem specFn {H:Type} (ds:List (DataW H)) (h:ds.length=Tryz.f6.params.toList.length):Rows.scriptPrintsSpec.fn H ds={results:=[.lit (.bool true)],args:=ds}:=by
 have h:ds.length=2:=h.trans (by kernel_rfl)
 match ds,h with
 |[d0,d1],_=>rfl
theorem clos:Tryz.prog.closure 6=[6,26,24,70,119,163,207,208,209,238,210,189,229,172,213,164,190,230,240,192,191,43,91,120,165,166,167,168,169,170,171,161,204,211,239,148,193,231,212,205,234,235,236,251,256,162,108,157,104,206,237,145,102,53,103,52,60,71,121,123,122,124,173,133,175,216,217,115,153,195,160,125,134,176,218,117,16,242,252,257,241,194,66,12,54,105,154,196,106,177,219,180,224,215,220,243,245,246,214,221,244,254,253,258,107,109,155,197,198,232,156,199,200,201,202,203,233,223,222,247,255,174,13,55,110,78,135,178,80,31,30,77,79,136,179,137,181,36,86,144,88,146,188,89,38,29,46,96,149,28,47,48,97,69,14,56,32,81,75,82,138,182,225,23,226,248,249,158,250,159,113,114,131,111,183,141,184,227,228,142,59,58,112,187,185,84,140,186,57,33,83,139,85,143,27]:=by kernel_rfl
theorem inPlace:(Rows.scriptPrintsRow.inPlace == Tryz.prog.inPlace 6)=true:=by unfold Program.inPlace;rw [clos];kernel_rfl
theorem unfollowed:(Rows.scriptPrintsRow.unfollowed == Tryz.prog.unfollowed 6)=true:=by unfold Program.unfollowed;rw [clos];kernel_rfl
theorem recurses:(Rows.scriptPrintsRow.recurses == Tryz.prog.recurses 6)=true:=by unfold Program.recurses Program.unfollowed;rw [clos];kernel_rfl
theorem named:(Rows.scriptPrintsRow.named == Tryz.prog.varsNamed 6)=true:=by unfold Program.varsNamed;rw [clos];kernel_rfl
theorem number:Tryz.prog.funcNamed "chattel/chattellaw23.ScriptPrints" = some 6:=by kernel_rfl
theorem goes:false=Rows.scriptPrintsRow.goesBy Tryz.prog:=by
 have h:Tryz.prog.goes 6=false:=by unfold Program.goes Program.unfollowed;rw [clos];kernel_rfl
 have e:Rows.scriptPrintsRow.goesBy Tryz.prog=((Tryz.prog.funcNamed "chattel/chattellaw23.ScriptPrints").any Tryz.prog.goes||false):=by kernel_rfl
 rw [e,number]
 simp [h]
theorem j_wf:Rows.scriptPrintsRow.wf (OpenSpec.ofChange (OpenSpec.ofChange Rows.scriptPrintsSpec).bare)=true:=by kernel_rfl
theorem j_params:(Tryz.f6.params.all (Tryz.pinned.checked.prog.readableRec ·))=true:=by kernel_rfl
theorem j_vars:namedTie Tryz.pinned.checked.prog Rows.scriptPrintsRow.named (OpenSpec.ofChange Rows.scriptPrintsSpec).bare.vars=true:=by kernel_rfl
theorem j_stops:(Rows.scriptPrintsRow.stops == [])=true:=by kernel_rfl
theorem j_knobs:(Rows.scriptPrintsRow.knobs == [])=true:=by kernel_rfl
theorem j_maps:(Rows.scriptPrintsRow.maps == (Tryz.f6.params.toList++DataSpec.varTypes Tryz.pinned.checked.prog (OpenSpec.ofChange Rows.scriptPrintsSpec).bare.plain).any (Tryz.pinned.checked.prog.mapsRec ·))=true:=by kernel_rfl
theorem j_ifaces:(Rows.scriptPrintsRow.ifaces == (Tryz.f6.params.toList++DataSpec.varTypes Tryz.pinned.checked.prog (OpenSpec.ofChange Rows.scriptPrintsSpec).bare.plain).any (Tryz.pinned.checked.prog.ifacesRec ·))=true:=by kernel_rfl
theorem j_mapsOut:(Rows.scriptPrintsRow.mapsOut == Tryz.pinned.checked.prog.mapsAmong Tryz.f6.resultTypes.toList)=true:=by kernel_rfl
theorem j_loops:(Rows.scriptPrintsRow.loops == (Tryz.f6.params.toList++DataSpec.varTypes Tryz.pinned.checked.prog (OpenSpec.ofChange Rows.scriptPrintsSpec).bare.plain).any (Tryz.pinned.checked.prog.loopsFrom ·))=true:=by kernel_rfl
theorem j_wideKeys:(Rows.scriptPrintsRow.wideKeys == (Tryz.f6.params.toList++DataSpec.varTypes Tryz.pinned.checked.prog (OpenSpec.ofChange Rows.scriptPrintsSpec).bare.plain++Tryz.f6.resultTypes.toList).any (Tryz.pinned.checked.prog.wideKeysFrom ·))=true:=by kernel_rfl
theorem j_varsRead:(OpenSpec.ofChange Rows.scriptPrintsSpec).bare.vars.all (Tryz.pinned.checked.prog.varReadable ·)=true:=by kernel_rfl
theorem j_results:(Tryz.f6.resultTypes.all λt=>Tryz.pinned.checked.prog.readableRec t&&decide (t<Tryz.pinned.checked.prog.types.size))=true:=by kernel_rfl
theorem j_ifacesOut:(Rows.scriptPrintsRow.ifacesOut == Tryz.f6.resultTypes.toList.any (Tryz.pinned.checked.prog.ifacesRec ·))=true:=by kernel_rfl
theorem j_loopsOut:(Rows.scriptPrintsRow.loopsOut == Tryz.f6.resultTypes.toList.any (Tryz.pinned.checked.prog.loopsFrom ·))=true:=by kernel_rfl
theorem j_plainKeys:(Rows.scriptPrintsRow.plainKeys == Tryz.pinned.checked.prog.plainKeys)=true:=by kernel_rfl
theorem j_short:Rows.scriptPrintsRow.shortTexts.isNone=true:=by kernel_rfl
theorem j_lift:(Rows.scriptPrintsRow.lifted == Tryz.pinned.checked.prog.liftsFinal)=true:=by kernel_rfl
theorem j_make:(Tryz.pinned.checked.prog.make == some Rows.scriptPrintsRow.make)=true:=by kernel_rfl
theorem j_kinds:(Rows.scriptPrintsRow.kinds == (if Rows.scriptPrintsRow.domain.isEmpty then [] else Tryz.f6.params.toList.map λt=>match Tryz.pinned.checked.prog.underlying t with|some (.int k)=>some k|_=>none))=true:=by kernel_rfl
theorem j_pinned:(Rows.scriptPrintsRow.pinned == Rows.scriptPrintsRow.pinnedBy)=true:=by kernel_rfl
theorem j_veiled:(Rows.scriptPrintsRow.veiled == (Tryz.f6.params.toList++DataSpec.varTypes Tryz.pinned.checked.prog (OpenSpec.ofChange Rows.scriptPrintsSpec).bare.plain++Tryz.f6.resultTypes.toList).any (Tryz.pinned.checked.prog.veiledRec ·))=true:=by kernel_rfl
theorem j_veiledFits:Rows.scriptPrintsRow.veiledFits Tryz.pinned.checked.prog Tryz.f6.params.toList (Tryz.f6.params.toList++DataSpec.varTypes Tryz.pinned.checked.prog (OpenSpec.ofChange Rows.scriptPrintsSpec).bare.plain++Tryz.f6.resultTypes.toList)=true:=by kernel_rfl
theorem joined:joinedFacts Tryz.pinned.checked.prog 6 Tryz.f6 (OpenSpec.ofChange Rows.scriptPrintsSpec).bare Rows.scriptPrintsRow=true:=by
 unfold joinedFacts
 simp only [Z4]
 and_intros
 ·exact j_wf
 ·exact laidOut
 ·exact rowed
 ·exact j_params
 ·exact j_vars
 ·exact j_stops
 ·exact Qu8
 ·exact j_knobs
 ·exact Qte
 ·exact inPlace
 ·exact unfollowed
 ·exact recurses
 ·exact named
 ·exact j_maps
 ·exact j_ifaces
 ·exact j_mapsOut
 ·exact j_loops
 ·exact j_wideKeys
 ·exact j_varsRead
 ·exact j_results
 ·exact j_ifacesOut
 ·exact j_loopsOut
 ·exact j_plainKeys
 ·exact j_short
 ·exact Qt2
 ·exact Qpv
 ·exact j_lift
 ·exact j_make
 ·exact j_kinds
 ·exact j_pinned
 ·exact j_veiled
 ·exact j_veiledFits
theorem lifted (os:Os) (started:os.Started) (H:Type) (enc:TypeId×Value->H) (F:Stop.Interp) :
  ReturnsInHanded {} Tryz.checked os 6 .any ((OpenSpec.ofChange Rows.scriptPrintsSpec).preRow enc Tryz.prog Tryz.f6 Rows.scriptPrintsRow.domain false Rows.scriptPrintsRow.laid) (((OpenSpec.ofChange Rows.scriptPrintsSpec).at F).post enc Tryz.prog Tryz.f6 false true false false):=by
 obtain ⟨ds0,places,hx⟩:=reads os enc
 refine returnsInHanded_of_row (C:=Tryz.checked) (s:=OpenSpec.ofChange Rows.scriptPrintsSpec) own started (by kernel_rfl) Tryz.func6
  (witness_row_at (enc:=enc) (C:=Tryz.checked) false (Qf9 os) args0 rfl (by kernel_rfl) (by kernel_rfl) (by kernel_rfl)
   (OpenSpec.preRow_of_cond 12 hx (by kernel_rfl) (λk hk=>by cases hk) (by kernel_rfl) (laid_met os))) ?_
 intro W base args ds gs before hval hW _ _ _ hL _ _
 exact Qo5 fun6 laidOut readable wide (tb:=4) (by kernel_rfl) (by kernel_rfl) rfl specFn plainly W base args ds gs before hval hW
theorem wrapped:Tryz.f6.isWrapper Tryz.pinned.checked.prog Rows.scriptPrintsRow.wrapper Rows.scriptPrintsRow.mainSum:=by
 unfold Func.isWrapper;first|(rw [if_pos (by decide +kernel)];kernel_rfl)|(rw [if_neg (by decide +kernel)];exact ⟨rfl,rfl⟩)
theorem origin:Tryz.f6.isInstance Tryz.pinned.checked.prog Rows.scriptPrintsRow.origin Rows.scriptPrintsRow.targs:=of_decide_eq_true (by kernel_rfl)
theorem said:Rows.ScriptPrintsSaid:=
 OpenClaim.holds_of_cond 6 Tryz.f6 rfl rfl rfl rfl rfl rfl rfl ⟨rfl,rfl,rfl,rfl,rfl⟩ rfl rfl rfl rfl rfl number Tryz.func6 joined origin wrapped
  (λos started H enc _ F=>by rw [OpenClaim.pre_eq_preRow];exact lifted os started H enc F)
theorem plainRow (f:FuncId) (fn:Func) (hf:Tryz.pinned.checked.prog.funcNamed "chattel/chattellaw23.ScriptPrints" = some f) (hfn:Tryz.pinned.checked.prog.funcs[f]? = some fn) :
  false=Tryz.pinned.checked.prog.looks []/\∀(j:Nat) t,fn.params[j]? = some t->Tryz.pinned.checked.prog.wantsStandIn t=false:=by
 obtain rfl:f=6:=Option.some.inj (number.symm.trans hf) |>.symm
 obtain rfl:fn=Tryz.f6:=(Option.some.inj (Tryz.func6.symm.trans hfn)).symm
 refine ⟨Qs5,λj t ht=>?_⟩
 have hall:Tryz.f6.params.toList.all (λt=>!Tryz.prog.wantsStandIn t)=true:=by kernel_rfl
 have:=Z14.1 hall t (by simpa using Array.mem_of_getElem? ht)
 exact Z47 _ |>.mp this
theorem card:Rows.ScriptPrintsCardSaid:=
 Claim7.holds_tied_plain_at .later [] _ _ _ _ said (λ_ h=>by cases h) (by kernel_rfl) (λ_ h=>by cases h) scriptPrints_row_tie rfl ⟨rfl,rfl⟩ main rfl plainRow goes
end ScriptPrints
end
end Go.Proofs.YtjfipepaaddlmaaGreatDoor.A
end
