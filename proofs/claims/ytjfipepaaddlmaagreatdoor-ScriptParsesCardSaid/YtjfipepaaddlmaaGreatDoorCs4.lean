/- Part 4 of the proof of ScriptParses.card. -/
import Derived.Test.YtjfipepaaddlmaaGreatDoorCs3
import Derived.Deep.DeepHandedRow
import Derived.Lib.LaidTab
set_option linter.unusedVariables false
set_option linter.unusedSimpArgs false
section
namespace Go.Proofs.YtjfipepaaddlmaaGreatDoor.A
open Go
def sz (n:Nat):Nat:=(toB 10 n).length
theorem Qa8 (n:Nat):n<10^sz n:=Qeu b10
theorem Qy {n k:Nat} (h:n<10^k):sz n<=k:=Yz b10 h
theorem Jx {m n:Nat} (h:m<=n):sz m<=sz n:=Qy (Nat.lt_of_le_of_lt h (Qa8 n))
theorem Wa (n:Nat):(lb n).length<=sz n:=Yz bL (Z12 (Qa8 n) (Nat.pow_le_pow_left (by decide) _))
theorem We (n:Nat):(dg n).length<=sz n:=Yz b4 (Z12 (Qa8 n) (Nat.pow_le_pow_left (by decide) _))
theorem W0 (m n:Nat):sz (m*n)<=sz m+sz n:=Qy (by rw [Z88];exact Nat.mul_lt_mul_of_lt_of_le (Qa8 m) (Z61 (Qa8 n)) (Z93 (by decide)))
theorem Qfh:sz 0=0:=by simp [sz,toB_zero]
theorem lb_zero:lb 0=[]:=toB_zero LB
theorem Qds:dg 0=[]:=toB_zero 10000
def isD (b:UInt8):Bool:=decide (48<=b.toNat)&&decide (b.toNat<=57)
def digs (s:J1):Bool:=s.all isD
theorem J9 {s:J1}:digs s=true↔Qx s:=by simp [digs,Qx,digit,isD]
theorem Qki (b c:UInt8):(b == c)=decide (b.toNat=c.toNat):=by
 rw [Z49];simp [UInt8.toNat_inj]
theorem Qno (b:UInt8):([48,49,50,51,52,53,54,55,56,57]:J1).contains b=isD b:=by
 rw [Z49]
 simp only [List.contains_cons,List.contains_nil,Qki,isD]
 simp
 omega
theorem Qcx {α:Type} {p:α->Bool}:∀{l:List α},l.dropWhile p=[]↔∀x∈l,p x=true
 |[]=>by simp
 |
  a::l=>by
  by_cases h:p a=true
  ·rw [List.dropWhile_cons_of_pos h,Qcx (l:=l)];simp [h]
  ·rw [List.dropWhile_cons_of_neg h];simp [h]
theorem Qkw (s cs:J1):Lib.trimS s cs=[]↔∀b∈s,cs.contains b=true:=by
 unfold Lib.trimS Lib.trimLeftS Lib.trimRightS
 rw [Qcx]
 constructor
 ·intro h
  cases he:s.reverse.dropWhile (cs.contains ·) with
  |
   nil=>
   rw [Qcx] at he
   exact λb hb=>he b (List.mem_reverse.2 hb)
  |
   cons x l=>
   have h1:=List.head?_dropWhile_not (cs.contains ·) s.reverse
   rw [he] at h1
   have h2:=h x (by rw [he];simp)
   simp only [List.head?_cons] at h1
   rw [h2] at h1;simp at h1
 ·intro h
  have he:s.reverse.dropWhile (cs.contains ·)=[]:=Qcx.2 λb hb=>h b (List.mem_reverse.1 hb)
  rw [he];simp
theorem Qlk (s:J1) (hs:s.length<=9223372036854775807):∃r,z3.F s [48,49,50,51,52,53,54,55,56,57]=some r/\decide (r=[])=digs s:=by
 unfold z3.F
 rw [if_pos ⟨hs,by decide,by decide⟩]
 refine ⟨_,rfl,?_⟩
 rw [Z49,decide_eq_true_iff,Qkw,digs,Z13]
 simp only [Qno]
def numOK (s:J1):Bool:=!decide (s=[])&&digs s && !(decide (1<s.length)&&decide ((s.getD 0 0).toNat=48))
def mDigits (s:J1):Nat×Int:=if 4096<s.length then (0,7) else if numOK s then ((tv 0 s).toNat,0) else (0,5)
theorem Quk {s:J1} {i:Nat} (hi:i<s.length) (h:(s.getD i 0).toNat<128):Utf8.decode ⟨s.toArray⟩ i=((s.getD i 0).toNat,1):=by
 have e:(ByteArray.mk s.toArray).get! (i+0)=s.getD i 0:=by
  show s.toArray[i+0]! = _
  simp [List.getD,hi]
 unfold Utf8.decode
 simp only [e]
 rw [if_pos h]
theorem Qjf {n:Int} (h1:-2147483648<=n) (h2:n<2147483648):wr .i32 n=n:=by
 simp only [wr,IntKind.wrap,IntKind.signed,IntKind.bits]
 simp;omega
theorem Qlf {s:J1} (hs:Qx s) (hl:s.length<=18):∀(f i:Nat) (d:Int),i+f=s.length->0<=d/\d<(10^i:Nat) ->
  Runs (λrec x=>z37.l2P s rec some x) (d,i) (tv d (s.drop i),s.length)
 |
  0,i,d,hf,_=>by
  have:i=s.length:=by omega
  subst this
  refine .done λrec=>?_
  unfold z37.l2P
  simp only
  rw [if_neg (by omega),Z26 (Z3 _)]
  rfl
 |
  f+1,i,d,hf,hd=>by
  have hi:i<s.length:=by omega
  have hb:=hs s[i] (Z11 hi)
  unfold digit at hb
  have eg:s.getD i 0=s[i]:=by simp [List.getD,hi]
  have hp:(10^i:Nat)<=10^17:=Z53 (by decide) (by omega)
  have hp':((10^i:Nat):Int)<=100000000000000000:=Int.ofNat_le.2 hp
  have ih:=Qlf hs hl f (i+1) (10*d+(s[i].toNat:Int)-48) (by omega) ⟨by omega,by rw [Z35,Z25];omega⟩
  rw [Z21 hi]
  refine .step (λrec=>?_) ih
  unfold z37.l2P
  simp only
  rw [if_pos hi,Quk hi (by rw [eg];omega),eg]
  simp only
  rw [Qjf (by omega) (by omega),Qr (n:=(s[i].toNat:Int)-48) (by omega) (by omega),Qr (n:=10*d) (by omega) (by omega),Qr (by omega) (by omega)]
  congr 2;omega
theorem Qsr {s:J1} {n j k:Nat} (hs:Qx s) (hk:k<=s.length) (hk':k<=18) (hn:n<10^j) (hj:j<=8192) {R:Type} (rec done:(J1×Bool×J0)->Option R) :
  z37.j1011a rec done (k:Int) s (lb n)=rec (s.drop k,false,lb (n*1000000000000000000+(tv 0 (s.take k)).toNat)):=by
 have hds:Qx (s.take k):=λb hb=>hs b (Z68 hb)
 have hlen:(s.take k).length=k:=by rw [Z16];omega
 have htb:=Yh hds
 rw [hlen] at htb
 have hp:(10^k:Nat)<=10^18:=Z53 (by decide) hk'
 have hp':((10^k:Nat):Int)<=1000000000000000000:=Int.ofNat_le.2 hp
 have r:=Qlf hds (by omega) (s.take k).length 0 0 (by omega) ⟨Int.le_refl 0,by decide⟩
 have er:z37.l2a (s.take k) ((0:Int),0)=some (tv 0 (s.take k),(s.take k).length):=r.lfp
 obtain ⟨U,hU⟩:∃U:Nat,1000000000000000000=U:=⟨_,rfl⟩
 have hU':Int.toNat 1000000000000000000=U:=by omega
 have hUs:sz U<=19:=Qy (by omega)
 have hsn:=Z51 (Wa n) (Qy hn)
 have hsu:=Z51 (Wa U) hUs
 have hsm:=Z51 (Wa (n*U)) (Z51 (W0 n U) (Nat.add_le_add (Qy hn) hUs))
 have hst:=Z51 (Wa (tv 0 (s.take k)).toNat) (Qy (k:=18) (by omega))
 have e1:z15.F [(1000000000000000000:Int)]=some (lb U):=by rw [W1 (by omega),hU']
 have e2:z15.F [tv 0 (s.take k)]=some (lb (tv 0 (s.take k)).toNat):=W1 (by omega)
 have e3:z36.F (lb n) (lb U)=some (lb (n*U)):=Qai (by omega)
 have e4:z35.F (lb (n*U)) (lb (tv 0 (s.take k)).toNat)=some (lb (n*U+(tv 0 (s.take k)).toNat)):=Qff (by omega)
 have e5:(0:Int)<=(k:Int)/\(k:Int)<=((s.length:Nat):Int):=by omega
 rw [hU]
 unfold z37.j1011a
 rw [if_pos e5,Zi,er]
 simp only [Zb]
 rw [e1]
 simp only [Zb]
 rw [e3]
 simp only [Zb]
 rw [e2]
 simp only [Zb]
 rw [e4]
 simp only [Zb]
 rw [if_pos e5]
theorem Qi0:∀(m:Nat) (s:J1),s.length<=m->Qx s->∀(n j:Nat) (first:Bool),n<10^j->j+s.length<=8192->((first=true/\n=0)\/(first=false/\s.length%18=0)) ->
  ∃f',Runs (λrec x=>z37.l0P rec some x) (s,first,lb n) ([],f',lb (tv n s).toNat)
 |
  0,s,hm,hs,n,j,first,hn,hj,hf=>by
  have:s=[]:=List.length_eq_zero_iff.1 (by omega)
  subst this
  refine ⟨first,.done λrec=>?_⟩
  simp [z37.l0P,tv]
 |
  m+1,s,hm,hs,n,j,first,hn,hj,hf=>by
  by_cases hne:s=[]
  ·subst hne
   refine ⟨first,.done λrec=>?_⟩
   simp [z37.l0P,tv]
  ·have hpos:0<s.length:=Z19.2 hne
   have key:∃k:Nat,0<k/\k<=s.length/\k<=18/\(n=0\/k=18)/\(s.length-k)%18=0 /\
     ∀rec,z37.l0P rec some (s,first,lb n)=z37.j1011a rec some (k:Int) s (lb n):=by
    have hd:(!decide (s=([]:J1)))=true:=by rw [Zf hne];rfl
    rcases hf with ⟨rfl,hn0⟩|⟨rfl,h18⟩
    ·have em:Int.tmod (s.length:Int) 18=((s.length%18:Nat):Int):=by rw [Qae (by omega)];rfl
     by_cases h0:s.length%18=0
     ·refine ⟨18,by omega,by omega,by omega,.inr rfl,by omega,λrec=>?_⟩
      unfold z37.l0P
      simp only [hd,Zn,Zd,Zc]
      rw [em,bif_t (by omega)];rfl
     ·refine ⟨s.length%18,by omega,Nat.mod_le _ _,by omega,.inl hn0,by omega,λrec=>?_⟩
      unfold z37.l0P
      simp only [hd,Zn,Zd,Zc]
      rw [em,Qc (by omega)]
    ·refine ⟨18,by omega,by omega,by omega,.inr rfl,by omega,λrec=>?_⟩
     unfold z37.l0P
     simp only [hd,Zo,Zd]
     rfl
   obtain ⟨k,k0,k1,k2,k3,k4,k5⟩:=key
   have hds:Qx (s.take k):=λb hb=>hs b (Z68 hb)
   have hdd:Qx (s.drop k):=λb hb=>hs b (Z67 hb)
   have hlen:(s.take k).length=k:=by rw [Z16];omega
   have htb:=Yh hds
   rw [hlen] at htb
   have htv:tv n (s.take k)=((n*1000000000000000000+(tv 0 (s.take k)).toNat:Nat):Int):=by
    rw [Qam,hlen]
    rcases k3 with h|h
    ·subst h;simp;omega
    ·subst h
     have:((10^18:Nat):Int)=1000000000000000000:=rfl
     rw [this];omega
   have hn':n*1000000000000000000+(tv 0 (s.take k)).toNat<10^(j+k):=by
    have hp0:0<10^j:=Z93 (by decide)
    rcases k3 with h|h
    ·subst h
     have:10^k<=10^(j+k):=Z53 (by decide) (by omega)
     omega
    ·subst h
     have e18:(10^(j+18):Nat)=10^j*1000000000000000000:=by rw [Z88]
     have e18':((10^18:Nat):Int)=1000000000000000000:=rfl
     rw [e18]
     have:(n+1)*1000000000000000000<=10^j*1000000000000000000:=Z24 _ hn
     omega
   obtain ⟨f',r⟩:=Qi0 m (s.drop k) (by rw [Z15];omega) hdd (n*1000000000000000000+(tv 0 (s.take k)).toNat) (j+k) false hn' (by rw [Z15];omega) (.inr ⟨rfl,by rw [Z15];exact k4⟩)
   refine ⟨f',.step (y:=(s.drop k,false,lb (n*1000000000000000000+(tv 0 (s.take k)).toNat))) (λrec=>?_) ?_⟩
   ·rw [k5,Qsr hs k1 k2 hn (by omega)]
   ·have e:tv n s=tv ((n*1000000000000000000+(tv 0 (s.take k)).toNat:Nat):Int) (s.drop k):=by
     conv=>lhs;rw [<-List.take_append_drop k s]
     rw [Qfo,htv]
    rw [e];exact r
theorem digits_Parse (s:J1):z37.F s=some (lb (mDigits s).1,(mDigits s).2):=by
 unfold z37.F mDigits
 by_cases h1:4096<s.length
 ·rw [bif_t (by omega),if_pos h1,lb_zero]
 ·rw [Qc (by omega),if_neg h1]
  by_cases h2:s=[]
  ·subst h2;rw [bif_t rfl];simp [numOK,lb_zero]
  ·rw [Qc h2]
   obtain ⟨r,t1,t2⟩:=Qlk s (by omega)
   rw [t1]
   simp only [Zb]
   rw [t2]
   cases hd:digs s with
   |false=>simp [numOK,hd,lb_zero]
   |
    true=>
    have hds:=J9.1 hd
    obtain ⟨f',r⟩:=Qi0 s.length s (Z3 _) hds 0 0 true (by decide) (by omega) (.inl ⟨rfl,rfl⟩)
    rw [lb_zero] at r
    have er:z37.l0 (s,true,[])=some ([],f',lb (tv ((0:Nat):Int) s).toNat):=r.lfp
    simp only [Zn,Zc]
    rw [er]
    have hpos:0<s.length:=Z19.2 h2
    by_cases h3:1<s.length
    ·rw [bif_t (by omega),if_pos (by omega)]
     by_cases h4:(s.getD 0 0).toNat=48
     ·rw [bif_t (by omega)]
      have:numOK s=false:=by simp [numOK,h3];intro _ _ ;simpa [List.getD] using h4
      rw [this];simp [lb_zero]
     ·rw [Qc (by omega)]
      have:numOK s=true:=by simp only [numOK,Zf h2,hd,Zf h4];simp
      rw [this];rfl
    ·rw [Qc (by omega)]
     have:numOK s=true:=by simp only [numOK,Zf h2,hd,Zf h3];simp
     rw [this];rfl
theorem Qhg (a:Int) (h0:0<=a) (h1:a<9223372036854775808):wr .i64 ((BitVec.ofInt (IntKind.bits .i64) a &&& BitVec.ofInt (IntKind.bits .i64) (1:Int)).toNat:Int)=a%2:=by
 have e:(BitVec.ofInt (IntKind.bits .i64) a &&& BitVec.ofInt (IntKind.bits .i64) (1:Int)).toNat=(a%2).toNat:=by
  rw [BitVec.toNat_and]
  have e1:(BitVec.ofInt (IntKind.bits .i64) (1:Int)).toNat=2^1-1:=rfl
  have e2:(BitVec.ofInt (IntKind.bits .i64) a).toNat=(a%18446744073709551616).toNat:=by
   rw [BitVec.toNat_ofInt];rfl
  rw [e1,Nat.and_two_pow_sub_one_eq_mod,e2]
  omega
 rw [e,Qh (by omega) (by omega)];omega
theorem shr1 (a:Int):Int.fdiv a (2^(min 1 (64:Nat)))=a/2:=by
 rw [Int.fdiv_eq_ediv_of_nonneg _ (by decide)];rfl
theorem Qda:∀(f t n out:Nat),t<=f->t<9223372036854775808->sz out+t*sz n<=800000000 ->
  ∃n',Runs (λrec x=>z44.l0P rec some x) ((t:Int),lb n,lb out) ((0:Int),n',lb (out*n^t))
 |
  0,t,n,out,hf,ht,hb=>by
  have:t=0:=by omega
  subst this
  refine ⟨lb n,.done λrec=>?_⟩
  simp [z44.l0P]
 |
  f+1,t,n,out,hf,ht,hb=>by
  rcases Z17 t with h0|h0
  ·subst h0
   refine ⟨lb n,.done λrec=>?_⟩
   simp [z44.l0P]
  ·have hn:=Wa n
   have ho:=Wa out
   have hsq:=W0 n n
   have hon:=W0 out n
   have e2:(t:Int)/2=((t/2:Nat):Int):=by omega
   have em:(t:Int)%2=((t%2:Nat):Int):=by omega
   have hq:t*sz n=2*(t/2*sz n)+t%2*sz n:=by
    conv=>lhs;rw [<-Z57 t 2]
    rw [Z40,Z84]
   have hq2:t/2*sz (n*n)<=2*(t/2*sz n):=by
    have:=Nat.mul_le_mul_left (t/2) hsq
    have e:t/2*(sz n+sz n)=2*(t/2*sz n):=by rw [Nat.mul_add];omega
    omega
   have hpow:n^t=n^(t%2)*(n*n)^(t/2):=by
    rw [<-Nat.pow_two,<-Nat.pow_mul,<-Z88];congr 1;omega
   by_cases hodd:t%2=1
   ·rw [hodd,Z91] at hq
    by_cases h1:1<t
    ·have hge:1<=t/2:=by omega
     have hge':sz n<=t/2*sz n:=Nat.le_mul_of_pos_left _ hge
     obtain ⟨n',r⟩:=Qda f (t/2) (n*n) (out*n) (by omega) (by omega) (by omega)
     refine ⟨n',.step (λrec=>?_) (by rw [hpow,hodd,Nat.pow_one,<-Z84];exact r)⟩
     unfold z44.l0P
     simp only
     rw [bif_t (by omega),Qhg _ (by omega) (by omega),em,hodd,bif_t (by omega),Qai (by omega)]
     simp only [Zb]
     rw [bif_t (by omega),Qai (by omega),shr1,e2]
     rfl
    ·have ht1:t=1:=by omega
     subst ht1
     obtain ⟨n',r⟩:=Qda f 0 n (out*n) (by omega) (by omega) (by omega)
     refine ⟨n',.step (λrec=>?_) (by simpa using r)⟩
     unfold z44.l0P
     simp only
     rw [bif_t (by omega),Qhg _ (by omega) (by omega),bif_t (by decide),Qai (by omega)]
     simp only [Zb]
     rw [Qc (by omega),shr1]
     rfl
   ·have h2:t%2=0:=by omega
    rw [h2,Nat.zero_mul,Z69] at hq
    have hge:1<=t/2:=by omega
    have hge':sz n<=t/2*sz n:=Nat.le_mul_of_pos_left _ hge
    obtain ⟨n',r⟩:=Qda f (t/2) (n*n) out (by omega) (by omega) (by omega)
    refine ⟨n',.step (λrec=>?_) (by rw [hpow,h2,Nat.pow_zero,Z91];exact r)⟩
    unfold z44.l0P
    simp only
    rw [bif_t (by omega),Qhg _ (by omega) (by omega),em,h2,Qc (by omega),bif_t (by omega),Qai (by omega)]
    simp only [Zb]
    rw [shr1,e2]
theorem digits_power {n t:Nat} (ht:t<9223372036854775808) (h:t*sz n<=700000000):z44.F (lb n) (t:Int)=some (lb (n^t)):=by
 have h1:sz 1<=1:=Qy (by decide)
 obtain ⟨n',r⟩:=Qda t t n 1 (Z3 _) ht (by omega)
 have e:z44.l0 ((t:Int),lb n,lb 1)=some ((0:Int),n',lb (1*n^t)):=r.lfp
 unfold z44.F
 rw [W1 (by omega)]
 simp only [Zb]
 rw [show Int.toNat 1=1 from rfl,e,Z91]
 rfl
theorem digits_Ten {t:Nat} (ht:t<=4096):z45.F (t:Int)=some (lb (10^t),0):=by
 have h1:sz 10<=2:=Qy (by decide)
 have h2:=Nat.mul_le_mul_left t h1
 unfold z45.F
 rw [Qc (by omega),Qc (by omega),W1 (by omega)]
 simp only [Zb]
 rw [show Int.toNat 10=10 from rfl,digits_power (by omega) (by omega)]
 rfl
def Y1 (a b:Nat):Prop:=z25.F (lb a) (lb b)=some (lb (a/b),lb (a%b),0)
def Qak (M:Nat):Prop:=∀x y,x<=M->y<=M->0<y->Y1 x y
theorem Qb9 {m n:Int}:cmpI m n<0↔m<n:=by unfold cmpI;split<;>(try split)<;>omega
theorem Y7 {m n:Int}:cmpI m n>0↔n<m:=by unfold cmpI;split<;>(try split)<;>omega
theorem Qfm {m n:Int}:cmpI m n=0↔m=n:=by unfold cmpI;split<;>(try split)<;>omega
theorem Qdu {a:Nat} (h0:0<a) (h:a<18446744073709551616):lb a=[(a:Int)]:=by
 show toB LB a=_
 rw [Ym bL h0,Nat.mod_eq_of_lt h,Nat.div_eq_of_lt h,toB_zero]
theorem Qk9 {a b:Int} (ha:0<=a/\a<18446744073709551616) (hb:0<b):z19.F 0 a b=some (a/b,a%b):=by
 unfold z19.F
 rw [Qc (by omega),Qc (by omega),bif_t rfl,if_neg (by omega),if_neg (by omega),Jr ha.1,Qae ha.1]
 have h1:=Int.ediv_nonneg ha.1 (Int.le_of_lt hb)
 have h2:=Int.ediv_le_self b ha.1
 rw [Qr h1 (by omega)]
theorem Qrj {a b:Int} (ha:0<=a/\a<18446744073709551616) (hb:0<b):z20.F [a] b=some ([a/b],a%b):=by
 have h0:z20.l0 [a] b ((0:Int),(0:Int),[(0:Int)])=some (a%b,(-1:Int),[a/b]):=by
  refine (Runs.step (y:=(a%b,(-1:Int),[a/b])) (λrec=>?_) (Runs.done λrec=>?_):Runs (λrec x=>z20.l0P [a] b rec some x) _ _).lfp
  ·unfold z20.l0P
   simp only [Z14]
   rw [bif_t (by omega),if_pos (by omega),show [a].getD (Int.toNat 0) 0=a from rfl,Qk9 ha hb]
   rfl
  ·unfold z20.l0P
   simp only
   rw [Qc (by omega)]
 unfold z20.F
 simp only [Z14]
 rw [if_pos (by omega)]
 show ((z20.l0 [a] b ((0:Int),wr .i64 0,[(0:Int)])).bind _)=_
 rw [Qh (by omega) (by omega),h0]
 rfl
theorem Qhn {a b:Nat} (h:a<b) (hs:(lb a).length<=900000000):Y1 a b:=by
 unfold Y1 z25.F
 rw [Wv]
 simp only [Zb]
 rw [Qc (by omega),Qcz hs]
 simp only [Zb]
 have:cmpI (a:Int) b<0:=by unfold cmpI;rw [if_pos (by omega)];decide
 rw [bif_t this,Nat.div_eq_of_lt h,Nat.mod_eq_of_lt h,lb_zero]
theorem Qs0 {a b:Nat} (ha:a<18446744073709551616) (hb:0<b):Y1 a b:=by
 have hl:(lb a).length<=1:=Yz bL (by simpa using ha)
 rcases Z52 a b with h|h
 ·exact Qhn h (by omega)
 ·unfold Y1 z25.F
  rw [Wv]
  simp only [Zb]
  rw [Qc (by omega),Qcz (by omega)]
  simp only [Zb]
  have:¬cmpI (a:Int) b<0:=by unfold cmpI;rw [if_neg (by omega)];split<;>omega
  rw [Qc this,Qdu (by omega) ha,Qdu hb (by omega),Qcm (by show List.length _<=_;simp),Qcm (by show List.length _<=_;simp)]
  simp only [Zb,Z14]
  rw [bif_t (by omega),if_pos (by omega),show [(b:Int)].getD 0 0=b from rfl,Qrj (by omega) (by omega)]
  simp only [Zb]
  have b1:a/b<=a:=Nat.div_le_self a b
  have b2:a%b<=a:=Nat.mod_le a b
  obtain ⟨q,hq⟩:∃q,a/b=q:=⟨_,rfl⟩
  obtain ⟨m,hm⟩:∃m,a%b=m:=⟨_,rfl⟩
  have e1:((a:Int)/b)=(q:Int):=by rw [<-hq];rfl
  have e2:((a:Int)%b)=(m:Int):=by rw [<-hm];rfl
  rw [hq] at b1 ⊢
  rw [hm] at b2 ⊢
  rw [e1,e2,W1 (by omega)]
  simp only [Zb]
  rw [W1 (by omega)]
  rfl
theorem quot_Gcd {M:Nat} (hD:Qak M) {a b:Nat} (ha:a<=M) (hb:b<=M):z61.F (lb a) (lb b)=some (lb (Nat.gcd a b)):=by
 have key:∀(f a b:Nat),b<f->a<=M->b<=M->Runs (λrec x=>z61.l0P rec some x) (lb a,lb b) (lb (Nat.gcd a b),[]):=by
  intro f
  induction f with
  |zero=>intro a b h;omega
  |
   succ f ih=>
   intro a b h ha hb
   rcases Z17 b with h0|h0
   ·subst h0
    refine .done λrec=>?_
    unfold z61.l0P
    simp only [Wv,Zb]
    rw [Nat.gcd_zero_right,lb_zero];rfl
   ·have hm:=Z85 a h0
    have hmm:=Nat.mod_le a b
    have e:Nat.gcd a b=Nat.gcd b (a%b):=by rw [Nat.gcd_comm,Nat.gcd_rec,Nat.gcd_comm]
    rw [e]
    refine .step (λrec=>?_) (ih b (a%b) (by omega) hb (by omega))
    unfold z61.l0P
    simp only [Wv,Zb]
    rw [Zf (by omega),Zo,Zd,hD a b ha hb h0]
    rfl
 unfold z61.F
 have e:z61.l0 (lb a,lb b)=some (lb (Nat.gcd a b),[]):=(key (b+1) a b (by omega) ha hb).lfp
 rw [e];rfl
theorem Qom (z:Int):decide (cmpI z 0<0)=neg z:=by
 unfold cmpI;apply decide_eq_decide.2;split<;>(try split)<;>omega
theorem Qf4 {z:Int} {g:Nat} (h:g∣z.natAbs) (h0:0<g):(z/(g:Int)).natAbs=z.natAbs/g/\(z/(g:Int)<0↔z<0):=by
 obtain ⟨k,hk⟩:=Int.ofNat_dvd_left.2 h
 subst hk
 have hg:(g:Int)≠0:=by omega
 rw [Int.mul_ediv_cancel_left _ hg,Z80,Int.natAbs_natCast,Nat.mul_div_cancel_left _ h0]
 refine ⟨rfl,?_⟩
 constructor
 ·intro h;exact Int.mul_neg_of_pos_of_neg (by omega) h
 ·intro h
  rcases Int.lt_or_le k 0 with h'|h'
  ·exact h'
  ·have:=Z58 (show (0:Int)<=g by omega) h';omega
theorem frac_made {M:Nat} (hD:Qak M) {num:Int} {den:Nat} (h0:0<den) (hn:num.natAbs<=M) (hd:den<=M) (hs:sz den<=700000000) :
  z62.F (lb num.natAbs) (neg num) (lb den)=some (lb (mkRat num den).num.natAbs,neg (mkRat num den).num,lb ((mkRat num den).den-1)):=by
 have hg:0<Nat.gcd num.natAbs den:=Nat.gcd_pos_of_pos_right _ h0
 have hgd:Nat.gcd num.natAbs den<=den:=Nat.gcd_le_right _ h0
 have hdv:=Nat.gcd_dvd_right num.natAbs den
 have hdv2:=Nat.gcd_dvd_left num.natAbs den
 have hp:0<den/Nat.gcd num.natAbs den:=Nat.div_pos hgd hg
 have hle:den/Nat.gcd num.natAbs den<=den:=Nat.div_le_self _ _
 have hsz:=Z51 (Wa _) (Z51 (Jx hle) hs)
 obtain ⟨q1,q2⟩:=Qf4 hdv2 hg
 unfold z62.F z60.F
 simp only [Zb]
 rw [quot_Gcd hD hn hd]
 simp only [Zb]
 rw [Rat.num_mkRat,Rat.den_mkRat,if_neg (by omega),if_neg (by omega),Nat.gcd_comm den]
 generalize Nat.gcd num.natAbs den=g at *
 have d1:z25.F (lb num.natAbs) (lb g)=_:=hD _ _ hn (by omega) hg
 have d2:z25.F (lb den) (lb g)=_:=hD _ _ hd (by omega) hg
 rw [d1]
 simp only [Zb]
 rw [d2]
 simp only [Zb]
 rw [W1 (by omega)]
 simp only [Zb]
 rw [show Int.toNat 1=1 from rfl,Qgt (by omega),if_pos (by omega)]
 simp only [Zb]
 rw [Qav]
 simp only [Zb]
 rw [Qom,Yb (z:=num/(g:Int)) q1.symm (by
  have hz:num/(g:Int)<0↔num<0:=q2
  by_cases h:num<0
  ·exact .inl ⟨Zt h,by omega⟩
  ·exact .inr ⟨Zf h,by omega⟩)]
 rfl
abbrev fr (q:Rat):J0×Bool×J0:=(lb q.num.natAbs,neg q.num,lb (q.den-1))
theorem frac_Of {M:Nat} (hD:Qak M) {num den:Int} (h0:den≠0) (hn:num.natAbs<=M) (hd:den.natAbs<=M) (hs:sz den.natAbs<=700000000) :
  z63.F (lb num.natAbs) (neg num) (lb den.natAbs) (neg den)=some ((fr (Rat.divInt num den)).1,(fr (Rat.divInt num den)).2.1,(fr (Rat.divInt num den)).2.2,0):=by
 have hc:cmpI den 0=if den<0 then -1 else 1:=by
  unfold cmpI
  by_cases h:den<0
  ·rw [if_pos h,if_pos h]
  ·rw [if_neg h,if_neg h,if_neg h0]
 unfold z63.F
 rw [Qav]
 simp only [Zb]
 rw [hc]
 by_cases h:den<0
 ·have e:Rat.divInt num den=mkRat (-num) den.natAbs:=by
   have:den = -((den.natAbs:Nat):Int):=by omega
   conv=>lhs;rw [this]
   rw [Rat.divInt_neg',Rat.divInt_ofNat]
  rw [if_pos h,Qc (by decide),bif_t rfl,Ql6]
  simp only [Zb]
  unfold z63.j4 z60.F
  simp only [Zb]
  rw [frac_made hD (by omega) (by omega) hd hs,e]
  rfl
 ·have e:Rat.divInt num den=mkRat num den.natAbs:=by
   have:den=((den.natAbs:Nat):Int):=by omega
   conv=>lhs;rw [this]
   rw [Rat.divInt_ofNat]
  rw [if_neg h,Qc (by decide),Qc (by decide)]
  unfold z63.j4 z60.F
  simp only [Zb]
  rw [frac_made hD (by omega) hn hd hs,e]
  rfl
theorem Qut (q:Rat) (a:J0) (b:Bool) (hs:sz q.den<=700000000):z65.F a b (lb (q.den-1))=some (lb q.den):=by
 have h1:sz 1<=1:=Qy (by decide)
 have h2:=Z51 (Wa (q.den-1)) (Z51 (Jx (Nat.sub_le _ _)) hs)
 have h3:=Z51 (Wa 1) h1
 unfold z65.F
 rw [W1 (by omega)]
 simp only [Zb]
 rw [show Int.toNat 1=1 from rfl,Qff (by omega),Nat.sub_add_cancel q.den_pos]
 rfl
theorem Qh8 (q:Rat) (a:J0) (b:Bool) (hs:sz q.den<=700000000):z66.F a b (lb (q.den-1))=some (lb (q.den:Int).natAbs,neg (q.den:Int)):=by
 unfold z66.F
 rw [Qut q a b hs]
 simp only [Zb]
 rw [Yb (z:=(q.den:Int)) (by omega) (.inr ⟨rfl,by omega⟩)]
 rfl
theorem Qmi (q r:Rat):q/r=Rat.divInt (q.num*r.den) (q.den*r.num):=by
 rw [Rat.div_def,Rat.inv_def]
 conv=>lhs;rw [<-Rat.num_divInt_den q,Rat.divInt_mul_divInt]
theorem Qs4 {M:Nat} (hD:Qak M) {q r:Rat} (h0:r≠0) (hn:(q.num*r.den).natAbs<=M) (hd:(q.den*r.num).natAbs<=M) (hs:sz q.num.natAbs+sz r.den<=600000000) (hs':sz r.num.natAbs+sz q.den<=600000000) :
  z67.F (lb q.num.natAbs) (neg q.num) (lb (q.den-1)) (lb r.num.natAbs) (neg r.num) (lb (r.den-1))=some ((fr (q/r)).1,(fr (q/r)).2.1,(fr (q/r)).2.2,0):=by
 have e1:sz (r.den:Int).natAbs=sz r.den:=rfl
 have e2:sz (q.den:Int).natAbs=sz q.den:=rfl
 have l1:=Wa q.num.natAbs
 have l2:=Wa (r.den:Int).natAbs
 have l3:=Wa (q.den:Int).natAbs
 have l4:=Wa r.num.natAbs
 have hr:r.num≠0:=λh=>h0 (Rat.num_eq_zero.1 h)
 have hqd:=q.den_nz
 have m1:=W0 (q.den:Int).natAbs r.num.natAbs
 rw [<-Z80] at m1
 unfold z67.F
 rw [Qh8 r _ _ (by omega)]
 simp only [Zb]
 rw [Qeo (by omega)]
 simp only [Zb]
 rw [Qh8 q _ _ (by omega)]
 simp only [Zb]
 rw [Qeo (by omega)]
 simp only [Zb]
 rw [frac_Of hD (Int.mul_ne_zero (by omega) hr) hn hd (by show sz _<=_;omega),Qmi]
 rfl
def cutNeg (s:J1):J1×Bool:=match s with|[]=>([],false)|b::t=>if b=45 then (t,true) else (b::t,false)
theorem Qjk (s:J1):(cutNeg s).1.length<=s.length:=by
 unfold cutNeg;split
 ·simp
 ·split<;>simp
theorem Qgq (s:J1):z33.F s [45]=some (cutNeg s):=by
 unfold z33.F z32.F z31.F cutNeg
 cases s with
 |nil=>rfl
 |
  cons b t=>
  have e1:([45]:J1).length=1:=rfl
  have e2:Int.toNat ((1:Nat):Int)=1:=rfl
  simp only [e1,e2]
  rw [bif_t (by simp;omega),if_pos (by simp;omega)]
  simp only [Zb,List.take_succ_cons,List.take_zero,List.drop_succ_cons,Z45,List.cons.injEq,and_true]
  by_cases h:b=45
  ·rw [Zt h,if_pos h,if_pos (by simp;omega)];rfl
  ·rw [Zf h,if_neg h];rfl
def mWhole (s:J1):Int×Int:=
 if (mDigits (cutNeg s).1).2≠0 then (0,(mDigits (cutNeg s).1).2)
 else if (cutNeg s).2&&decide ((mDigits (cutNeg s).1).1=0) then (0,5)
 else (if (cutNeg s).2 then -((mDigits (cutNeg s).1).1:Int) else (mDigits (cutNeg s).1).1,0)
theorem whole_Parse (s:J1):z38.F s=some (lb (mWhole s).1.natAbs,neg (mWhole s).1,(mWhole s).2):=by
 unfold z38.F mWhole
 rw [Qgq]
 simp only [Zb]
 rw [digits_Parse]
 simp only [Zb]
 generalize mDigits (cutNeg s).1=d
 generalize (cutNeg s).2=below
 by_cases h:d.2=0
 ·have h':¬(d.2≠0):=λhh=>hh h
  rw [Zt h,if_neg h']
  simp only [Zn,Zc]
  cases below with
  |
   true=>
   simp only [Zd,Z22,if_true]
   rw [Wv]
   simp only [Zb]
   by_cases h0:d.1=0
   ·rw [Zt h0]
    simp only [if_true,Zd]
    rw [show Int.natAbs 0=0 from rfl,lb_zero];rfl
   ·rw [Zf h0]
    simp only [Zc]
    rw [Yb (z:=-(d.1:Int)) (by omega) (.inl ⟨rfl,by omega⟩)]
    simp
  |
   false=>
   simp only [Zc,Z60]
   rw [Yb (z:=(d.1:Int)) (by omega) (.inr ⟨rfl,by omega⟩)]
   simp
 ·rw [Zf h,if_pos h]
  simp only [Zo,Zd]
  rw [show Int.natAbs 0=0 from rfl,lb_zero];rfl
def cutDot:J1->J1×Option J1
 |[]=>([],none)
 |b::t=>if b=46 then ([],some t) else (b::(cutDot t).1,(cutDot t).2)
theorem Qcw:∀{t:J1},(cutDot t).2=none->(cutDot t).1=t
 |[],_=>rfl
 |
  b::t,h=>by
  unfold cutDot at h ⊢
  split at h
  ·simp at h
  ·rename_i hb
   rw [if_neg hb]
   simp only at h ⊢
   rw [Qcw h]
theorem Qc8:∀{t r:J1},(cutDot t).2=some r->t=(cutDot t).1++46::r
 |[],r,h=>by simp [cutDot] at h
 |
  b::t,r,h=>by
  unfold cutDot at h ⊢
  split at h
  ·rename_i hb
   rw [if_pos hb,hb]
   simp only [Zs] at h
   rw [h];rfl
  ·rename_i hb
   rw [if_neg hb]
   simp only at h ⊢
   conv=>lhs;rw [Qc8 h]
   rfl
theorem Ji (b:UInt8) (t:J1) (c:UInt8):byteIdx (b::t) c=if b=c then 0 else if byteIdx t c<0 then -1 else byteIdx t c+1:=by
 unfold byteIdx
 rw [Z6,List.range_succ_eq_map,List.find?_cons]
 by_cases h:b=c
 ·simp [h]
 ·have h1:((b::t).getD 0 0 == c)=false:=by simp [h]
  rw [h1,if_neg h]
  simp only
  rw [List.find?_map]
  have e:((λi=>(b::t).getD i 0 == c)∘Nat.succ)=λi=>t.getD i 0 == c:=by funext i;simp [List.getD]
  rw [e]
  cases (List.range t.length).find? λi=>t.getD i 0 == c with
  |none=>simp
  |some i=>simp;omega
theorem Qk6:∀t:J1,byteIdx t 46=if (cutDot t).2=none then -1 else ((cutDot t).1.length:Int)
 |[]=>by simp [byteIdx,cutDot]
 |
  b::t=>by
  have e:cutDot (b::t)=if b=46 then ([],some t) else (b::(cutDot t).1,(cutDot t).2):=by rw [cutDot]
  rw [Ji,Qk6 t,e]
  by_cases h:b=46
  ·simp [h]
  ·rw [if_neg h,if_neg h]
   by_cases h2:(cutDot t).2=none
   ·simp [h2]
   ·simp [h2];omega
def plainB (s:J1):Bool:=!decide (s=[])&&digs s
def zeros (s:J1):Bool:=s.all (· == 48)
theorem dec_plain (s:J1) (h:s.length<=9223372036854775807):z49.F s=some (plainB s):=by
 unfold z49.F plainB
 by_cases h0:s=[]
 ·rw [Zt h0];rfl
 ·rw [Zf h0]
  obtain ⟨r,t1,t2⟩:=Qlk s h
  simp only [Zo,Zd]
  rw [t1]
  simp only [Zb]
  rw [t2];simp
theorem Qu2 (b:UInt8):([48]:J1).contains b=(b == 48):=by
 simp only [List.contains_cons,List.contains_nil,Bool.or_false]
theorem Qjb (s:J1) (hs:s.length<=9223372036854775807):∃r,z3.F s [48]=some r/\decide (r=[])=zeros s:=by
 unfold z3.F
 rw [if_pos ⟨hs,by decide,by decide⟩]
 refine ⟨_,rfl,?_⟩
 rw [Z49,decide_eq_true_iff,Qkw,zeros,Z13]
 simp only [Qu2]
theorem Qio:∀{s:J1},Qx s->tv 0 (trimL s [48])=tv 0 s/\Qx (trimL s [48])/\(trimL s [48]).length<=s.length/\(trimL s [48]≠[]->((trimL s [48]).getD 0 0).toNat≠48)
 |[],h=>by simp [trimL,tv,Qx]
 |
  b::s,h=>by
  have ih:=Qio (s:=s) λx hx=>h x (by simp [hx])
  by_cases hb:b=48
  ·have e:trimL (b::s) [48]=trimL s [48]:=by unfold trimL;exact List.dropWhile_cons_of_pos (by rw [hb];decide)
   rw [e]
   refine ⟨?_,ih.2.1,by rw [Z6];omega,ih.2.2.2⟩
   rw [ih.1,hb];rfl
  ·have e:trimL (b::s) [48]=b::s:=by unfold trimL;exact List.dropWhile_cons_of_neg (by simp [hb])
   rw [e]
   refine ⟨rfl,h,Z3 _,λ_ hh=>hb (UInt8.toNat_inj.1 hh)⟩
theorem Qmj {s:J1} (hd:Qx s) (hl:s.length<=4096):z37.F (if trimL s [48]=[] then [48] else trimL s [48])=some (lb (tv 0 s).toNat,0):=by
 obtain ⟨h1,h2,h3,h4⟩:=Qio hd
 rw [digits_Parse]
 by_cases h:trimL s [48]=[]
 ·rw [if_pos h]
  rw [h] at h1
  rw [<-h1];rfl
 ·rw [if_neg h,<-h1]
  unfold mDigits
  have:numOK (trimL s [48])=true:=by
   unfold numOK
   rw [Zf h,J9.2 h2,Zf (h4 h)];simp
  rw [if_neg (by omega),this];rfl
def Jv (below:Bool) (a:J1) (o:Option J1):Int×Nat×Int:=
 if !plainB a||(o.isSome && !plainB (o.getD []))||(decide (1<a.length)&&decide ((a.getD 0 0).toNat=48)) then (0,0,5)
 else if below&&zeros (a++o.getD []) then (0,0,5)
 else if 64<(o.getD []).length then (0,0,10)
 else (if below then -tv 0 (a++o.getD []) else tv 0 (a++o.getD []),(o.getD []).length,0)
def mDec (s:J1):Int×Nat×Int:=if 4096<s.length then (0,0,7) else Jv (cutNeg s).2 (cutDot (cutNeg s).1).1 (cutDot (cutNeg s).1).2
abbrev decR (m:Int×Nat×Int):J0×Bool×Int×Int:=(lb m.1.natAbs,neg m.1,(m.2.1:Int),m.2.2)
theorem Yw (e:Int):decR (0,0,e)=([],false,0,e):=by unfold decR;simp [lb_zero]
theorem Qlj (n:Int) (h:0<=n) (below:Bool):z30.F (lb n.toNat) below=some (lb (if below then -n else n).natAbs,neg (if below then -n else n)):=by
 cases below
 ·rw [Yb (z:=n) (by omega) (.inr ⟨rfl,h⟩)];rfl
 ·rw [Yb (z:=-n) (by omega) (.inl ⟨rfl,by omega⟩)];rfl
theorem Qth {rest a b:J1} {below lead:Bool} (h1:rest.take a.length=a) (h2:rest.drop (a.length+1)=b) (ha:Qx a) (hb:Qx b) (hl:a.length+b.length<=4096) :
  z50.j14 lead (rest,below) (a.length:Int)=some (decR (if lead then (0,0,5) else if below&&zeros (a++b) then (0,0,5) else if 64<b.length then (0,0,10) else (if below then -tv 0 (a++b) else tv 0 (a++b),b.length,0))):=by
 have e1:(wr .i64 ((a.length:Int)+1)).toNat=a.length+1:=by rw [Qh (by omega) (by omega)];omega
 have hab:Qx (a++b):=λx hx=>(Z62.1 hx).elim (ha x) (hb x)
 have hln:(a++b).length<=4096:=by rw [Z9];exact hl
 have key:z50.j16 false (rest,below) (a.length:Int)=some (decR (if 64<b.length then (0,0,10) else (if below then -tv 0 (a++b) else tv 0 (a++b),b.length,0))):=by
  unfold z50.j16
  simp only [e1,Zi,h1,h2,Zc]
  by_cases h64:64<b.length
  ·rw [bif_t (by omega),if_pos h64,Yw]
  ·rw [Qc (by omega),if_neg h64,if_pos (by omega)]
   have et:z4.F (a++b) [48]=some (trimL (a++b) [48]):=by unfold z4.F;rw [if_pos ⟨by decide,by decide⟩]
   rw [et]
   simp only [Zb]
   have ep:=Qmj hab hln
   have fin:∀x,z37.F x=some (lb (tv 0 (a++b)).toNat,0)->z50.j18 x (rest,below) (a.length:Int)=some (decR (if below then -tv 0 (a++b) else tv 0 (a++b),b.length,0)):=λx hx=>by
    unfold z50.j18
    rw [hx]
    simp only [Zb,e1,h2]
    rw [Qlj _ (Yh hab).1]
    rfl
   by_cases ht:trimL (a++b) [48]=[]
   ·rw [if_pos ht] at ep
    rw [bif_t ht];exact fin _ ep
   ·rw [if_neg ht] at ep
    rw [Qc ht];exact fin _ ep
 unfold z50.j14
 simp only [e1,Zi,h1,h2]
 cases lead with
 |true=>simp only [Zd,if_true];rw [Yw]
 |
  false=>
  simp only [Zc]
  rw [if_neg Bool.false_ne_true]
  cases below with
  |false=>simp only [Zc,Z60];rw [key];rfl
  |
   true=>
   obtain ⟨r,t1,t2⟩:=Qjb (a++b) (by omega)
   simp only [Zd,Z22]
   rw [if_pos (by omega),t1]
   simp only [Zb]
   rw [t2]
   cases hz:zeros (a++b) with
   |true=>unfold z50.j16;simp only [Zd,if_true];rw [Yw]
   |false=>rw [key];rfl
theorem Qo4 {a:J1} {below lead:Bool} (ha:Qx a) (hl:a.length<=4096) :
  z50.j22 lead (a,below)=some (decR (if lead then (0,0,5) else if below&&zeros a then (0,0,5) else (if below then -tv 0 a else tv 0 a,0,0))):=by
 have key:z50.j24 (a,below)=some (decR (if below then -tv 0 a else tv 0 a,0,0)):=by
  unfold z50.j24
  simp only [Z44]
  rw [if_pos (by simp;omega)]
  have et:z4.F a [48]=some (trimL a [48]):=by unfold z4.F;rw [if_pos ⟨by decide,by decide⟩]
  rw [et]
  simp only [Zb]
  have ep:=Qmj ha hl
  have fin:∀x,z37.F x=some (lb (tv 0 a).toNat,0)->z50.j26 x (a,below)=some (decR (if below then -tv 0 a else tv 0 a,0,0)):=λx hx=>by
   unfold z50.j26
   rw [hx]
   simp only [Zb]
   rw [Qlj _ (Yh ha).1]
   rfl
  by_cases ht:trimL a [48]=[]
  ·rw [if_pos ht] at ep
   rw [bif_t ht];exact fin _ ep
  ·rw [if_neg ht] at ep
   rw [Qc ht];exact fin _ ep
 unfold z50.j22
 simp only [Z44]
 cases lead with
 |true=>simp only [Zd,if_true];rw [Yw]
 |
  false=>
  simp only [Zc]
  rw [if_neg Bool.false_ne_true]
  cases below with
  |false=>simp only [Zc,Z60];rw [key];rfl
  |
   true=>
   obtain ⟨r,t1,t2⟩:=Qjb a (by omega)
   simp only [Zd,Z22]
   rw [if_pos (by simp;omega),t1]
   simp only [Zb]
   rw [t2]
   cases hz:zeros a with
   |true=>simp only [Zd,if_true];rw [Yw]
   |false=>simp only [Zc];rw [key];rfl
theorem Qch {s:J1} (h:plainB s=true):Qx s/\s≠[]:=by
 unfold plainB at h
 rw [Z5] at h
 exact ⟨J9.1 h.2,by simpa using h.1⟩
theorem Ql5 {a:J1} (hne:a≠[]) {α:Type} (f:Bool->Option α) :
  (bif decide ((a.length:Int)>1) then (if (0:Int)<=(0:Int)/\(0:Int)<(a.length:Int) then f (decide (((a.getD 0 0).toNat:Int)=(48:Int))) else none) else f false)=f (decide (1<a.length)&&decide ((a.getD 0 0).toNat=48)):=by
 have hpos:=Z19.2 hne
 by_cases h:1<a.length
 ·rw [bif_t (by omega),if_pos (by omega),Zt h,Z22]
  congr 1;exact decide_eq_decide.2 (by omega)
 ·rw [Qc (by omega),Zf h,Z60]
theorem dec_Parse (s:J1):z50.F s=some (decR (mDec s)):=by
 unfold z50.F mDec
 by_cases h0:4096<s.length
 ·rw [bif_t (by omega),if_pos h0,Yw]
 ·rw [Qc (by omega),if_neg h0,Qgq]
  simp only [Zb]
  have hlen:=Qjk s
  generalize cutNeg s=c at *
  obtain ⟨rest,below⟩:=c
  simp only at hlen ⊢
  have hp0:z49.F ([]:J1)=some false:=rfl
  by_cases hdot:([46]:J1)=rest
  ·subst hdot
   rw [bif_t rfl]
   simp only [Z14,List.take_zero,hp0,Zb]
   unfold z50.j4
   simp only [Zo,Zd]
   have:Jv below (cutDot [46]).1 (cutDot [46]).2=(0,0,5):=by simp [cutDot,Jv,plainB]
   rw [this,Yw]
   rfl
  ·rw [Qc hdot,if_pos (by simp)]
   have hi:z2.F rest ((([46]:J1).getD 0 0).toNat:Int)=some (byteIdx rest 46):=rfl
   rw [hi]
   simp only [Zb]
   rw [Qk6]
   cases ho:(cutDot rest).2 with
   |
    none=>
    have ha:=Qcw ho
    rw [if_pos rfl,Qc (by omega),ha,dec_plain _ (by omega)]
    simp only [Zb]
    unfold Jv
    simp only [Option.isSome_none,Z60,Bool.or_false,Option.getD_none,Z44,Z29]
    cases hpl:plainB rest with
    |false=>unfold z50.j22;simp only [Zo,Zd,Z82,if_true];rw [Yw]
    |
     true=>
     obtain ⟨hd,hne⟩:=Qch hpl
     simp only [Zn,Zc,Z77]
     rw [Ql5 hne λb=>z50.j22 b (rest,below),Qo4 hd (by omega)]
     rfl
   |
    some b=>
    have hab:=Qc8 ho
    generalize (cutDot rest).1=a at *
    have hl:rest.length=a.length+(b.length+1):=by rw [hab];simp
    have t1:rest.take a.length=a:=by rw [hab];simp
    have t2:rest.drop (a.length+1)=b:=by
     rw [hab,<-Z78];simp
    have e1:(wr .i64 ((a.length:Int)+1))=((a.length+1:Nat):Int):=by rw [Qh (by omega) (by omega)];omega
    rw [if_neg (by simp),bif_t (by omega),if_pos (by omega)]
    simp only [e1,Zi,t1,t2]
    rw [if_pos (by omega),dec_plain a (by omega)]
    simp only [Zb]
    unfold Jv
    simp only [Option.isSome_some,Z22,Z42]
    cases hpl:plainB a with
    |false=>unfold z50.j14;simp only [Zo,Zd,Z82,if_true];rw [Yw]
    |
     true=>
     obtain ⟨hd,hne⟩:=Qch hpl
     simp only [Zn,Zc,Z77]
     rw [dec_plain b (by omega)]
     simp only [Zb]
     cases hpb:plainB b with
     |false=>unfold z50.j14;simp only [Zo,Zd,Z82,if_true];rw [Yw]
     |
      true=>
      obtain ⟨hdb,hneb⟩:=Qch hpb
      simp only [Zn,Zc,Z77]
      rw [Ql5 hne λx=>z50.j14 x (rest,below) (a.length:Int),Qth t1 t2 hd hdb (by omega)]
abbrev leap (y:Int):Prop:=y%4=0/\¬y%100=0\/y%400=0
abbrev goodY (y:Int):Prop:=1<=y/\y<=9999
def dDays (y m:Int):Int:=if ¬goodY y\/m<1\/12<m then 0 else if m=2 then (if leap y then 29 else 28) else if m=4\/m=6\/m=9\/m=11 then 30 else 31
abbrev right (y m d:Int):Prop:=1<=d/\d<=dDays y m
theorem Qan {a b:Int} (hb:0<b):Int.tmod a b=0↔a%b=0:=by
 rw [<-Int.dvd_iff_tmod_eq_zero,<-Int.dvd_iff_emod_eq_zero]
theorem date_good (y:Int):z77.F y=some (decide (goodY y)):=by
 unfold z77.F
 by_cases h:y>=1
 ·rw [bif_t h];congr 1;exact decide_eq_decide.2 (by omega)
 ·rw [Qc h];congr 1;symm;exact Zf (by omega)
theorem date_Leap (y:Int):z78.F y=some (decide (goodY y/\leap y)):=by
 unfold z78.F
 rw [date_good]
 simp only [Zb,Qan (show (0:Int)<4 by decide),Qan (show (0:Int)<100 by decide),Qan (show (0:Int)<400 by decide)]
 by_cases h:goodY y
 ·rw [bif_t h]
  by_cases h4:y%4=0
  ·rw [bif_t h4]
   by_cases h1:y%100=0
   ·rw [Zt h1];simp only [Zn,Zc];congr 1;exact decide_eq_decide.2 (by omega)
   ·rw [Zf h1];simp only [Zo,Zd];congr 1;symm;exact Zt (by omega)
  ·rw [Qc h4];congr 1;exact decide_eq_decide.2 (by omega)
 ·rw [Qc h];congr 1;symm;exact Zf (λhh=>h hh.1)
theorem date_Days (y m:Int):z79.F y m=some (dDays y m):=by
 unfold z79.F dDays
 rw [date_good]
 simp only [Zb]
 by_cases hy:goodY y
 ·rw [Zt hy]
  simp only [Zn,Zc]
  by_cases h1:m<1
  ·rw [bif_t h1,if_pos (by omega)]
  ·rw [Qc h1]
   by_cases h12:m>12
   ·rw [bif_t h12,if_pos (by omega)]
   ·rw [Qc h12,if_neg (by omega)]
    by_cases h2:m=2
    ·subst h2
     rw [bif_t rfl,if_pos rfl,date_Leap]
     simp only [Zb]
     by_cases hl:leap y
     ·rw [Zt ⟨hy,hl⟩,if_pos hl];rfl
     ·rw [Zf (λhh=>hl hh.2),if_neg hl];rfl
    ·rw [Qc h2,if_neg h2]
     have:m=1\/m=3\/m=4\/m=5\/m=6\/m=7\/m=8\/m=9\/m=10\/m=11\/m=12:=by omega
     rcases this with rfl|rfl|rfl|rfl|rfl|rfl|rfl|rfl|rfl|rfl|rfl<;>rfl
 ·rw [Zf hy,if_pos (.inl hy)];rfl
theorem Qod (y:Int):z99.F y=some (decide (goodY y/\leap y)):=by
 unfold z99.F z99.j1
 simp only [Qan (show (0:Int)<4 by decide),Qan (show (0:Int)<100 by decide),Qan (show (0:Int)<400 by decide)]
 by_cases h1:y<1
 ·rw [bif_t h1];congr 1;symm;exact Zf (by omega)
 ·rw [Qc h1]
  by_cases h2:y>9999
  ·rw [bif_t h2];congr 1;symm;exact Zf (by omega)
  ·rw [Qc h2]
   by_cases h4:y%400=0
   ·rw [bif_t h4];congr 1;symm;exact Zt (by omega)
   ·rw [Qc h4]
    by_cases h3:y%4=0
    ·rw [bif_t h3];congr 1
     by_cases h5:y%100=0
     ·rw [Zt h5];symm;exact Zf (by omega)
     ·rw [Zf h5];symm;exact Zt (by omega)
    ·rw [Qc h3];congr 1;symm;exact Zf (by omega)
theorem Qr9 (y m:Int):z100.F y m=some (dDays y m):=by
 unfold z100.F z100.j1 dDays
 by_cases h0:y<1
 ·rw [bif_t h0,if_pos (by omega)]
 ·rw [Qc h0]
  by_cases h9:y>9999
  ·rw [bif_t h9,if_pos (by omega)]
  ·rw [Qc h9]
   by_cases h1:m<1
   ·rw [bif_t h1,if_pos (by omega)]
   ·rw [Qc h1]
    by_cases h12:m>12
    ·rw [bif_t h12,if_pos (by omega)]
    ·rw [Qc h12,if_neg (by omega)]
     by_cases h2:m=2
     ·rw [bif_t h2,if_pos h2,Qod]
      simp only [Zb]
      by_cases hl:leap y
      ·rw [Zt ⟨by omega,hl⟩,if_pos hl];rfl
      ·rw [Zf (λhh=>hl hh.2),if_neg hl];rfl
     ·rw [Qc h2,if_neg h2]
      by_cases g4:m=4
      ·rw [bif_t g4,if_pos (.inl g4)]
      ·rw [Qc g4]
       by_cases g6:m=6
       ·rw [bif_t g6,if_pos (by omega)]
       ·rw [Qc g6]
        by_cases g9:m=9
        ·rw [bif_t g9,if_pos (by omega)]
        ·rw [Qc g9]
         by_cases g11:m=11
         ·rw [bif_t g11,if_pos (by omega)]
         ·rw [Qc g11,if_neg (by omega)]
theorem Qn2 (y m:Int):0<=dDays y m/\dDays y m<=31:=by
 unfold dDays;split
 ·omega
 ·split
  ·split<;>omega
  ·split<;>omega
theorem Qoy {y m d:Int} (h:right y m d):goodY y/\1<=m/\m<=12/\1<=d/\d<=31:=by
 have h1:=h.2
 have h2:=Qn2 y m
 unfold dDays at h1
 split at h1
 ·have:=h.1;omega
 ·rename_i hn
  have:=h.1
  refine ⟨by omega,by omega,by omega,by omega,by omega⟩
theorem date_Check (y m d:Int):z80.F y m d=some (if right y m d then 0 else 11):=by
 unfold z80.F
 rw [date_Days]
 simp only [Zb]
 by_cases h:d<1
 ·rw [bif_t h,if_neg (by omega)]
 ·rw [Qc h]
  by_cases h':d>dDays y m
  ·rw [bif_t h',if_neg (by omega)]
  ·rw [Qc h',if_pos (by omega)]
theorem Qpv (y m d:Int):z101.F y m d=some (decide (right y m d)):=by
 unfold z101.F
 rw [Qr9]
 simp only [Zb]
 by_cases h:d>=1
 ·rw [bif_t h];congr 1;exact decide_eq_decide.2 (by omega)
 ·rw [Qc h];congr 1;symm;exact Zf (by omega)
def dcmp (a b c a' b' c':Int):Int:=if a<a' then -1 else if a'<a then 1 else if b<b' then -1 else if b'<b then 1 else if c<c' then -1 else if c'<c then 1 else 0
theorem or3 (x y z:Int):z73.F [x,y,z]=some (if x≠0 then x else if y≠0 then y else z):=by
 have e0:wr .i64 (0+1)=1:=by decide
 have e1:wr .i64 (1+1)=2:=by decide
 have e2:wr .i64 (2+1)=3:=by decide
 have r3:Runs (λrec i=>z73.l0P 0 [x,y,z] 3 rec some i) 3 (.inl 3):=.done λrec=>by unfold z73.l0P;rw [Qc (by decide)]
 have r2:Runs (λrec i=>z73.l0P 0 [x,y,z] 3 rec some i) 2 (if z≠0 then .inr z else .inl 3):=by
  by_cases h:z=0
  ·rw [if_neg (by omega)]
   refine .step (λrec=>?_) r3
   unfold z73.l0P
   rw [bif_t (by decide),if_pos (by simp),show [x,y,z].getD (Int.toNat 2) 0=z from rfl,Zt h,e2];rfl
  ·rw [if_pos h]
   refine .done λrec=>?_
   unfold z73.l0P
   rw [bif_t (by decide),if_pos (by simp),show [x,y,z].getD (Int.toNat 2) 0=z from rfl,Zf h];rfl
 have r1:Runs (λrec i=>z73.l0P 0 [x,y,z] 3 rec some i) 1 (if y≠0 then .inr y else if z≠0 then .inr z else .inl 3):=by
  by_cases h:y=0
  ·rw [if_neg (by omega)]
   refine .step (λrec=>?_) r2
   unfold z73.l0P
   rw [bif_t (by decide),if_pos (by simp),show [x,y,z].getD (Int.toNat 1) 0=y from rfl,Zt h,e1];rfl
  ·rw [if_pos h]
   refine .done λrec=>?_
   unfold z73.l0P
   rw [bif_t (by decide),if_pos (by simp),show [x,y,z].getD (Int.toNat 1) 0=y from rfl,Zf h];rfl
 have r0:Runs (λrec i=>z73.l0P 0 [x,y,z] 3 rec some i) 0 (if x≠0 then .inr x else if y≠0 then .inr y else if z≠0 then .inr z else .inl 3):=by
  by_cases h:x=0
  ·rw [if_neg (by omega)]
   refine .step (λrec=>?_) r1
   unfold z73.l0P
   rw [bif_t (by decide),if_pos (by simp),show [x,y,z].getD (Int.toNat 0) 0=x from rfl,Zt h,e0];rfl
  ·rw [if_pos h]
   refine .done λrec=>?_
   unfold z73.l0P
   rw [bif_t (by decide),if_pos (by simp),show [x,y,z].getD (Int.toNat 0) 0=x from rfl,Zf h];rfl
 have e:z73.l0 0 [x,y,z] 3 0=_:=r0.lfp
 unfold z73.F
 show ((z73.l0 0 [x,y,z] 3 0).bind _)=_
 rw [e]
 simp only [Zb]
 by_cases hx:x=0<;>by_cases hy:y=0<;>by_cases hz:z=0<;>simp [hx,hy,hz]
theorem date_Cmp (a b c a' b' c':Int):z74.F a b c a' b' c'=some (dcmp a b c a' b' c'):=by
 unfold z74.F
 rw [Qcd]
 simp only [Zb]
 rw [Qcd]
 simp only [Zb]
 rw [Qcd]
 simp only [Zb]
 rw [or3]
 simp only [Zb]
 congr 1
 unfold cmpI dcmp
 rcases Z76 a a' with h|h|h<;>rcases Z76 b b' with g|g|g<;>rcases Z76 c c' with k|k|k <;>
  (repeat' split)<;>omega
theorem Ql8 {s:J1} (h:Qx s):sz (tv 0 s).toNat<=s.length:=Qy (by have:=Yh h;omega)
theorem Qsl (s:J1):sz (mDigits s).1<=4096:=by
 have h0:sz 0<=4096:=by rw [Qfh];omega
 unfold mDigits
 split
 ·exact h0
 ·split
  ·rename_i h1 h2
   unfold numOK at h2
   simp only [Z5] at h2
   have:=Ql8 (J9.1 h2.1.2)
   show sz (tv 0 s).toNat<=4096
   omega
  ·exact h0
theorem Qjd (s:J1):sz (mWhole s).1.natAbs<=4096:=by
 have h:=Qsl (cutNeg s).1
 have h0:sz 0<=4096:=by rw [Qfh];omega
 unfold mWhole
 split
 ·exact h0
 ·split
  ·exact h0
  ·show sz (if _ then _ else _:Int).natAbs<=_
   split
   ·rw [Int.natAbs_neg];exact h
   ·exact h
def mMoney (s:J1):Int×Int:=
 if (mWhole s).2≠0 then (0,(mWhole s).2) else if (mWhole s).1<0\/10^30<(mWhole s).1 then (0,19) else ((mWhole s).1,0)
theorem terms_greatest:z46.F=some (lb (Int.natAbs (10^30)),neg (10^30)):=by
 unfold z46.F
 have h:=digits_Ten (t:=30) (by decide)
 rw [show ((30:Nat):Int)=30 from rfl] at h
 rw [h]
 simp only [Zb]
 rw [Yb (z:=10^30) (by decide) (.inr ⟨rfl,by decide⟩)]
 rfl
theorem terms_Money (s:J1):z47.F s=some (lb (mMoney s).1.natAbs,neg (mMoney s).1,(mMoney s).2):=by
 have hz:=Qjd s
 unfold z47.F mMoney
 rw [whole_Parse]
 simp only [Zb]
 generalize mWhole s=w at *
 have hn:lb (Int.natAbs 0)=[]:=lb_zero
 by_cases h:w.2=0
 ·rw [Zt h,if_neg (by omega)]
  simp only [Zn,Zc]
  rw [Qav]
  simp only [Zb]
  by_cases h1:w.1<0
  ·rw [bif_t (Qb9.2 h1),if_pos (.inl h1),hn];rfl
  ·rw [Qc (λh=>h1 (Qb9.1 h)),terms_greatest]
   simp only [Zb]
   have l1:=Wa w.1.natAbs
   have l2:(lb (Int.natAbs (10^30))).length<=31:=Z51 (Wa _) (Qy (by decide))
   have l3:sz w.1.natAbs<=4096:=hz
   rw [Qm4 (by omega)]
   simp only [Zb]
   by_cases h2:10^30<w.1
   ·rw [bif_t (Y7.2 h2),if_pos (.inr h2),hn];rfl
   ·rw [Qc (λh=>h2 (Y7.1 h)),if_neg (by omega)]
 ·rw [Zf h,if_pos h,hn];rfl
theorem Qdv (s:J1):(mDec s).2.1<=64/\sz (mDec s).1.natAbs<=4096:=by
 have h0:sz (Int.natAbs 0)<=4096:=by show sz 0<=4096;rw [Qfh];omega
 unfold mDec
 split
 ·exact ⟨Z54 _,h0⟩
 ·rename_i hl
  have hc:=Qjk s
  generalize (cutNeg s).1=t at *
  unfold Jv
  split
  ·exact ⟨Z54 _,h0⟩
  ·rename_i hp
   split
   ·exact ⟨Z54 _,h0⟩
   ·split
    ·exact ⟨Z54 _,h0⟩
    ·rename_i h64
     refine ⟨by show List.length _<=64;omega,?_⟩
     have hd:Qx ((cutDot t).1++(cutDot t).2.getD [])/\((cutDot t).1++(cutDot t).2.getD []).length<=4096:=by
      simp only [Z56,not_or,Z50,Bool.not_eq_false,Z5] at hp
      obtain ⟨⟨p1,p2⟩,p3⟩:=hp
      have q1:=(Qch (by simpa using p1)).1
      cases ho:(cutDot t).2 with
      |
       none=>
       have:=Qcw ho
       simp only [Option.getD_none,Z44]
       exact ⟨q1,by rw [this];omega⟩
      |
       some b=>
       have:=Qc8 ho
       rw [ho] at p2
       have q2:=(Qch (s:=b) (by simpa using p2)).1
       simp only [Z42]
       refine ⟨λx hx=>(Z62.1 hx).elim (q1 x) (q2 x),?_⟩
       have hlen:t.length=(cutDot t).1.length+(b.length+1):=by
        conv=>lhs;rw [this]
        simp
       rw [Z9];omega
     have h1:=Z51 (Ql8 hd.1) hd.2
     have h2:=(Yh hd.1).1
     show sz (if _ then _ else _:Int).natAbs<=_
     have e:∀z:Int,0<=z->z.natAbs=z.toNat:=λz hz=>by omega
     split
     ·rw [Int.natAbs_neg,e _ h2];exact h1
     ·rw [e _ h2];exact h1
theorem dec_ten {t:Nat} (ht:t<=4096):z56.F (t:Int)=some (lb (10^t:Nat),false):=by
 unfold z56.F
 rw [digits_Ten ht]
 simp only [Zb]
 rw [whole_Of];rfl
theorem Qml {t:Nat} (ht:t<=4096):z56.F (t:Int)=some (lb ((10^t:Nat):Int).natAbs,neg ((10^t:Nat):Int)):=by
 rw [dec_ten ht]
 have:neg ((10^t:Nat):Int)=false:=Zf (Int.not_lt.2 (Z87 _))
 rw [this];rfl
theorem Qa5 (t:Nat):sz (10^t)<=t+1:=Qy (by rw [Z35];have:0<10^t:=Z93 (by decide);omega)
theorem Qm6 {c:Int} {s t:Nat} (h:s<=t) (ht:t<=4096) (hc:sz c.natAbs<=100000000):z58.F (lb c.natAbs) (neg c) (s:Int) (t:Int)=some (lb (c*(10^(t-s):Nat)).natAbs,neg (c*(10^(t-s):Nat))):=by
 have l1:=Wa c.natAbs
 have l2:=Wa ((10^(t-s):Nat):Int).natAbs
 have l3:=Qa5 (t-s)
 have l4:sz ((10^(t-s):Nat):Int).natAbs=sz (10^(t-s)):=rfl
 unfold z58.F
 rw [Qh (by omega) (by omega),show (t:Int)-s=((t-s:Nat):Int) by omega,Qml (by omega)]
 simp only [Zb]
 rw [Qeo (by omega)]
 rfl
theorem Quq {c c':Int} {s s':Nat} (hs:s<=2000) (hs':s'<=2000) (hc:sz c.natAbs<=100000000) (hc':sz c'.natAbs<=100000000) :
  z59.F (lb c.natAbs) (neg c) (s:Int) (lb c'.natAbs) (neg c') (s':Int)=some (cmpI (c*(10^(max s s'-s):Nat)) (c'*(10^(max s s'-s'):Nat))):=by
 have e:(if (s':Int)>(s:Int) then (s':Int) else (s:Int))=((max s s':Nat):Int):=by split<;>omega
 have m1:=W0 c.natAbs (10^(max s s'-s))
 have m2:=W0 c'.natAbs (10^(max s s'-s'))
 have t1:=Qa5 (max s s'-s)
 have t2:=Qa5 (max s s'-s')
 have l1:=Wa (c*(10^(max s s'-s):Nat)).natAbs
 have l2:=Wa (c'*(10^(max s s'-s'):Nat)).natAbs
 have e1:(c*(10^(max s s'-s):Nat)).natAbs=c.natAbs*10^(max s s'-s):=by rw [Z80];rfl
 have e2:(c'*(10^(max s s'-s'):Nat)).natAbs=c'.natAbs*10^(max s s'-s'):=by rw [Z80];rfl
 have hc1:sz c.natAbs<=100000000:=hc
 have hc2:sz c'.natAbs<=100000000:=hc'
 rw [<-e1] at m1
 rw [<-e2] at m2
 unfold z59.F
 rw [e,Qm6 (by omega) (by omega) hc]
 simp only [Zb]
 rw [Qm6 (by omega) (by omega) hc']
 simp only [Zb]
 rw [Qm4 (by omega)]
 rfl
theorem Qmt (n:Int) {d:Nat} (hd:0<d):(mkRat n d).num.natAbs<=n.natAbs:=by
 rw [Rat.num_mkRat,if_neg (by omega),Nat.gcd_comm]
 have hg:0<Nat.gcd n.natAbs d:=Nat.gcd_pos_of_pos_right _ hd
 rw [(Qf4 (Nat.gcd_dvd_left n.natAbs d) hg).1]
 exact Nat.div_le_self _ _
theorem Qj5 (n:Int) {d:Nat} (hd:0<d):(mkRat n d).den<=d:=by
 rw [Rat.den_mkRat,if_neg (by omega)]
 exact Nat.div_le_self _ _
theorem Qpn {M:Nat} (hD:Qak M) {c:Int} {s:Nat} (hs:s<=4096) (hc:c.natAbs<=M) (hM:10^s<=M):z64.F (lb c.natAbs) (neg c) (s:Int)=some (fr (mkRat c (10^s))):=by
 have hp:0<10^s:=Z93 (by decide)
 have l:=Qa5 s
 unfold z64.F
 rw [Qml hs]
 simp only [Zb]
 rw [frac_Of (num:=c) (den:=((10^s:Nat):Int)) hD (by exact_mod_cast (Nat.ne_of_gt hp)) hc (by show 10^s<=M;exact hM) (by show sz (10^s)<=_;omega),Rat.divInt_ofNat]
 rfl
def Yl (s:J1):Rat×Int:=
 if (mDec s).2.2≠0 then (0,(mDec s).2.2)
 else if (mDec s).1<0\/1000*(10^(mDec s).2.1:Nat)<(mDec s).1\/12<(mDec s).2.1 then (0,18)
 else (mkRat (mDec s).1 (10^(mDec s).2.1)/100,0)
theorem Qou:fr 0=([],false,[]):=by
 show (lb 0,neg 0,lb 0)=_
 rw [lb_zero];rfl
theorem Qdc (e:Int):some (([]:J0),false,([]:J0),e)=some ((fr (0:Rat)).1,(fr (0:Rat)).2.1,(fr (0:Rat)).2.2,e):=by
 rw [Qou]
theorem Qne:fr 100=(lb (Int.natAbs 100),neg 100,[]):=by
 show (lb 100,neg 100,lb 0)=_
 rw [lb_zero];rfl
theorem Qmh:Qak 1000000000000000000:=λx y hx hy h0=>Qs0 (by omega) h0
theorem terms_Rate (s:J1):z69.F s=some ((fr (Yl s).1).1,(fr (Yl s).1).2.1,(fr (Yl s).1).2.2,(Yl s).2):=by
 obtain ⟨hb1,hb2⟩:=Qdv s
 unfold z69.F Yl
 rw [dec_Parse]
 simp only [Zb,decR]
 generalize mDec s=d at *
 obtain ⟨c,sc,e⟩:=d
 simp only at *
 have hcz:sz c.natAbs<=4096:=hb2
 by_cases h:e=0
 ·rw [Zt h,if_neg (by omega)]
  simp only [Zn,Zc]
  rw [whole_From (by omega)]
  simp only [Zb]
  have ho:z52.F (lb (Int.natAbs 1000)) (neg 1000) 0=some (lb (Int.natAbs 1000),neg 1000,0,0):=rfl
  rw [ho]
  simp only [Zb]
  unfold z54.F z53.F
  simp only [Zb]
  rw [Qav]
  simp only [Zb]
  by_cases h1:c<0
  ·rw [bif_t (Qb9.2 h1),if_pos (.inl h1)];exact Qdc 18
  ·rw [Qc (λh=>h1 (Qb9.1 h))]
   have hk:sz (Int.natAbs 1000)<=4:=Qy (by decide)
   have hcmp:=Quq (c:=c) (c':=1000) (s:=sc) (s':=0) (by omega) (by omega) (by omega) (by omega)
   rw [show ((0:Nat):Int)=0 from rfl] at hcmp
   rw [hcmp]
   simp only [Zb,Nat.max_zero,Nat.sub_self,Nat.pow_zero,Nat.sub_zero,Int.natCast_one,Int.mul_one]
   by_cases h2:1000*((10^sc:Nat):Int)<c
   ·rw [bif_t (Y7.2 h2),if_pos (.inr (.inl h2))];exact Qdc 18
   ·rw [Qc (λh=>h2 (Y7.1 h))]
    by_cases h3:12<sc
    ·rw [bif_t (by omega),if_pos (.inr (.inr h3))];exact Qdc 18
    ·rw [Qc (by omega),if_neg (by omega)]
     have hp12:10^sc<=10^12:=Z53 (by decide) (by omega)
     have hp0:0<10^sc:=Z93 (by decide)
     have n1:=Qmt c hp0
     have n2:=Qj5 c hp0
     have hd0:=(mkRat c (10^sc)).den_pos
     unfold z69.j8
     rw [Qpn Qmh (by omega) (by omega) (by omega)]
     simp only [Zb]
     rw [whole_From (by omega)]
     simp only [Zb]
     have hf:z68.F (lb (Int.natAbs 100)) (neg 100)=some (fr 100):=by rw [Qne];rfl
     rw [hf]
     simp only [Zb]
     generalize mkRat c (10^sc)=q at *
     have hq:=Qs4 Qmh (q:=q) (r:=100) (by decide)
      (by rw [show (100:Rat).den=1 from rfl];simp;omega)
      (by rw [show (100:Rat).num=100 from rfl,Z80];show q.den*100<=_;omega)
      (by
        rw [show (100:Rat).den=1 from rfl]
        have a1:sz q.num.natAbs<=20:=Qy (by omega)
        have a2:sz 1<=1:=Qy (by decide)
        omega)
      (by
        rw [show (100:Rat).num=100 from rfl]
        have a1:sz q.den<=20:=Qy (by omega)
        have a2:sz (Int.natAbs 100)<=3:=Qy (by decide)
        omega)
     rw [hq]
     rfl
 ·rw [Zf h,if_pos h];exact Qdc e
theorem Qrq {s:J1} (h:Qx s):cutNeg s=(s,false):=by
 unfold cutNeg
 cases s with
 |nil=>rfl
 |
  cons b t=>
  have hb:=h b (by simp)
  unfold digit at hb
  simp only
  rw [if_neg]
  rintro rfl
  simp at hb
def Wq (n k:Nat):J1:=List.replicate (k+1-(txt n).length) 48++txt n
theorem Qlp (n k:Nat):k<(Wq n k).length/\(Wq n k).length<=k+1+(txt n).length:=by unfold Wq;rw [Z9,List.length_replicate];omega
def Qdk (n k:Nat):J1:=(Wq n k).take ((Wq n k).length-k)++46::(Wq n k).drop ((Wq n k).length-k)
theorem Qfa {b r:Nat} (hb:0<b) (hs:sz b+sz r<=300000000):∀(f lo hi:Nat),hi-lo<=f->lo<=hi->hi<=9999->b*lo<=r->r<b*(hi+1) ->
  Runs (λrec x=>z127.l2P (dg b) (dg r) rec some x) ((lo:Int),(hi:Int)) (((r/b:Nat):Int),((r/b:Nat):Int))
 |
  0,lo,hi,hf,hl,hh,h1,h2=>by
  have:lo=hi:=by omega
  subst this
  have e:r/b=lo:=Nat.div_eq_of_lt_le (by rw [Z30];exact h1) (by rw [Z30];exact h2)
  rw [e]
  refine .done λrec=>?_
  unfold z127.l2P
  simp only
  rw [Qc (by omega)]
 |
  f+1,lo,hi,hf,hl,hh,h1,h2=>by
  by_cases h:lo<hi
  ·have e1:wr .i64 (Int.tdiv (wr .i64 (wr .i64 ((lo:Int)+(hi:Int))+1)) 2)=(((lo+hi+1)/2:Nat):Int):=by
    rw [Qh (n:=(lo:Int)+(hi:Int)) (by omega) (by omega),Qh (n:=(lo:Int)+(hi:Int)+1) (by omega) (by omega),Jr (by omega),Qh (by omega) (by omega)];omega
   obtain ⟨mid,hmid⟩:∃mid,(lo+hi+1)/2=mid:=⟨_,rfl⟩
   rw [hmid] at e1
   have sm:sz mid<=4:=Qy (by omega)
   have sbm:=W0 b mid
   have l1:=We b
   have l2:=We mid
   have l3:=We (b*mid)
   have step:∀rec:(Int×Int)->Option (Int×Int),z127.l2P (dg b) (dg r) rec some ((lo:Int),(hi:Int))=if b*mid<=r then rec ((mid:Int),(hi:Int)) else rec ((lo:Int),((mid-1:Nat):Int)):=λrec=>by
    unfold z127.l2P
    simp only
    rw [bif_t (by omega),e1,Qc9 (by omega)]
    simp only [Zb]
    rw [Qfs (by omega)]
    simp only [Zb]
    rw [Qjj (by omega)]
    simp only [Zb]
    by_cases hc:b*mid<=r
    ·rw [if_pos hc,bif_t (by
      rcases Nat.lt_or_eq_of_le hc with h3|h3
      ·exact Int.le_of_lt (Qb9.2 (by exact_mod_cast h3))
      ·exact Int.le_of_eq (Qfm.2 (by exact_mod_cast h3)))]
    ·rw [if_neg hc,Qc (by
      have:=Y7 (m:=((b*mid:Nat):Int)) (n:=(r:Int))
      have h4:=this.2 (by exact_mod_cast Nat.lt_of_not_le hc)
      omega),Qh (n:=(mid:Int)-1) (by omega) (by omega)]
     congr 2;omega
   by_cases hc:b*mid<=r
   ·refine .step (λrec=>?_) (Qfa hb hs f mid hi (by omega) (by omega) hh hc h2)
    rw [step,if_pos hc]
   ·refine .step (λrec=>?_) (Qfa hb hs f lo (mid-1) (by omega) (by omega) (by omega) h1 (by rw [show mid-1+1=mid by omega];omega))
    rw [step,if_neg hc]
  ·have:lo=hi:=by omega
   subst this
   have e:r/b=lo:=Nat.div_eq_of_lt_le (by rw [Z30];exact h1) (by rw [Z30];exact h2)
   rw [e]
   refine .done λrec=>?_
   unfold z127.l2P
   simp only
   rw [Qc (by omega)]
theorem Qgc {s:J0} {i:Nat} {x:Int}:(s.set i x).drop (i+1)=s.drop (i+1):=by
 apply List.ext_getElem?
 intro j
 rw [List.getElem?_drop,List.getElem?_drop,List.getElem?_set_ne (by omega)]
theorem Qir {a:J0} {b N:Nat} (ha:inB 10000 a) (hb:0<b) (hs:sz b<=100000000) (hl:a.length<=800000000) (hN:(N:Int)=valB 10000 a) :
  ∀
   (k:Nat),k<=a.length->∀(m:Nat) (q:J0),(m:Int)=valB 10000 (a.drop k)->q.length=a.length->inB 10000 q->valB 10000 (q.drop k)=((m/b:Nat):Int) ->
   ∃q',Runs (λrec x=>z127.l0P a (dg b) rec some x) (dg (m%b),(k:Int)-1,q) (dg (N%b),(-1:Int),q')/\q'.length=a.length/\inB 10000 q'/\valB 10000 q'=((N/b:Nat):Int)
 |
  0,hk,m,q,hm,hq,hi,hv=>by
  have:m=N:=by rw [Z45] at hm;omega
  subst this
  refine ⟨q,.done λrec=>?_,hq,hi,by rwa [Z45] at hv⟩
  unfold z127.l0P
  simp only
  rw [Qc (by omega)];rfl
 |
  k+1,hk,m,q,hm,hq,hi,hv=>by
  have hka:k<a.length:=by omega
  have hkq:k<q.length:=by omega
  have hd:=Q7 (B:=10000) (by decide) ha k
  obtain ⟨d,hd'⟩:∃d:Nat,a.getD k 0=(d:Int):=⟨(a.getD k 0).toNat,by omega⟩
  have hd2:d<10000:=by omega
  obtain ⟨r,hr⟩:∃r,m%b=r:=⟨_,rfl⟩
  have hrb:r<b:=hr▸Z85 m hb
  obtain ⟨x,hx⟩:∃x,d+10000*r=x:=⟨_,rfl⟩
  have hxb:x<b*10000:=by omega
  have sx:sz x<=sz b+4:=Qy (by
   have h1:=Qa8 b
   rw [Z88]
   exact Z12 hxb (Z24 _ (Z61 h1)))
  have sr:sz r<=sz b:=Jx (by omega)
  have l1:=We x
  have l2:=We r
  have l3:=We b
  obtain ⟨z,hz⟩:∃z,x/b=z:=⟨_,rfl⟩
  obtain ⟨w,hw⟩:∃w,x%b=w:=⟨_,rfl⟩
  obtain ⟨y,hy⟩:∃y,m/b=y:=⟨_,rfl⟩
  have hq1:z<10000:=hz▸Nat.div_lt_of_lt_mul hxb
  have hdm:b*z+w=x:=by rw [<-hz,<-hw];exact Z57 x b
  have hmm:b*y+r=m:=by rw [<-hy,<-hr];exact Z57 m b
  have hm':((d+10000*m:Nat):Int)=valB 10000 (a.drop k):=by rw [Yf,hd',<-hm];omega
  have e:d+10000*m=x+b*(10000*y):=by
   have h4:b*(10000*y)=10000*(b*y):=by rw [<-Z84,Z30 b 10000,Z84]
   omega
  have hdiv:(d+10000*m)/b=z+10000*y:=by rw [e,Nat.add_mul_div_left _ _ hb,hz]
  have hmod:(d+10000*m)%b=w:=by rw [e,Z79,hw]
  have hvq:valB 10000 ((q.set k (z:Int)).drop k)=(((d+10000*m)/b:Nat):Int):=by
   rw [Yf,Qgc,hv,hdiv,hy]
   have:(q.set k (z:Int)).getD k 0=(z:Int):=by simp [List.getD,hkq]
   rw [this];omega
  obtain ⟨q',r1,r2,r3,r4⟩:=Qir ha hb hs hl hN k (by omega) (d+10000*m) (q.set k (z:Int)) hm' (by simp [hq]) (Qab hi (by show (0:Int)<=(z:Int)/\(z:Int)<10000;omega)) hvq
  rw [hmod] at r1
  refine ⟨q',.step (λrec=>?_) r1,r2,r3,r4⟩
  have hsr:=Qfa (b:=b) (r:=x) hb (by omega) 9999 0 9999 (by omega) (by omega) (by omega) (by omega) (by omega)
  have es:z127.l2 (dg b) (dg x) ((0:Int),(9999:Int))=some (((x/b:Nat):Int),((x/b:Nat):Int)):=hsr.lfp
  rw [hz] at es
  have et:z109.F ([(d:Int)]++dg r)=some (dg x):=by
   rw [Qbe (Qhd.2 ⟨Yq.2 ⟨by omega,Y0 _⟩,Q0 b4 r⟩) (by show ([(d:Int)]++dg r).length<=1000000000;rw [Z9,Z14];omega)]
   have:valB 10000 ([(d:Int)]++dg r)=(x:Int):=by
    show (d:Int)+((10000:Nat):Int)*valB 10000 (dg r)=x
    rw [Q8 b4];omega
   rw [this];rfl
  have szz:sz z<=4:=Qy (by omega)
  have l4:=We z
  have l5:=We (b*z)
  have sbz:=W0 b z
  have ek:((k+1:Nat):Int)-1=(k:Int):=by omega
  unfold z127.l0P
  simp only
  rw [ek,bif_t (by omega),if_pos (by omega),Zi,hd',hr,if_pos (by rw [Z14];omega),et]
  simp only [Zb]
  rw [es]
  simp only [Zb]
  rw [if_pos (by omega),if_pos hkq,Qc9 (by omega)]
  simp only [Zb]
  rw [Qfs (by omega)]
  simp only [Zb]
  rw [Qe8 (by omega) (by omega)]
  simp only [Zb]
  rw [Qh (by omega) (by omega),show x-b*z=w by omega]
theorem Qfw {a b:Nat} (hb:0<b) (ha:sz a<=700000000) (hs:sz b<=100000000):z127.F (dg a) (dg b)=some (dg (a/b),dg (a%b)):=by
 have l1:=We a
 obtain ⟨q',r1,r2,r3,r4⟩:=Qir (a:=dg a) (b:=b) (N:=a) (Q0 b4 a) hb hs (by omega) (by rw [Q8 b4]) (dg a).length (Z3 _) 0 (List.replicate (dg a).length 0) (by rw [List.drop_length];rfl) (by simp) (Qa0 (by decide) _) (by rw [Z26 (by simp)];simp [valB])
 rw [Nat.zero_mod,Qds] at r1
 have e:z127.l0 (dg a) (dg b) ([],((dg a).length:Int)-1,List.replicate (dg a).length 0)=some (dg (a%b),(-1:Int),q'):=r1.lfp
 unfold z127.F
 rw [if_pos (by omega),Zi,Qh (by omega) (by omega),e]
 simp only [Zb]
 rw [Qbe r3 (by show List.length _<=_;omega),r4]
 rfl
theorem Qpe {a b:Nat} (ha:sz a<=100000000) (hb:sz b<=100000000):z128.F (dg a) (dg b)=some (dg (Nat.gcd a b)):=by
 have key:∀(f a b:Nat),b<f->sz a<=100000000->sz b<=100000000->Runs (λrec x=>z128.l0P rec some x) (dg a,dg b) (dg (Nat.gcd a b),[]):=by
  intro f
  induction f with
  |zero=>intro a b h;omega
  |
   succ f ih=>
   intro a b h ha hb
   rcases Z17 b with h0|h0
   ·subst h0
    refine .done λrec=>?_
    unfold z128.l0P
    simp only
    rw [Qc (by rw [Qds];simp),Nat.gcd_zero_right,Qds]
   ·have hm:=Z85 a h0
    have e:Nat.gcd a b=Nat.gcd b (a%b):=by rw [Nat.gcd_comm,Nat.gcd_rec,Nat.gcd_comm]
    have hsm:sz (a%b)<=sz b:=Jx (by omega)
    rw [e]
    refine .step (λrec=>?_) (ih b (a%b) (by omega) hb (by omega))
    unfold z128.l0P
    simp only
    rw [bif_t ((Qk5 b).2 h0),Qfw h0 (by omega) hb]
    rfl
 unfold z128.F
 have e:z128.l0 (dg a,dg b)=some (dg (Nat.gcd a b),[]):=(key (b+1) a b (by omega) ha hb).lfp
 rw [e];rfl
abbrev rf (q:Rat):J0×Bool×J0:=(dg q.num.natAbs,neg q.num,dg q.den)
theorem Qfj {num:Int} {den:Nat} (h0:0<den) (hn:sz num.natAbs<=100000000) (hd:sz den<=100000000):z129.F (dg num.natAbs) (neg num) (dg den)=some (rf (mkRat num den)):=by
 have hg:0<Nat.gcd num.natAbs den:=Nat.gcd_pos_of_pos_right _ h0
 have hgs:sz (Nat.gcd num.natAbs den)<=sz den:=Jx (Nat.gcd_le_right _ h0)
 obtain ⟨q1,q2⟩:=Qf4 (Nat.gcd_dvd_left num.natAbs den) hg
 unfold z129.F
 rw [Qpe hn hd]
 simp only [Zb]
 show _=some (dg (mkRat num den).num.natAbs,neg (mkRat num den).num,dg (mkRat num den).den)
 rw [Rat.num_mkRat,Rat.den_mkRat,if_neg (by omega),if_neg (by omega),Nat.gcd_comm den]
 generalize Nat.gcd num.natAbs den=g at *
 rw [Qfw hg (by omega) (by omega)]
 simp only [Zb]
 rw [Qfw hg (by omega) (by omega)]
 simp only [Zb]
 rw [Yx (z:=num/(g:Int)) q1.symm (by
  have hz:num/(g:Int)<0↔num<0:=q2
  by_cases h:num<0
  ·exact .inl ⟨Zt h,by omega⟩
  ·exact .inr ⟨Zf h,by omega⟩)]
 rfl
theorem Qjg {num den:Int} (h0:den≠0) (hn:sz num.natAbs<=100000000) (hd:sz den.natAbs<=100000000):z130.F (dg num.natAbs) (neg num) (dg den.natAbs) (neg den)=some (rf (Rat.divInt num den)):=by
 unfold z130.F
 by_cases h:den<0
 ·have e:Rat.divInt num den=mkRat (-num) den.natAbs:=by
   have:den = -((den.natAbs:Nat):Int):=by omega
   conv=>lhs;rw [this]
   rw [Rat.divInt_neg',Rat.divInt_ofNat]
  rw [bif_t h,Qh3]
  simp only [Zb]
  rw [Qfj (by omega) (by rw [Int.natAbs_neg];exact hn) hd,e]
  rfl
 ·have e:Rat.divInt num den=mkRat num den.natAbs:=by
   have:den=((den.natAbs:Nat):Int):=by omega
   conv=>lhs;rw [this]
   rw [Rat.divInt_ofNat]
  rw [Qc h,Qfj (by omega) hn hd,e]
  rfl
theorem Qen {a b:Int} (ha:-9223372036854775808<a/\a<9223372036854775808) (hb:-9223372036854775808<b/\b<9223372036854775808) (h0:b≠0):z131.F a b=some (rf (Rat.divInt a b)):=by
 have s1:sz a.natAbs<=20:=Qy (by omega)
 have s2:sz b.natAbs<=20:=Qy (by omega)
 unfold z131.F
 rw [Qb0 ha]
 simp only [Zb]
 rw [Qb0 hb]
 simp only [Zb]
 rw [Qjg h0 (by omega) (by omega)]
 rfl
theorem Qf7 {q r:Rat} (hs:sz q.num.natAbs+sz r.den<=800000000) (a:J0) (b:J0) (c:Bool):z134.F (dg q.num.natAbs) (neg q.num) a b c (dg r.den)=some (dg (q.num*r.den).natAbs,neg (q.num*r.den)):=by
 have l1:=We q.num.natAbs
 have l2:=We r.den
 have l3:(dg (r.den:Int).natAbs).length=(dg r.den).length:=rfl
 unfold z134.F
 rw [Yx (z:=(r.den:Int)) (n:=r.den) (by omega) (.inr ⟨rfl,by omega⟩)]
 simp only [Zb]
 rw [Qle (by omega)]
 rfl
theorem Qt3 {q r:Rat} (hs:sz q.num.natAbs+sz r.den<=300000000) (hs':sz r.num.natAbs+sz q.den<=300000000):z135.F (rf q).1 (rf q).2.1 (rf q).2.2 (rf r).1 (rf r).2.1 (rf r).2.2=some (cmpI (q.num*r.den) (r.num*q.den)):=by
 have m1:=W0 q.num.natAbs (r.den:Int).natAbs
 have m2:=W0 r.num.natAbs (q.den:Int).natAbs
 rw [<-Z80] at m1 m2
 have e1:sz (r.den:Int).natAbs=sz r.den:=rfl
 have e2:sz (q.den:Int).natAbs=sz q.den:=rfl
 have l1:=We (q.num*r.den).natAbs
 have l2:=We (r.num*q.den).natAbs
 unfold z135.F
 rw [Qf7 (by omega)]
 simp only [Zb]
 rw [Qf7 (by omega)]
 simp only [Zb]
 rw [Qmo (by omega)]
 rfl
theorem Qus {q r:Rat} (h0:r≠0) (hs:sz q.num.natAbs+sz r.den<=90000000) (hs':sz r.num.natAbs+sz q.den<=90000000):z136.F (rf q).1 (rf q).2.1 (rf q).2.2 (rf r).1 (rf r).2.1 (rf r).2.2=some (rf (q/r)):=by
 have m1:=W0 q.num.natAbs (r.den:Int).natAbs
 have m2:=W0 r.num.natAbs (q.den:Int).natAbs
 rw [<-Z80] at m1 m2
 have e1:sz (r.den:Int).natAbs=sz r.den:=rfl
 have e2:sz (q.den:Int).natAbs=sz q.den:=rfl
 have l1:=We r.num.natAbs
 have l2:=We (q.den:Int).natAbs
 have hr:r.num≠0:=λh=>h0 (Rat.num_eq_zero.1 h)
 have hqd:=q.den_nz
 unfold z136.F
 rw [Qf7 (by omega)]
 simp only [Zb]
 rw [Yx (z:=(q.den:Int)) (n:=q.den) (by omega) (.inr ⟨rfl,by omega⟩)]
 simp only [Zb]
 rw [Qle (by omega)]
 simp only [Zb]
 rw [Qjg (Int.mul_ne_zero hr (by omega)) (by omega) (by omega),Qmi,Int.mul_comm (q.den:Int)]
 rfl
theorem Ya {s:J1} {i:Nat} (h:i<s.length):s.getD i 0=s[i]:=by simp [List.getD,h]
theorem Qjv {s:J1} (hs:s.length<=1000000000):∀(f i:Nat),i+f=s.length ->
  ∃o,Runs (λrec x=>z112.l0P s rec some x) (i:Int) o/\(match o with | .inl _=>true | .inr q=>q)=digs (s.drop i)
 |
  0,i,hf=>by
  refine ⟨.inl (i:Int),.done λrec=>?_,?_⟩
  ·unfold z112.l0P
   rw [Qc (by omega)]
  ·rw [Z26 (by omega)];rfl
 |
  f+1,i,hf=>by
  have hi:i<s.length:=by omega
  rw [Z21 hi]
  have e:digs (s[i]::s.drop (i+1))=(isD s[i]&&digs (s.drop (i+1))):=rfl
  rw [e]
  by_cases h1:(s[i].toNat:Int)<48
  ·refine ⟨.inr false,.done λrec=>?_,?_⟩
   ·unfold z112.l0P
    rw [bif_t (by omega),if_pos (by omega),Zi,Ya hi,bif_t h1]
   ·have:isD s[i]=false:=by unfold isD;rw [Zf (show ¬48<=s[i].toNat by omega)];rfl
    rw [this];rfl
  ·by_cases h2:(s[i].toNat:Int)>57
   ·refine ⟨.inr false,.done λrec=>?_,?_⟩
    ·unfold z112.l0P
     rw [bif_t (by omega),if_pos (by omega),Zi,Ya hi,Qc h1,if_pos (by omega),bif_t h2]
    ·have:isD s[i]=false:=by unfold isD;rw [Zf (show ¬s[i].toNat<=57 by omega)];simp
     rw [this];rfl
   ·obtain ⟨o,r,ho⟩:=Qjv hs f (i+1) (by omega)
    refine ⟨o,.step (λrec=>?_) r,?_⟩
    ·unfold z112.l0P
     rw [bif_t (by omega),if_pos (by omega),Zi,Ya hi,Qc h1,if_pos (by omega),Qc h2,Qh (by omega) (by omega)]
     rfl
    ·have:isD s[i]=true:=by unfold isD;rw [Zt (show 48<=s[i].toNat by omega),Zt (show s[i].toNat<=57 by omega)];rfl
     rw [ho,this];rfl
theorem Qs8 {s:J1} (hs:s.length<=1000000000):z112.F s=some (numOK s):=by
 obtain ⟨o,r,ho⟩:=Qjv hs s.length 0 (by omega)
 have e:z112.l0 s 0=some o:=r.lfp
 rw [Z45] at ho
 unfold z112.F numOK
 rw [e]
 simp only [Zb]
 by_cases h0:s=[]
 ·subst h0;rfl
 ·have hpos:=Z19.2 h0
  rw [Qc (by omega),Zf h0]
  by_cases h1:1<s.length
  ·rw [bif_t (by omega),if_pos (by omega),Zt h1]
   by_cases h2:(s.getD 0 0).toNat=48
   ·rw [bif_t (by omega),Zt h2];simp
   ·rw [Qc (by omega),Zf h2]
    simp only [Zo,Z22,Bool.and_true,Bool.and_false]
    cases o with
    |inl z=>exact congrArg some ho
    |inr q=>exact congrArg some ho
  ·rw [Qc (by omega),Zf h1]
   simp only [Zo,Z22,Bool.and_true,Z60]
   cases o with
   |inl z=>exact congrArg some ho
   |inr q=>exact congrArg some ho
theorem Qot {s:J1} (hs:Qx s) {b:UInt8} {t:J1} (e:s=b::t) (hb:b.toNat≠48):0<tv 0 s:=by
 subst e
 have h1:=hs b (by simp)
 unfold digit at h1
 have h2:=Yh (s:=t) λx hx=>hs x (by simp [hx])
 have e:tv 0 (b::t)=((b.toNat:Int)-48)*(10^t.length:Nat)+tv 0 t:=by
  show tv (10*0+(b.toNat:Int)-48) t=_
  rw [Qam];simp
 have h3:0<10^t.length:=Z93 (by decide)
 have h4:1*((10^t.length:Nat):Int)<=((b.toNat:Int)-48)*(10^t.length:Nat):=Int.mul_le_mul_of_nonneg_right (by omega) (by omega)
 rw [e];omega
theorem Qlr {s:J1} (h:numOK s=true):Qx s/\s≠[]/\(1<s.length->(s.getD 0 0).toNat≠48):=by
 unfold numOK at h
 simp only [Z5,Z50,decide_eq_false_iff_not,Bool.and_eq_false_iff] at h
 exact ⟨J9.1 h.1.2,h.1.1,λh1 h2=>by rcases h.2 with h3|h3<;>omega⟩
theorem Qtd {s:J1} (h:numOK s=true):(tv 0 s).toNat=0↔s=[48]:=by
 obtain ⟨h1,h2,h3⟩:=Qlr h
 constructor
 ·intro h0
  cases s with
  |nil=>exact absurd rfl h2
  |
   cons b t=>
   by_cases hb:b.toNat=48
   ·have:t=[]:=by
     cases t with
     |nil=>rfl
     |cons c t'=>exact absurd hb (h3 (by simp))
    subst this
    rw [show b=48 from UInt8.toNat_inj.1 hb]
   ·have:=Qot h1 rfl hb;omega
 ·rintro rfl;rfl
abbrev wr4 (w:Int×Int):J0×Bool×Int:=(dg w.1.natAbs,neg w.1,w.2)
theorem Qsb (s:J1) (hs:s.length<=1000000):z113.F s=some (wr4 (mWhole s)):=by
 have key:∀(plain:J1) (below:Bool),plain.length<=s.length->cutNeg s=(plain,below)->(below=true->s.length=plain.length+1/\s.drop 1=plain/\(s.getD 0 0).toNat=45)->(below=false->s=plain) ->
   z113.j3 plain (dg (Int.natAbs 0),neg 0) s=some (wr4 (mWhole s)):=λplain below hp hc hb hb'=>by
  have z0:∀e:Int,some (dg (Int.natAbs 0),neg 0,e)=some (wr4 (0,e)):=λe=>rfl
  unfold z113.j3 mWhole
  rw [hc]
  simp only
  by_cases h1:4096<plain.length
  ·have hm:mDigits plain=(0,7):=by unfold mDigits;rw [if_pos h1]
   rw [bif_t (by omega),hm,if_pos (by decide)]
  ·rw [Qc (by omega),Qs8 (by omega)]
   simp only [Zb]
   cases hn:numOK plain with
   |
    false=>
    have hm:mDigits plain=(0,5):=by unfold mDigits;rw [if_neg h1,hn];rfl
    simp only [Zo,Zd]
    rw [hm,if_pos (by decide)]
   |
    true=>
    obtain ⟨d1,d2,d3⟩:=Qlr hn
    have hm:mDigits plain=((tv 0 plain).toNat,0):=by unfold mDigits;rw [if_neg h1,hn];rfl
    have hz:=Qtd hn
    obtain ⟨v,hv⟩:∃v:Nat,tv 0 plain=(v:Int):=⟨_,(Int.toNat_of_nonneg (Yh d1).1).symm⟩
    rw [hv,Zi] at hm hz
    simp only [Zn,Zc]
    rw [hm,if_neg (by simp)]
    simp only
    have hread:z111.F s=some (dg v,(below&&decide (0<v))):=by
     unfold z111.F
     have hpos:=Z19.2 d2
     rw [if_pos (by omega)]
     cases below with
     |
      true=>
      obtain ⟨g1,g2,g3⟩:=hb rfl
      rw [bif_t (by omega),if_pos (by omega),g2,Qc7 d1 (by omega),hv]
      simp only [Zb]
      rw [Qbx];rfl
     |
      false=>
      have g:=hb' rfl
      have hne:¬(((s.getD 0 0).toNat:Int)=45):=by
       rw [g,Ya hpos]
       have:=d1 plain[0] (Z11 hpos)
       unfold digit at this;omega
      rw [Qc hne,g,Qc7 d1 (by omega),hv]
      simp only [Zb]
      rw [Qbx];rfl
    by_cases h48:plain=[48]
    ·have h0:=hz.2 h48
     rw [bif_t h48]
     cases below with
     |
      true=>
      obtain ⟨g1,g2,g3⟩:=hb rfl
      rw [bif_t (by rw [h48] at g1;simp at g1;omega),h0]
      rfl
     |
      false=>
      have g:=hb' rfl
      rw [Qc (by rw [g,h48];simp),hread,h0]
      rfl
    ·have h0:v≠0:=λhh=>h48 (hz.1 hh)
     rw [Qc h48,hread]
     simp only [Zb]
     have e:(below&&decide (v=0))=false:=by rw [Zf h0,Bool.and_false]
     rw [e]
     simp only [Z10,if_false]
     cases below with
     |
      true=>
      have e1:(true&&decide (0<v))=neg (-(v:Int)):=by rw [Z22];exact decide_eq_decide.2 (by omega)
      rw [e1]
      show _=some (dg (-(v:Int)).natAbs,neg (-(v:Int)),0)
      rw [Int.natAbs_neg];rfl
     |
      false=>
      have e1:(false&&decide (0<v))=neg (v:Int):=by rw [Z60];symm;exact Zf (by omega)
      rw [e1];rfl
 unfold z113.F
 rw [Qb0 (by omega)]
 simp only [Zb]
 cases s with
 |
  nil=>
  rw [Qc (by simp)]
  exact key [] false (by simp) rfl (λh=>by simp at h) (λ_=>rfl)
 |
  cons b t=>
  rw [bif_t (by simp),if_pos (by simp)]
  by_cases h:b=45
  ·subst h
   rw [bif_t (by rfl),if_pos (by simp;omega)]
   exact key t true (by simp) rfl (λ_=>⟨by simp,rfl,rfl⟩) (λh=>by simp at h)
  ·have hb:¬((((b::t).getD 0 0).toNat:Int)=45):=λhh=>h (UInt8.toNat_inj.1 (by have e:(b::t).getD 0 0=b:=rfl;rw [e] at hh;show b.toNat=45;omega))
   rw [Qc hb]
   exact key (b::t) false (by simp) (by unfold cutNeg;simp [h]) (λh=>by simp at h) (λ_=>rfl)
theorem Qhz (t:Nat) (ht:t<=1000000):∀(f i:Nat),i+f=t->Runs (λrec x=>z114.l0P (t:Int) rec some x) ((49:UInt8)::List.replicate i 48,(i:Int)) ((49:UInt8)::List.replicate t 48,(t:Int))
 |
  0,i,hf=>by
  have:i=t:=by omega
  subst this
  refine .done λrec=>?_
  unfold z114.l0P
  simp only
  rw [Qc (by omega)]
 |
  f+1,i,hf=>by
  refine .step (λrec=>?_) (Qhz t ht f (i+1) (by omega))
  unfold z114.l0P
  simp only
  rw [bif_t (by omega),if_pos (by simp;omega),Qh (by omega) (by omega),List.replicate_succ']
  rfl
theorem Qmf:∀(t:Nat) (a:Int),tv a (List.replicate t 48)=a*(10^t:Nat)
 |0,a=>by simp [tv]
 |
  t+1,a=>by
  rw [List.replicate_succ]
  show tv (10*a+((48:UInt8).toNat:Int)-48) (List.replicate t 48)=_
  rw [Qmf t,Z35,Z25]
  have:((48:UInt8).toNat:Int)=48:=rfl
  rw [this]
  generalize ((10^t:Nat):Int)=p
  grind
theorem Qi6 {t:Nat} (ht:t<=1000000):z114.F (t:Int)=some (dg (10^t)):=by
 have e:z114.l0 (t:Int) ([49],(0:Int))=some ((49:UInt8)::List.replicate t 48,(t:Int)):=(Qhz t ht t 0 (by omega)).lfp
 have hd:Qx ((49:UInt8)::List.replicate t 48):=λb hb=>by
  rcases Z86.1 hb with h|h
  ·subst h;unfold digit;decide
  ·rw [List.eq_of_mem_replicate h];unfold digit;decide
 have hv:tv 0 ((49:UInt8)::List.replicate t 48)=((10^t:Nat):Int):=by
  show tv 1 (List.replicate t 48)=_
  rw [Qmf];simp
 unfold z114.F
 rw [e]
 simp only [Zb]
 rw [Qc7 hd (by simp;omega),hv]
 rfl
theorem Qnc (s:J1) (hs:s.length<=1000000):z124.F s=some (wr4 (mMoney s)):=by
 have hz:=Qjd s
 unfold z124.F mMoney
 rw [Qb0 (by omega)]
 simp only [Zb]
 rw [Qsb s hs]
 simp only [Zb,wr4]
 generalize mWhole s=w at *
 by_cases h:w.2=0
 ·rw [Zt h,if_neg (by omega)]
  simp only [Zn,Zc]
  have h30:=Qi6 (t:=30) (by decide)
  rw [show ((30:Nat):Int)=30 from rfl] at h30
  rw [h30]
  simp only [Zb]
  rw [Yx (z:=10^30) (by decide) (.inr ⟨rfl,by decide⟩)]
  simp only [Zb]
  have l1:=We w.1.natAbs
  have l2:(dg (Int.natAbs (10^30))).length<=31:=Z51 (We _) (Qy (by decide))
  rw [Qmo (by omega)]
  simp only [Zb]
  by_cases h1:w.1<0
  ·rw [bif_t h1,if_pos (.inl h1)]
  ·rw [Qc h1]
   by_cases h2:10^30<w.1
   ·rw [bif_t (Y7.2 h2),if_pos (.inr h2)]
   ·rw [Qc (λh=>h2 (Y7.1 h)),if_neg (by omega)]
 ·rw [Zf h,if_pos h];rfl
def scan:J1->J1->Int->Int->Bool->Option (J1×Int×Int×Bool)
 |[],all,ah,bh,z=>some (all,ah,bh,z)
 |
  b::t,all,ah,bh,z=>
  if b.toNat=46/\bh<0 then scan t all ah 0 z
  else if isD b=false then none
  else if bh<0 then scan t (all++[b]) (ah+1) bh (z&&decide (b.toNat=48))
  else scan t (all++[b]) ah (bh+1) (z&&decide (b.toNat=48))
def Qcc (n:Int):Option (J1×Int×Int×Bool)->(Int×J1×Int×Int×Bool)⊕Int
 |none=>.inr 5
 |some r=>.inl (n,r.1,r.2.1,r.2.2.1,r.2.2.2)
theorem Qjh {s:J1} (hs:s.length<=1000000) {i:Nat} (hi:i<s.length) (all:J1) (ha:all.length<=1000000) (z:Bool) (x y:Int) {R:Type} (rec:(Int×J1×Int×Int×Bool)->Option R) (done:((Int×J1×Int×Int×Bool)⊕Int)->Option R) :
  z125.j1018a rec done z (i:Int) s all x y=rec (((i+1:Nat):Int),all++[s[i]],x,y,(z&&decide (s[i].toNat=48))):=by
 have e1:wr .i64 ((i:Int)+1)=((i+1:Nat):Int):=by rw [Qh (by omega) (by omega)];rfl
 have e2:(s.drop i).take (i+1-i)=[s[i]]:=by
  rw [show i+1-i=1 by omega,Z21 hi];rfl
 have e3:decide ((s[i].toNat:Int)=48)=decide (s[i].toNat=48):=decide_eq_decide.2 (by omega)
 unfold z125.j1018a
 simp only [e1,Zi,e2,Ya hi,e3]
 cases z with
 |true=>simp only [Zd,Z22];rw [if_pos (by omega),if_pos (by omega),if_pos (by simp;omega)]
 |false=>simp only [Zc,Z60];rw [if_pos (by omega),if_pos (by simp;omega)]
theorem Qc5 {s:J1} (hs:s.length<=1000000):∀(f i:Nat) (all:J1) (ah bh:Int) (z:Bool),i+f=s.length->all.length<=i->(0<=ah/\ah<=i)->(-1<=bh/\bh<=i) ->
  Runs (λrec x=>z125.l0P s rec some x) ((i:Int),all,ah,bh,z) (Qcc (s.length:Int) (scan (s.drop i) all ah bh z))
 |
  0,i,all,ah,bh,z,hf,_,_,_=>by
  refine .done λrec=>?_
  unfold z125.l0P
  simp only
  rw [Qc (by omega),Z26 (by omega),show (i:Int)=(s.length:Int) by omega];rfl
 |
  f+1,i,all,ah,bh,z,hf,ha,hah,hbh=>by
  have hi:i<s.length:=by omega
  have c1:(0:Int)<=(i:Int)/\(i:Int)<(s.length:Int):=by omega
  have e1:wr .i64 ((i:Int)+1)=((i+1:Nat):Int):=by rw [Qh (by omega) (by omega)];rfl
  rw [Z21 hi]
  by_cases hdot:s[i].toNat=46/\bh<0
  ·have ih:=Qc5 hs f (i+1) all ah 0 z (by omega) (by omega) (by omega) (by omega)
   have es:scan (s[i]::s.drop (i+1)) all ah bh z=scan (s.drop (i+1)) all ah 0 z:=by rw [scan];rw [if_pos hdot]
   rw [es]
   refine .step (λrec=>?_) ih
   unfold z125.l0P
   simp only
   rw [bif_t (by omega),if_pos c1,Zi,Ya hi,bif_t (by omega),bif_t hdot.2,e1]
  ·by_cases hd:isD s[i]=true
   ·have hd':48<=s[i].toNat/\s[i].toNat<=57:=by unfold isD at hd;simpa using hd
    have hnd:¬((s[i].toNat:Int)=46):=by omega
    by_cases hb:bh<0
    ·have ih:=Qc5 hs f (i+1) (all++[s[i]]) (ah+1) bh (z&&decide (s[i].toNat=48)) (by omega) (by simp;omega) (by omega) (by omega)
     have es:scan (s[i]::s.drop (i+1)) all ah bh z=scan (s.drop (i+1)) (all++[s[i]]) (ah+1) bh (z&&decide (s[i].toNat=48)):=by rw [scan];rw [if_neg hdot,if_neg (by rw [hd];simp),if_pos hb]
     rw [es]
     refine .step (λrec=>?_) ih
     unfold z125.l0P
     simp only
     rw [bif_t (by omega),if_pos c1,Zi,Ya hi,Qc hnd,if_pos c1,Qc (by omega),if_pos c1,Qc (by omega),bif_t hb,Qh (n:=ah+1) (by omega) (by omega)]
     exact Qjh hs hi all (by omega) z _ _ rec some
    ·have ih:=Qc5 hs f (i+1) (all++[s[i]]) ah (bh+1) (z&&decide (s[i].toNat=48)) (by omega) (by simp;omega) (by omega) (by omega)
     have es:scan (s[i]::s.drop (i+1)) all ah bh z=scan (s.drop (i+1)) (all++[s[i]]) ah (bh+1) (z&&decide (s[i].toNat=48)):=by rw [scan];rw [if_neg hdot,if_neg (by rw [hd];simp),if_neg hb]
     rw [es]
     refine .step (λrec=>?_) ih
     unfold z125.l0P
     simp only
     rw [bif_t (by omega),if_pos c1,Zi,Ya hi,Qc hnd,if_pos c1,Qc (by omega),if_pos c1,Qc (by omega),Qc hb,Qh (n:=bh+1) (by omega) (by omega)]
     exact Qjh hs hi all (by omega) z _ _ rec some
   ·have hd2:isD s[i]=false:=by simpa using hd
    have hd':s[i].toNat<48\/57<s[i].toNat:=by
     unfold isD at hd2
     simp at hd2
     omega
    have es:scan (s[i]::s.drop (i+1)) all ah bh z=none:=by rw [scan];rw [if_neg hdot,if_pos hd2]
    rw [es]
    refine .done λrec=>?_
    unfold z125.l0P
    simp only
    rw [bif_t (by omega),if_pos c1,Zi,Ya hi]
    by_cases h46:(s[i].toNat:Int)=46
    ·rw [bif_t h46,Qc (by omega),if_pos c1,bif_t (by omega)];rfl
    ·rw [Qc h46,if_pos c1]
     by_cases h48:(s[i].toNat:Int)<48
     ·rw [bif_t h48];rfl
     ·rw [Qc h48,if_pos c1,bif_t (by omega)];rfl
theorem Qfd (b:UInt8) (t:J1):zeros (b::t)=(decide (b.toNat=48)&&zeros t):=by
 show ((b == 48)&&zeros t)=_
 rw [Qki];rfl
theorem Qkh:∀(t all:J1) (ah bh:Int) (z:Bool),0<=bh->scan t all ah bh z=if digs t then some (all++t,ah,bh+t.length,z&&zeros t) else none
 |[],all,ah,bh,z,h=>by simp [scan,digs,zeros]
 |
  b::t,all,ah,bh,z,h=>by
  have e:digs (b::t)=(isD b&&digs t):=rfl
  rw [scan,if_neg (by omega),e,Qfd]
  by_cases hd:isD b=true
  ·rw [if_neg (by rw [hd];simp),if_neg (by omega),Qkh t _ _ _ _ (by omega),hd,Z22,Bool.and_assoc,Z65]
   congr 3
   simp;omega
  ·have hd2:isD b=false:=by simpa using hd
   rw [if_pos hd2,hd2];rfl
theorem Qke:∀(t all:J1) (ah:Int) (z:Bool),scan t all ah (-1) z =
  if digs (cutDot t).1 then (match (cutDot t).2 with
   |none=>some (all++(cutDot t).1,ah+(cutDot t).1.length,(-1:Int),z&&zeros (cutDot t).1)
   |some b=>if digs b then some (all++(cutDot t).1++b,ah+(cutDot t).1.length,(b.length:Int),z&&zeros (cutDot t).1&&zeros b) else none) else none
 |[],all,ah,z=>by simp [scan,cutDot,digs,zeros]
 |
  b::t,all,ah,z=>by
  by_cases h46:b=46
  ·subst h46
   rw [scan,if_pos ⟨rfl,by decide⟩,Qkh _ _ _ _ _ (Int.le_refl 0)]
   have:cutDot (46::t)=([],some t):=by rw [cutDot,if_pos rfl]
   rw [this]
   simp [digs,zeros]
  ·have hc:cutDot (b::t)=(b::(cutDot t).1,(cutDot t).2):=by rw [cutDot,if_neg h46]
   have h46':¬(b.toNat=46/\(-1:Int)<0):=λhh=>h46 (UInt8.toNat_inj.1 hh.1)
   have e:∀x,digs (b::x)=(isD b&&digs x):=λx=>rfl
   rw [scan,if_neg h46',hc,e]
   by_cases hd:isD b=true
   ·rw [if_neg (by rw [hd];simp),if_pos (by decide),Qke t,hd,Z22]
    split
    ·cases (cutDot t).2 with
     |
      none=>
      simp only [Qfd,Z65,List.singleton_append,Bool.and_assoc,Z6]
      congr 3
      omega
     |
      some c=>
      simp only [Qfd,Z65,List.singleton_append,Bool.and_assoc,Z6,List.cons_append]
      split
      ·congr 3;omega
      ·rfl
    ·rfl
   ·have hd2:isD b=false:=by simpa using hd
    rw [if_pos hd2,hd2];rfl
abbrev decD (m:Int×Nat×Int):J0×Bool×Int×Int:=(dg m.1.natAbs,neg m.1,(m.2.1:Int),m.2.2)
theorem decD0 (e:Int):decD (0,0,e)=([],false,0,e):=by unfold decD;simp [Qds]
theorem Qgv {s t:J1} {below:Bool} {i:Nat} (hs:s.length<=4096) (hi:i<=1) (hil:i<=s.length) (ht:s.drop i=t) :
  z125.j3 s (i:Int) below=some (decD (Jv below (cutDot t).1 (cutDot t).2)):=by
 have r:=Qc5 (s:=s) (by omega) (s.length-i) i [] 0 (-1) true (by omega) (by simp) (by omega) (by omega)
 have e:z125.l0 s ((i:Int),[],(0:Int),(-1:Int),true)=some (Qcc (s.length:Int) (scan t [] 0 (-1) true)):=by rw [<-ht];exact r.lfp
 have htl:t.length<=4096:=by rw [<-ht,Z15];omega
 unfold z125.j3
 rw [e,Qke]
 simp only [Zb,List.nil_append,Int.zero_add,Z22]
 have fin:∀(all:J1) (n ah bh:Int) (z:Bool) (sc:Nat),Qx all->all.length<=4096->(sc:Int)=max bh 0 ->
   z125.j7 (n,all,ah,bh,z) below=some (decD (if 64<bh then (0,0,10) else (if below then -tv 0 all else tv 0 all,sc,0))):=λall n ah bh z sc hd hl hsc=>by
  unfold z125.j7
  simp only
  by_cases h64:64<bh
  ·rw [bif_t h64,if_pos h64,decD0]
  ·obtain ⟨v,hv⟩:∃v:Nat,tv 0 all=(v:Int):=⟨_,(Int.toNat_of_nonneg (Yh hd).1).symm⟩
   rw [Qc h64,if_neg h64,Qc7 hd (by omega),hv]
   simp only [Zb,Zi]
   have em:(if (0:Int)>bh then (0:Int) else bh)=(sc:Int):=by split<;>omega
   rw [em]
   cases below with
   |true=>rw [Yx (z:=-(v:Int)) (by omega) (.inl ⟨rfl,by omega⟩)];rfl
   |false=>rw [Yx (z:=(v:Int)) (by omega) (.inr ⟨rfl,by omega⟩)];rfl
 unfold Jv plainB
 cases hda:digs (cutDot t).1 with
 |
  false=>
  simp only [Z10,if_false,Bool.and_false,Zo,Z82,if_true]
  rw [decD0];rfl
 |
  true=>
  have hdd:=J9.1 hda
  simp only [if_true,Bool.and_true,Bool.not_not]
  cases ho:(cutDot t).2 with
  |
   none=>
   have hct:=Qcw ho
   rw [hct] at hdd ⊢
   simp only [Qcc,Option.isSome_none,Z60,Bool.or_false,Option.getD_none,Z44,Z29]
   by_cases h0:t=[]
   ·subst h0
    rw [bif_t (p:=((([]:J1).length:Nat):Int)=0) rfl,Zt (p:=([]:J1)=[]) rfl]
    simp only [Z82,if_true]
    rw [decD0]
   ·have hpos:=Z19.2 h0
    rw [Qc (by omega),Qc (by omega),Zf h0]
    simp only [Z77]
    have hfin:=fin t (s.length:Int) (t.length:Int) (-1) (zeros t) 0 hdd htl (by omega)
    rw [if_neg (by decide)] at hfin
    have rest:(bif below then bif zeros t then some ([],false,0,5) else z125.j7 ((s.length:Int),t,(t.length:Int),-1,zeros t) below else z125.j7 ((s.length:Int),t,(t.length:Int),-1,zeros t) below)=some (decD (if (below&&zeros t)=true then (0,0,5) else (if below then -tv 0 t else tv 0 t,0,0))):=by
     rw [hfin]
     cases below<;>cases zeros t<;>first|rfl|(simp only [Zd,Z22,if_true];rw [decD0])
    by_cases h1:1<t.length
    ·rw [bif_t (by omega),if_pos (by omega),Zt h1]
     by_cases h48:(t.getD 0 0).toNat=48
     ·rw [bif_t (by omega),Zt h48]
      simp only [Z22,if_true]
      rw [decD0]
     ·rw [Qc (by omega),Zf h48]
      simp only [Bool.and_false,Z10,if_false]
      exact rest
    ·rw [Qc (by omega),Zf h1]
     simp only [Z60,Z10,if_false]
     exact rest
  |
   some b=>
   have hct:=Qc8 ho
   generalize (cutDot t).1=a at *
   have hlen:t.length=a.length+(b.length+1):=by rw [hct];simp
   simp only [Option.isSome_some,Z22,Z42]
   cases hdb:digs b with
   |
    false=>
    simp only [Qcc,Z10,if_false,Bool.and_false,Zo,Bool.or_true,Z82,if_true]
    rw [decD0]
   |
    true=>
    have hdd2:=J9.1 hdb
    simp only [Qcc,if_true,Bool.and_true,Bool.not_not]
    have hdall:Qx (a++b):=λx hx=>(Z62.1 hx).elim (hdd x) (hdd2 x)
    by_cases h0:a=[]
    ·subst h0
     rw [bif_t (p:=((([]:J1).length:Nat):Int)=0) rfl,Zt (p:=([]:J1)=[]) rfl]
     simp only [Z82,if_true]
     rw [decD0]
    ·have hpos:=Z19.2 h0
     rw [Qc (by omega),Zf h0]
     by_cases hb0:b=[]
     ·subst hb0
      rw [bif_t (p:=((([]:J1).length:Nat):Int)=0) rfl,Zt (p:=([]:J1)=[]) rfl]
      simp only [Z82,Bool.or_true,if_true]
      rw [decD0]
     ·have hbpos:=Z19.2 hb0
      rw [Qc (by omega),Zf hb0]
      simp only [Z77]
      have hz:zeros (a++b)=(zeros a&&zeros b):=by simp [zeros]
      have hg:(a++b).getD 0 0=a.getD 0 0:=by
       rw [Ya (by simp;omega),Ya hpos,Z39 hpos]
      have hfin:=fin (a++b) (s.length:Int) (a.length:Int) (b.length:Int) (zeros a&&zeros b) b.length hdall (by rw [Z9];omega) (by omega)
      have e64:(64<(b.length:Int))=(64<b.length):=by apply propext;omega
      simp only [e64] at hfin
      have rest:(bif below then bif (zeros a&&zeros b) then some ([],false,0,5) else z125.j7 ((s.length:Int),a++b,(a.length:Int),(b.length:Int),(zeros a&&zeros b)) below else z125.j7 ((s.length:Int),a++b,(a.length:Int),(b.length:Int),(zeros a&&zeros b)) below)=some (decD (if (below&&zeros (a++b))=true then (0,0,5) else if 64<b.length then (0,0,10) else (if below then -tv 0 (a++b) else tv 0 (a++b),b.length,0))):=by
       rw [hfin,hz]
       cases below<;>cases (zeros a&&zeros b)<;>first|rfl|(simp only [Zd,Z22,if_true];rw [decD0])
      rw [hg]
      by_cases h1:1<a.length
      ·rw [bif_t (by omega),if_pos (by rw [Z9];omega),Zt h1]
       by_cases h48:(a.getD 0 0).toNat=48
       ·rw [bif_t (by omega),Zt h48]
        simp only [Z22,if_true]
        rw [decD0]
       ·rw [Qc (by omega),Zf h48]
        simp only [Bool.and_false,Z10,if_false]
        exact rest
      ·rw [Qc (by omega),Zf h1]
       simp only [Z60,Z10,if_false]
       exact rest
theorem Qfu {s:J1} (hs:s.length<=4096):z125.F s=some (decD (mDec s)):=by
 have h4:¬4096<s.length:=by omega
 unfold z125.F mDec
 rw [if_neg h4]
 cases s with
 |
  nil=>
  rw [Qc (by simp)]
  exact Qgv (s:=[]) (t:=[]) (below:=false) (i:=0) (by simp) (by omega) (by simp) rfl
 |
  cons b t=>
  rw [bif_t (by simp),if_pos (by simp)]
  by_cases h:b=45
  ·subst h
   rw [bif_t (by rfl)]
   exact Qgv (s:=45::t) (t:=t) (below:=true) (i:=1) hs (by omega) (by simp) rfl
  ·have hb:¬((((b::t).getD 0 0).toNat:Int)=45):=λhh=>h (UInt8.toNat_inj.1 (by have e:(b::t).getD 0 0=b:=rfl;rw [e] at hh;show b.toNat=45;omega))
   rw [Qc hb]
   have hc:cutNeg (b::t)=(b::t,false):=by unfold cutNeg;simp [h]
   rw [hc]
   exact Qgv (s:=b::t) (t:=b::t) (below:=false) (i:=0) hs (by omega) (by simp) rfl
theorem Qtc {c:Int} {s:Nat} (hs:s<=4096) (hc:sz c.natAbs<=100000000):z132.F (dg c.natAbs) (neg c) (s:Int)=some (rf (mkRat c (10^s))):=by
 have hp:0<10^s:=Z93 (by decide)
 have l:=Qa5 s
 unfold z132.F
 rw [Qi6 (by omega)]
 simp only [Zb]
 rw [Qfj hp hc (by omega)]
 rfl
theorem Qpq {n:Int} {d:Nat} (hd:0<d) (k:Int):k*(mkRat n d).den<(mkRat n d).num↔k*d<n:=by
 have hg:0<Nat.gcd d n.natAbs:=Nat.gcd_pos_of_pos_left _ hd
 have e1:(mkRat n d).num*(Nat.gcd d n.natAbs:Nat)=n:=by
  rw [Rat.num_mkRat,if_neg (by omega)]
  exact Int.ediv_mul_cancel (Int.ofNat_dvd_left.2 (Nat.gcd_dvd_right _ _))
 have e2:((mkRat n d).den:Int)*(Nat.gcd d n.natAbs:Nat)=d:=by
  rw [Rat.den_mkRat,if_neg (by omega)]
  exact_mod_cast Nat.div_mul_cancel (Nat.gcd_dvd_left _ _)
 generalize Nat.gcd d n.natAbs=g at *
 have hg':(0:Int)<(g:Int):=by omega
 have e3:k*(d:Int)=k*(mkRat n d).den*g:=by rw [<-e2,Int.mul_assoc]
 constructor
 ·intro h
  have:=Int.mul_lt_mul_of_pos_right h hg'
  rw [e1] at this
  rw [e3];exact this
 ·intro h
  refine Int.lt_of_mul_lt_mul_right ?_ (Int.le_of_lt hg')
  rw [e1,<-e3];exact h
theorem Qhe (n:Int):Rat.divInt n 1=(n:Rat):=by
 rw [show (1:Int)=((1:Nat):Int) from rfl,Rat.divInt_ofNat,Rat.mkRat_eq_div]
 have:(n:Rat)/((1:Nat):Rat)=(n:Rat):=by
  rw [Rat.div_def]
  have:(((1:Nat):Rat))⁻¹=1:=by decide +kernel
  rw [this,Rat.mul_one]
 exact this
theorem Qu0 (s:J1):z137.F s=some ((rf (Yl s).1).1,(rf (Yl s).1).2.1,(rf (Yl s).1).2.2,(Yl s).2):=by
 have s0:z131.F 0 1=some (rf 0):=by
  rw [Qen (by omega) (by omega) (by omega),Qhe];rfl
 have s1000:z131.F 1000 1=some (rf 1000):=by
  rw [Qen (by omega) (by omega) (by omega),Qhe];rfl
 have s100:z131.F 100 1=some (rf 100):=by
  rw [Qen (by omega) (by omega) (by omega),Qhe];rfl
 obtain ⟨hb1,hb2⟩:=Qdv s
 unfold z137.F Yl
 rw [s0]
 simp only [Zb]
 by_cases hl:4096<s.length
 ·have hm:mDec s=(0,0,7):=by unfold mDec;rw [if_pos hl]
  rw [bif_t (by omega),hm,if_pos (by decide)]
 ·rw [Qc (by omega),Qfu (by omega)]
  simp only [Zb,decD]
  generalize mDec s=d at *
  obtain ⟨c,sc,e⟩:=d
  simp only at *
  by_cases h:e=0
  ·rw [Zt h,if_neg (by omega)]
   simp only [Zn,Zc]
   have hp0:0<10^sc:=Z93 (by decide)
   have n1:=Jx (Qmt c hp0)
   have n2:=Jx (Qj5 c hp0)
   have l:=Qa5 sc
   have k1:sz (Rat.num 1000).natAbs<=4:=Qy (by decide)
   have k2:sz (Rat.den 1000)<=1:=Qy (by decide)
   have k3:sz (Rat.num 100).natAbs<=3:=Qy (by decide)
   have k4:sz (Rat.den 100)<=1:=Qy (by decide)
   rw [Qtc (by omega) (by omega)]
   simp only [Zb]
   rw [s1000]
   simp only [Zb]
   have hcmp:=Qt3 (q:=mkRat c (10^sc)) (r:=1000) (by omega) (by omega)
   rw [hcmp]
   simp only [Zb]
   have hgt:=Qpq (n:=c) hp0 1000
   have e1:(mkRat c (10^sc)).num*((Rat.den 1000:Nat):Int)=(mkRat c (10^sc)).num:=by
    show _*((1:Nat):Int)=_
    simp
   have e2:Rat.num 1000=1000:=rfl
   rw [e1,e2]
   by_cases h1:c<0
   ·rw [bif_t h1,if_pos (.inl h1)]
   ·rw [Qc h1]
    by_cases h2:1000*((10^sc:Nat):Int)<c
    ·rw [bif_t (Y7.2 (hgt.2 h2)),if_pos (.inr (.inl h2))]
    ·rw [Qc (λh=>h2 (hgt.1 (Y7.1 h)))]
     by_cases h3:12<sc
     ·rw [bif_t (by omega),if_pos (.inr (.inr h3))]
     ·rw [Qc (by omega),if_neg (by omega)]
      unfold z137.j6
      rw [s100]
      simp only [Zb]
      rw [Qus (q:=mkRat c (10^sc)) (r:=100) (by decide) (by omega) (by omega)]
      rfl
  ·rw [Zf h,if_pos h];rfl
theorem Qt1 (a b c a' b' c':Int):z103.F a b c a' b' c'=some (dcmp a b c a' b' c'):=by
 have e0:wr .i64 (0+1)=1:=by decide
 have e1:wr .i64 (1+1)=2:=by decide
 have e2:wr .i64 (2+1)=3:=by decide
 have step:∀(i:Nat) (x y:Int) (o:Int⊕Int),i<3->[a,b,c].getD i 0=x->[a',b',c'].getD i 0=y->Runs (λrec z=>z103.l0P [a,b,c] [a',b',c'] rec some z) (wr .i64 ((i:Int)+1)) o ->
   Runs (λrec z=>z103.l0P [a,b,c] [a',b',c'] rec some z) (i:Int) (if x<y then .inr (-1) else if y<x then .inr 1 else o):=λi x y o hi hx hy r=>by
  have c1:(0:Int)<=(i:Int)/\(i:Int)<([a,b,c].length:Int):=by simp;omega
  have c2:(0:Int)<=(i:Int)/\(i:Int)<([a',b',c'].length:Int):=by simp;omega
  by_cases h1:x<y
  ·rw [if_pos h1]
   refine .done λrec=>?_
   unfold z103.l0P
   rw [bif_t (by omega),if_pos c1,if_pos c2,Zi,hx,hy,bif_t h1]
  ·rw [if_neg h1]
   by_cases h2:y<x
   ·rw [if_pos h2]
    refine .done λrec=>?_
    unfold z103.l0P
    rw [bif_t (by omega),if_pos c1,if_pos c2,Zi,hx,hy,Qc h1,if_pos c1,if_pos c2,bif_t h2]
   ·rw [if_neg h2]
    refine .step (λrec=>?_) r
    unfold z103.l0P
    rw [bif_t (by omega),if_pos c1,if_pos c2,Zi,hx,hy,Qc h1,if_pos c1,if_pos c2,Qc h2]
 have r3:Runs (λrec z=>z103.l0P [a,b,c] [a',b',c'] rec some z) (wr .i64 (((2:Nat):Int)+1)) (.inl 3):=by
  rw [show wr .i64 (((2:Nat):Int)+1)=3 from e2]
  exact .done λrec=>by unfold z103.l0P;rw [Qc (by decide)]
 have r2:=step 2 c c' _ (by decide) rfl rfl r3
 have r1:=step 1 b b' _ (by decide) rfl rfl (by rw [show wr .i64 (((1:Nat):Int)+1)=((2:Nat):Int) from e1];exact r2)
 have r0:=step 0 a a' _ (by decide) rfl rfl (by rw [show wr .i64 (((0:Nat):Int)+1)=((1:Nat):Int) from e0];exact r1)
 have e:z103.l0 [a,b,c] [a',b',c'] 0=_:=r0.lfp
 unfold z103.F dcmp
 rw [e]
 simp only [Zb]
 (repeat' split)<;>first|rfl|simp_all
set_option maxRecDepth 100000 in
theorem Qva:∃tab:J1,tab.length=256 /\
  (∀x j,z17.j8 x j=if (0:Int)<=wr .u8 x/\wr .u8 x<(tab.length:Int) then some (wr .i64 (j+wr .i64 ((tab.getD (wr .u8 x).toNat 0).toNat:Int))) else none) /\
  (∀x j,z17.j10 x j=if (0:Int)<=wr .u8 x/\wr .u8 x<(tab.length:Int) then some (wr .i64 (j+wr .i64 ((tab.getD (wr .u8 x).toNat 0).toNat:Int))) else none) /\
  ∀x:Fin 256,0<x.1->1<=(tab.getD x.1 0).toNat/\(tab.getD x.1 0).toNat<=8/\2^((tab.getD x.1 0).toNat-1)<=x.1/\x.1<2^(tab.getD x.1 0).toNat:=
 ⟨_,rfl,λx j=>rfl,λx j=>rfl,by decide⟩
theorem Qdh {x:Nat} (h0:0<x) (h:x<256) {j:Nat} (hj:j<=1000):∃n,n<=7/\2^n<=x/\x<2^(n+1)/\z17.j8 x j=some ((j+n+1:Nat):Int)/\z17.j10 x j=some ((j+n+1:Nat):Int):=by
 obtain ⟨tab,hl,h1,h2,ht⟩:=Qva
 obtain ⟨t1,t2,t3,t4⟩:=ht ⟨x,h⟩ h0
 simp only at t1 t2 t3 t4
 obtain ⟨n,hn⟩:∃n,(tab.getD x 0).toNat=n+1:=⟨_,(Nat.sub_add_cancel t1).symm⟩
 rw [hn] at t2 t3 t4
 have hw:wr .u8 (x:Int)=x:=Qa3 (by omega) (by omega)
 refine ⟨n,by omega,by simpa using t3,t4,?_,?_⟩
 ·rw [h1,hw,if_pos (by omega),Zi,hn,Qh (n:=((n+1:Nat):Int)) (by omega) (by omega),Qh (by omega) (by omega)]
  congr 1
 ·rw [h2,hw,if_pos (by omega),Zi,hn,Qh (n:=((n+1:Nat):Int)) (by omega) (by omega),Qh (by omega) (by omega)]
  congr 1
theorem Qbd (n k:Nat):Int.fdiv (n:Int) (2^k)=((n/2^k:Nat):Int):=by
 rw [Int.fdiv_eq_ediv_of_nonneg _ (by exact_mod_cast Z54 (2^k))]
 push_cast;rfl
theorem Qcp {x n k:Nat} (h1:2^n<=x/2^k) (h2:x/2^k<2^(n+1)):2^(n+k)<=x/\x<2^(n+k+1):=by
 have hp:=Nat.pos_of_ne_zero (show 2^k≠0 by exact Nat.ne_of_gt (Nat.two_pow_pos k))
 have:=(Nat.le_div_iff_mul_le hp).1 h1
 have:=(Z83 hp).1 h2
 rw [Z88,show n+k+1=(n+1)+k by omega,Z88]
 omega
set_option maxRecDepth 100000 in
theorem Qk7 {x:Nat} (h0:0<x) (h:x<4294967296) {j:Nat} (hj:j<=100):∃n,n<=31/\2^n<=x/\x<2^(n+1)/\z17.j2 x j=some ((j+n+1:Nat):Int):=by
 unfold z17.j2
 rw [show min 16 64=16 from rfl,show min 8 64=8 from rfl,Qbd,Qbd,Qbd]
 by_cases h1:65536<=x
 ·rw [bif_t (by omega),Qh (n:=(j:Int)+16) (by omega) (by omega),Qh (n:=(j:Int)+16+8) (by omega) (by omega)]
  have b1:0<x/2^16/\x/2^16<65536:=by omega
  by_cases h2:256<=x/2^16
  ·rw [bif_t (by omega)]
   obtain ⟨n,n1,n2,n3,n4,_⟩:=Qdh (x:=x/2^16/2^8) (by omega) (by omega) (j:=j+24) (by omega)
   obtain ⟨m2,m3⟩:=Qcp n2 n3
   obtain ⟨m2,m3⟩:=Qcp (n:=n+8) m2 m3
   refine ⟨n+8+16,by omega,m2,m3,?_⟩
   refine (congrArg (z17.j8 _) (show ((j:Int)+16+8)=((j+24:Nat):Int) by omega)).trans (n4.trans ?_)
   congr 2;omega
  ·rw [Qc (by omega)]
   obtain ⟨n,n1,n2,n3,n4,_⟩:=Qdh (x:=x/2^16) (by omega) (by omega) (j:=j+16) (by omega)
   obtain ⟨m2,m3⟩:=Qcp n2 n3
   refine ⟨n+16,by omega,m2,m3,?_⟩
   refine (congrArg (z17.j8 _) (show ((j:Int)+16)=((j+16:Nat):Int) by omega)).trans (n4.trans ?_)
   congr 2;omega
 ·rw [Qc (by omega)]
  by_cases h2:256<=x
  ·rw [bif_t (by omega),Qh (n:=(j:Int)+8) (by omega) (by omega)]
   obtain ⟨n,n1,n2,n3,_,n4⟩:=Qdh (x:=x/2^8) (by omega) (by omega) (j:=j+8) (by omega)
   obtain ⟨m2,m3⟩:=Qcp n2 n3
   refine ⟨n+8,by omega,m2,m3,?_⟩
   refine (congrArg (z17.j10 _) (show ((j:Int)+8)=((j+8:Nat):Int) by omega)).trans (n4.trans ?_)
   congr 2;omega
  ·rw [Qc (by omega)]
   obtain ⟨n,n1,n2,n3,_,n4⟩:=Qdh (x:=x) (by omega) (by omega) (j:=j) (by omega)
   exact ⟨n,by omega,n2,n3,n4⟩
theorem bits_Len64 {x:Nat} (h0:0<x) (h:x<18446744073709551616):∃n,n<=63/\2^n<=x/\x<2^(n+1)/\z17.F x=some ((n+1:Nat):Int):=by
 unfold z17.F
 rw [show min 32 64=32 from rfl,Qbd]
 by_cases h1:4294967296<=x
 ·rw [bif_t (by omega)]
  obtain ⟨n,n1,n2,n3,n4⟩:=Qk7 (x:=x/2^32) (by omega) (by omega) (j:=32) (by omega)
  obtain ⟨m2,m3⟩:=Qcp n2 n3
  refine ⟨n+32,by omega,m2,m3,?_⟩
  refine n4.trans ?_
  congr 2;omega
 ·rw [Qc (by omega)]
  obtain ⟨n,n1,n2,n3,n4⟩:=Qk7 (x:=x) (by omega) (by omega) (j:=0) (by omega)
  refine ⟨n,by omega,n2,n3,?_⟩
  refine n4.trans ?_
  congr 2;omega
theorem Qq4 {x:Nat} (h0:0<x) (h:x<18446744073709551616):∃s,s<=63/\9223372036854775808<=x*2^s/\x*2^s<18446744073709551616/\z18.F x=some ((s:Nat):Int):=by
 obtain ⟨n,n1,n2,n3,n4⟩:=bits_Len64 h0 h
 have e1:2^n*2^(63-n)=9223372036854775808:=by rw [<-Z88,show n+(63-n)=63 by omega]
 have e2:2^(n+1)*2^(63-n)=18446744073709551616:=by rw [<-Z88,show n+1+(63-n)=64 by omega]
 refine ⟨63-n,by omega,?_,?_,?_⟩
 ·rw [<-e1];exact Z24 _ n2
 ·rw [<-e2];exact Nat.mul_lt_mul_of_pos_right n3 (Nat.two_pow_pos _)
 ·unfold z18.F
  rw [n4]
  simp only [Zb]
  rw [Qh (by omega) (by omega)]
  congr 1;omega
end Go.Proofs.YtjfipepaaddlmaaGreatDoor.A
end
section
set_option linter.unusedSectionVars false
namespace Go.Proofs.YtjfipepaaddlmaaGreatDoor.A
open Go
structure Qbp (y1 y0 u u0:Nat) (q r:Nat):Prop where
 eq:q*y1+r=u
 ge:(u*4294967296+u0)/(y1*4294967296+y0)<=q
 le:q<=4294967297
 lt:r<4294967296
theorem Qk1 (B:Nat) {y1 y0 u q r:Nat} (he:q*y1+r=u):q*(y1*B+y0)+r*B=u*B+q*y0:=by
 rw [<-he,Z40,Nat.mul_add,Z84]
 omega
theorem Qp0 {B A A2 u u0 r:Nat} (h:A+r*B=u*B+A2) (hc:r*B+u0<A2):u*B+u0<A:=by omega
section
variable {y1 y0 u u0:Nat} (h1:2147483648<=y1) (h1':y1<4294967296) (h0:y0<4294967296) (hu:u<y1*4294967296+y0) (hu0:u0<4294967296)
include h1 h1' h0 hu hu0
theorem Qok:Qbp y1 y0 u u0 (u/y1) (u%y1):=by
 have hy:0<y1:=by omega
 refine ⟨by rw [Z30];exact Z57 u y1,?_,?_,?_⟩
 ·rw [Nat.le_div_iff_mul_le hy]
  have hd:=Nat.div_mul_le_self (u*4294967296+u0) (y1*4294967296+y0)
  generalize (u*4294967296+u0)/(y1*4294967296+y0)=Q at *
  rw [Nat.mul_add,<-Z84] at hd
  generalize Q*y1=A at *
  generalize Q*y0=B at *
  omega
 ·have:u/y1<4294967298:=by
   rw [Z83 hy];omega
  omega
 ·have:=Z85 u hy;omega
theorem Qof:(u*4294967296+u0)/(y1*4294967296+y0)<4294967296:=by
 rw [Z83 (by omega)];omega
theorem Qrg {q r:Nat} (h:Qbp y1 y0 u u0 q r) (hc:4294967296<=q\/r*4294967296+u0<q*y0):(u*4294967296+u0)/(y1*4294967296+y0)<q:=by
 rcases hc with hc|hc
 ·exact Z12 (Qof h1 h1' h0 hu hu0) hc
 ·have:=Qk1 4294967296 (y0:=y0) h.eq
  have hlt:u*4294967296+u0<q*(y1*4294967296+y0):=Qp0 this hc
  exact (Z83 (show 0<y1*4294967296+y0 by omega)).2 hlt
theorem Qk2 {q r:Nat} (he:q*y1+r=u) (ge:(u*4294967296+u0)/(y1*4294967296+y0)<=q) (hc:q*y0<=r*4294967296+u0):q=(u*4294967296+u0)/(y1*4294967296+y0):=by
 refine Nat.le_antisymm ?_ ge
 rw [Nat.le_div_iff_mul_le (by omega)]
 have:=Qk1 4294967296 (y0:=y0) he
 omega
theorem Qhm {q r:Nat} (h:Qbp y1 y0 u u0 q r) (hc:(u*4294967296+u0)/(y1*4294967296+y0)<q):(q-1)*y1+(r+y1)=u/\(u*4294967296+u0)/(y1*4294967296+y0)<=q-1:=by
 generalize (u*4294967296+u0)/(y1*4294967296+y0)=Q at hc ⊢
 obtain ⟨k,rfl⟩:∃k,q=k+1:=⟨q-1,by omega⟩
 have:=h.eq
 rw [Z40] at this
 simp only [Nat.add_sub_cancel]
 omega
theorem Qow {q r:Nat} (h:Qbp y1 y0 u u0 q r) (hc:(u*4294967296+u0)/(y1*4294967296+y0)<q) (hr:4294967296<=r+y1):q-1=(u*4294967296+u0)/(y1*4294967296+y0):=by
 obtain ⟨n1,n2⟩:=Qhm h1 h1' h0 hu hu0 h hc
 refine Qk2 h1 h1' h0 hu hu0 n1 n2 ?_
 have hq:=h.le
 have:(q-1)*y0<=4294967296*4294967295:=Nat.mul_le_mul (by omega) (by omega)
 omega
theorem Qkb {F:(Int×Int->Option (Int×Int))->Int×Int->Option (Int×Int)} (mk:Int->Int->Int×Int)
  (hF:∀(q r:Nat),q<=4294967297->r<4294967296->∀rec,F rec (mk q r) =
   if 4294967296<=q\/r*4294967296+u0<q*y0 then (if 4294967296<=r+y1 then some (mk ((q-1:Nat):Int) ((r+y1:Nat):Int)) else rec (mk ((q-1:Nat):Int) ((r+y1:Nat):Int))) else some (mk q r)) :
  ∃r:Nat,lfp F (mk ((u/y1:Nat):Int) ((u%y1:Nat):Int))=some (mk (((u*4294967296+u0)/(y1*4294967296+y0):Nat):Int) r):=by
 have key:∀(f q r:Nat),q<f->Qbp y1 y0 u u0 q r->∃r':Nat,Runs F (mk q r) (mk (((u*4294967296+u0)/(y1*4294967296+y0):Nat):Int) r'):=by
  intro f
  induction f with
  |zero=>intro q r h;omega
  |
   succ f ih=>
   intro q r hq h
   by_cases hc:4294967296<=q\/r*4294967296+u0<q*y0
   ·have hlt:=Qrg h1 h1' h0 hu hu0 h hc
    by_cases hr:4294967296<=r+y1
    ·refine ⟨r+y1,.done λrec=>?_⟩
     rw [hF q r h.le h.lt,if_pos hc,if_pos hr,Qow h1 h1' h0 hu hu0 h hlt hr]
    ·obtain ⟨n1,n2⟩:=Qhm h1 h1' h0 hu hu0 h hlt
     have hle:=h.le
     have hq1:0<q:=Nat.lt_of_le_of_lt (Z54 _) hlt
     obtain ⟨r',hr'⟩:=ih (q-1) (r+y1) (by omega) ⟨n1,n2,by omega,by omega⟩
     exact ⟨r',.step (λrec=>by rw [hF q r h.le h.lt,if_pos hc,if_neg hr]) hr'⟩
   ·refine ⟨r,.done λrec=>?_⟩
    rw [hF q r h.le h.lt,if_neg hc,<-Qk2 h1 h1' h0 hu hu0 h.eq h.ge (by omega)]
 obtain ⟨r',hr'⟩:=key (u/y1+1) _ _ (by omega) (Qok h1 h1' h0 hu hu0)
 exact ⟨r',hr'.lfp⟩
theorem Qhy {q r:Nat} (hq:q<=4294967297) (hr:r<4294967296) (h:¬4294967296<=q):(wr .u64 ((q:Int)*y0)>wr .u64 (wr .u64 ((4294967296:Int)*r)+u0))↔r*4294967296+u0<q*y0:=by
 have hm:q*y0<=4294967295*4294967295:=Nat.mul_le_mul (by omega) (by omega)
 rw [<-Z25 q y0,Qr (n:=((q*y0:Nat):Int)) (by omega) (by omega),Qr (n:=(4294967296:Int)*r) (by omega) (by omega),Qr (by omega) (by omega)]
 omega
theorem Qud:∃r:Nat,z19.l0 y1 y0 u0 (((u/y1:Nat):Int),((u%y1:Nat):Int))=some ((((u*4294967296+u0)/(y1*4294967296+y0):Nat):Int),(r:Int)):=by
 refine Qkb h1 h1' h0 hu hu0 (λq r=>(q,r)) (F:=λrec x=>z19.l0P y1 y0 u0 rec some x) λq r hq hr rec=>?_
 simp only [z19.l0P]
 rw [Qr (n:=(r:Int)+y1) (by omega) (by omega)]
 by_cases hq2:4294967296<=q
 ·rw [bif_t (by omega),if_pos (.inl hq2),Qr (n:=(q:Int)-1) (by omega) (by omega)]
  by_cases hr2:4294967296<=r+y1
  ·rw [bif_t (by omega),if_pos hr2];congr 2<;>omega
  ·rw [Qc (by omega),if_neg hr2];congr 2<;>omega
 ·rw [Qc (by omega)]
  have ht:=Qhy h1 h1' h0 hu hu0 hq hr hq2
  by_cases hc:r*4294967296+u0<q*y0
  ·have hq0:0<q:=Nat.pos_of_ne_zero λh=>by subst h;omega
   rw [bif_t (ht.2 hc),if_pos (.inr hc),Qr (n:=(q:Int)-1) (by omega) (by omega)]
   by_cases hr2:4294967296<=r+y1
   ·rw [bif_t (by omega),if_pos hr2];congr 2<;>omega
   ·rw [Qc (by omega),if_neg hr2];congr 2<;>omega
  ·rw [Qc (λh=>hc (ht.1 h)),if_neg (by omega)]
theorem Qtb:∃r:Nat,z19.l2 y1 y0 u0 (((u%y1:Nat):Int),((u/y1:Nat):Int))=some ((r:Int),(((u*4294967296+u0)/(y1*4294967296+y0):Nat):Int)):=by
 refine Qkb h1 h1' h0 hu hu0 (λq r=>(r,q)) (F:=λrec x=>z19.l2P y1 y0 u0 rec some x) λq r hq hr rec=>?_
 simp only [z19.l2P]
 rw [Qr (n:=(r:Int)+y1) (by omega) (by omega)]
 by_cases hq2:4294967296<=q
 ·rw [bif_t (by omega),if_pos (.inl hq2),Qr (n:=(q:Int)-1) (by omega) (by omega)]
  by_cases hr2:4294967296<=r+y1
  ·rw [bif_t (by omega),if_pos hr2];congr 2<;>omega
  ·rw [Qc (by omega),if_neg hr2];congr 2<;>omega
 ·rw [Qc (by omega)]
  have ht:=Qhy h1 h1' h0 hu hu0 hq hr hq2
  by_cases hc:r*4294967296+u0<q*y0
  ·have hq0:0<q:=Nat.pos_of_ne_zero λh=>by subst h;omega
   rw [bif_t (ht.2 hc),if_pos (.inr hc),Qr (n:=(q:Int)-1) (by omega) (by omega)]
   by_cases hr2:4294967296<=r+y1
   ·rw [bif_t (by omega),if_pos hr2];congr 2<;>omega
   ·rw [Qc (by omega),if_neg hr2];congr 2<;>omega
  ·rw [Qc (λh=>hc (ht.1 h)),if_neg (by omega)]
end
end Go.Proofs.YtjfipepaaddlmaaGreatDoor.A
end
section
namespace Go.Proofs.YtjfipepaaddlmaaGreatDoor.A
open Go
theorem Qcv {n:Nat} (h:n<18446744073709551616):(BitVec.ofInt (IntKind.bits .u64) (n:Int)).toNat=n:=by
 show (BitVec.ofInt 64 (n:Int)).toNat=n
 rw [BitVec.toNat_ofInt]
 omega
theorem Qmr {n:Nat} (h:n<18446744073709551616):wr .u64 ((BitVec.ofInt (IntKind.bits .u64) (n:Int) &&& BitVec.ofInt (IntKind.bits .u64) (4294967295:Int)).toNat:Int)=((n%4294967296:Nat):Int):=by
 rw [BitVec.toNat_and,Qcv h,show (4294967295:Int)=((4294967295:Nat):Int) from rfl,Qcv (by omega),show 4294967295=2^32-1 from rfl,Nat.and_two_pow_sub_one_eq_mod,Qr (by omega) (by omega)]
theorem Qra {a b s:Nat} (hb:b<2^s) (h:a*2^s+b<18446744073709551616):wr .u64 ((BitVec.ofInt (IntKind.bits .u64) ((a*2^s:Nat):Int) ||| BitVec.ofInt (IntKind.bits .u64) (b:Int)).toNat:Int)=((a*2^s+b:Nat):Int):=by
 rw [BitVec.toNat_or,Qcv (by omega),Qcv (by omega),Z30,<-Nat.two_pow_add_eq_or_of_lt hb,Qr (by omega) (by rw [Z30] at h;omega)]
theorem Qp5 {B V Y U u1 u0:Nat} (hV:V=(U*B+u1)*B+u0) (hY:0<Y) (h0:u0<B) :
  V/Y=(U*B+u1)/Y*B+((U*B+u1)%Y*B+u0)/Y/\V%Y=((U*B+u1)%Y*B+u0)%Y:=by
 have h1:=Z57 (U*B+u1) Y
 generalize hA:U*B+u1=A at *
 generalize A/Y=q at *
 generalize A%Y=r at *
 have e:V=(r*B+u0)+Y*(q*B):=by
  rw [hV,<-h1,Z40,Z84];omega
 rw [e,Nat.add_mul_div_left _ _ hY,Z79]
 exact ⟨by omega,rfl⟩
theorem Qrt {B V Y U u1 u0:Nat} (hV:V=(U*B+u1)*B+u0) (hY:0<Y) (h0:u0<B) (hU:U<Y) (h1:u1<B) :
  ∃q1 U2 q0 U3,(U*B+u1)/Y=q1/\(U2*B+u0)/Y=q0/\Y*q1+U2=U*B+u1/\U2<Y/\Y*q0+U3=U2*B+u0/\U3<Y/\q1<B/\q0<B/\V/Y=q1*B+q0/\V%Y=U3:=by
 obtain ⟨a,b⟩:=Qp5 hV hY h0
 have l:∀{u v:Nat},u<Y->v<B->(u*B+v)/Y<B:=λ{u v} hu hv=>by
  rw [Z83 hY]
  have:=Z24 B (show u+1<=Y from hu)
  rw [Z40,Z91] at this
  rw [Z30 B Y];omega
 have hr:=Z85 (U*B+u1) hY
 exact ⟨_,_,_,_,rfl,rfl,Z57 _ _,hr,Z57 _ _,Z85 _ hY,l hU h1,l hr h0,a,b⟩
theorem Qqb {hi lo s:Nat} (hs:s<=64):(hi*18446744073709551616+lo)*2^s=(hi*2^s+lo/2^(64-s))*18446744073709551616+lo*2^s%18446744073709551616:=by
 have e:18446744073709551616=2^(64-s)*2^s:=by rw [<-Z88,show 64-s+s=64 by omega]
 have h:lo/2^(64-s)=lo*2^s/18446744073709551616:=by
  rw [e,Nat.mul_div_mul_right _ _ (Nat.two_pow_pos s)]
 rw [h,Z40,Z40,Nat.mul_right_comm,Z36]
 have:=Z57 (lo*2^s) 18446744073709551616
 omega
theorem bits_Div64 {hi lo y:Nat} (h:hi<y) (hlo:lo<18446744073709551616) (hy:y<18446744073709551616) :
  z19.F hi lo y=some ((((hi*18446744073709551616+lo)/y:Nat):Int),(((hi*18446744073709551616+lo)%y:Nat):Int)):=by
 rcases Z17 hi with h0|h0
 ·subst h0
  have:=Qk9 (a:=(lo:Int)) (b:=(y:Int)) (by omega) (by omega)
  rw [show ((0:Nat):Int)=0 from rfl,this,Nat.zero_mul,Z38]
  rfl
 obtain ⟨s,hs,s1,s2,hlead⟩:=Qq4 (x:=y) (by omega) hy
 unfold z19.F
 rw [Qc (by omega),Qc (by omega),Qc (by omega),hlead]
 simp only [Zb]
 have hp:=Nat.two_pow_pos s
 have hV:=Qqb (hi:=hi) (lo:=lo) (s:=s) (by omega)
 have hlt:(hi*18446744073709551616+lo)*2^s<y*2^s*18446744073709551616:=by
  rw [Nat.mul_right_comm];exact Nat.mul_lt_mul_of_pos_right (by omega) hp
 have hb:lo/2^(64-s)<2^s:=by
  rw [Z83 (Nat.two_pow_pos _),<-Z88,show s+(64-s)=64 by omega];exact hlo
 have hqy:=Nat.mul_div_mul_right (hi*18446744073709551616+lo) y hp
 have hmy:=Nat.mul_mod_mul_right (2^s) (hi*18446744073709551616+lo) y
 have e1:wr .u64 (s:Int)=s:=Qr (by omega) (by omega)
 have e4:wr .u64 ((64:Int)-s)=((64-s:Nat):Int):=by rw [Qr (by omega) (by omega)];omega
 have e5:min (64-s) 64=64-s:=by omega
 have e3:min s 64=s:=by omega
 have eY:wr .u64 ((y:Int)*2^s)=((y*2^s:Nat):Int):=by
  rw [show (y:Int)*2^s=((y*2^s:Nat):Int) by push_cast;rfl,Qr (by omega) (by omega)]
 have eL:wr .u64 ((lo:Int)*2^s)=((lo*2^s%18446744073709551616:Nat):Int):=by
  rw [show (lo:Int)*2^s=((lo*2^s:Nat):Int) by push_cast;rfl,W5];rfl
 have hUY:hi*2^s+lo/2^(64-s)<y*2^s:=by
  have:(hi*2^s+lo/2^(64-s))*18446744073709551616<y*2^s*18446744073709551616:=by omega
  exact Nat.lt_of_mul_lt_mul_right this
 have hHi:=Nat.lt_of_le_of_lt (Nat.le_add_right (hi*2^s) (lo/2^(64-s))) (Nat.lt_trans hUY s2)
 have eH:wr .u64 ((hi:Int)*2^s)=((hi*2^s:Nat):Int):=by
  rw [show (hi:Int)*2^s=((hi*2^s:Nat):Int) by push_cast;rfl,Qr (by omega) (by omega)]
 have eO:=Qra (a:=hi) (s:=s) hb (by omega)
 simp only [e1,e4,Zi,e3,e5,eY,eL,eH,Qbd,eO,show min 32 64=32 from rfl]
 generalize hU:hi*2^s+lo/2^(64-s)=U at *
 generalize hYe:y*2^s=Y at *
 generalize hLe:lo*2^s%18446744073709551616=L at *
 have hL:L<18446744073709551616:=by rw [<-hLe];exact Z85 _ (by omega)
 have aY:=Qmr s2;have aL:=Qmr hL
 simp only [aY,aL,show (2:Nat)^32=4294967296 from rfl]
 rw [if_pos (by omega),if_pos (by omega),if_pos (by omega),if_pos (by omega)]
 generalize hy1:Y/4294967296=y1 at *
 generalize hy0:Y%4294967296=y0 at *
 generalize hu1:L/4294967296=u1 at *
 generalize hu0:L%4294967296=u0 at *
 have hYd:Y=y1*4294967296+y0:=by omega
 have hLd:L=u1*4294967296+u0:=by omega
 have b1:2147483648<=y1/\y1<4294967296:=by omega
 have b0:y0<4294967296:=by omega
 have b2:u1<4294967296:=by omega
 have b3:u0<4294967296:=by omega
 rw [if_neg (by omega)]
 have hYp:0<Y:=by omega
 obtain ⟨q1,U2,q0,U3,dq1,dq0,m1,m2,m3,m4,hq1,hq0,V1,V2⟩:=Qrt (B:=4294967296) (V:=U*18446744073709551616+L) (Y:=Y) (U:=U) (u1:=u1) (u0:=u0) (by omega) hYp b3 hUY b2
 have first:∀{u:Nat},u<18446744073709551616->wr .u64 (Int.tdiv (u:Int) (y1:Int))=((u/y1:Nat):Int)/\wr .u64 ((u:Int)-wr .u64 (wr .u64 (Int.tdiv (u:Int) (y1:Int))*(y1:Int)))=((u%y1:Nat):Int):=λ{u} hu=>by
  have h1:=Nat.div_le_self u y1
  have h2:=Z57 u y1
  have h3:Int.tdiv (u:Int) (y1:Int)=((u/y1:Nat):Int):=by rw [Jr (by omega)];rfl
  rw [h3]
  generalize u/y1=q at *
  generalize u%y1=r at *
  rw [Qr (n:=(q:Int)) (by omega) (by omega)]
  refine ⟨rfl,?_⟩
  rw [Z30] at h2
  rw [show (q:Int)*(y1:Int)=((q*y1:Nat):Int) from rfl]
  generalize q*y1=P at *
  rw [Qr (n:=(P:Int)) (by omega) (by omega),Qr (by omega) (by omega)]
  omega
 obtain ⟨f1,f2⟩:=first (u:=U) (by omega)
 simp only [f2]
 rw [f1]
 obtain ⟨r1,d1⟩:=Qud (y1:=y1) (y0:=y0) (u:=U) (u0:=u1) b1.1 b1.2 b0 (by omega) b2
 rw [d1,<-hYd,dq1]
 simp only [Zb]
 rw [if_neg (by omega)]
 have eU2:wr .u64 (wr .u64 (wr .u64 ((U:Int)*4294967296)+(u1:Int))-wr .u64 ((q1:Int)*(Y:Int)))=(U2:Int):=by
  rw [show (q1:Int)*(Y:Int)=((Y*q1:Nat):Int) by push_cast;exact Int.mul_comm _ _,W5,W5,W5,W5]
  generalize Y*q1=P at m1 ⊢
  clear d1 V1 V2 m3 m4 dq1 dq0 hV hlt hqy hmy
  omega
 simp only [eU2]
 obtain ⟨g1,g2⟩:=first (u:=U2) (by omega)
 simp only [g2]
 rw [g1]
 obtain ⟨r2,d2⟩:=Qtb (y1:=y1) (y0:=y0) (u:=U2) (u0:=u0) b1.1 b1.2 b0 (by omega) b3
 rw [d2,<-hYd,dq0]
 simp only [Zb]
 rw [if_pos (by omega)]
 have eU3:wr .u64 (wr .u64 (wr .u64 ((U2:Int)*4294967296)+(u0:Int))-wr .u64 ((q0:Int)*(Y:Int)))=(U3:Int):=by
  rw [show (q0:Int)*(Y:Int)=((Y*q0:Nat):Int) by push_cast;exact Int.mul_comm _ _,W5,W5,W5,W5]
  generalize Y*q0=P at m3 ⊢
  clear d1 d2 V1 V2 m1 dq1 dq0 hV hlt hqy hmy
  omega
 rw [eU3,Qbd,Qr (n:=(q1:Int)*4294967296) (by omega) (by omega),Qr (by omega) (by omega)]
 rw [hV,V1] at hqy
 rw [hV,V2] at hmy
 rw [<-hqy,hmy,Nat.mul_div_cancel _ hp]
 rfl
theorem Qjm {a:J0} {b N:Nat} (ha:inB LB a) (hb:0<b) (hb':b<18446744073709551616) (hl:a.length<=800000000) (hN:(N:Int)=valB LB a) :
  ∀
   (k:Nat),k<=a.length->∀(m:Nat) (q:J0),(m:Int)=valB LB (a.drop k)->q.length=a.length->inB LB q->valB LB (q.drop k)=((m/b:Nat):Int) ->
   ∃q',Runs (λrec x=>z20.l0P a b rec some x) (((m%b:Nat):Int),(k:Int)-1,q) (((N%b:Nat):Int),(-1:Int),q')/\q'.length=a.length/\inB LB q'/\valB LB q'=((N/b:Nat):Int)
 |
  0,hk,m,q,hm,hq,hi,hv=>by
  have:m=N:=by rw [Z45] at hm;omega
  subst this
  refine ⟨q,.done λrec=>?_,hq,hi,by rwa [Z45] at hv⟩
  unfold z20.l0P
  simp only
  rw [Qc (by omega)];rfl
 |
  k+1,hk,m,q,hm,hq,hi,hv=>by
  have hka:k<a.length:=by omega
  have hkq:k<q.length:=by omega
  have hd:=Q7 (B:=LB) (by decide) ha k
  obtain ⟨d,hd'⟩:∃d:Nat,a.getD k 0=(d:Int):=⟨(a.getD k 0).toNat,by omega⟩
  have hd2:d<18446744073709551616:=by rw [hd'] at hd;exact_mod_cast hd.2
  obtain ⟨r,hr⟩:∃r,m%b=r:=⟨_,rfl⟩
  have hrb:r<b:=hr▸Z85 m hb
  obtain ⟨x,hx⟩:∃x,r*18446744073709551616+d=x:=⟨_,rfl⟩
  have hxb:x<b*18446744073709551616:=by omega
  obtain ⟨z,hz⟩:∃z,x/b=z:=⟨_,rfl⟩
  obtain ⟨w,hw⟩:∃w,x%b=w:=⟨_,rfl⟩
  obtain ⟨y,hy⟩:∃y,m/b=y:=⟨_,rfl⟩
  have hq1:z<18446744073709551616:=hz▸Nat.div_lt_of_lt_mul hxb
  have hmm:b*y+r=m:=by rw [<-hy,<-hr];exact Z57 m b
  have hm':((d+LB*m:Nat):Int)=valB LB (a.drop k):=by rw [Yf,hd',<-hm,Int.natCast_add,Z25]
  have e:d+LB*m=x+b*(LB*y):=by
   have h4:b*(LB*y)=LB*(b*y):=by rw [<-Z84,Z30 b LB,Z84]
   have h5:LB*m=LB*(b*y)+LB*r:=by rw [<-hmm,Nat.mul_add]
   rw [h4,h5,<-hx,Z30 r];show _=18446744073709551616*r+d+LB*(b*y)
   have:LB*r=18446744073709551616*r:=rfl
   omega
  have hdiv:(d+LB*m)/b=z+LB*y:=by rw [e,Nat.add_mul_div_left _ _ hb,hz]
  have hmod:(d+LB*m)%b=w:=by rw [e,Z79,hw]
  have hvq:valB LB ((q.set k (z:Int)).drop k)=(((d+LB*m)/b:Nat):Int):=by
   rw [Yf,Qgc,hv,hdiv,hy]
   have:(q.set k (z:Int)).getD k 0=(z:Int):=by simp [List.getD,hkq]
   rw [this,Int.natCast_add,Z25]
  obtain ⟨q',r1,r2,r3,r4⟩:=Qjm ha hb hb' hl hN k (by omega) (d+LB*m) (q.set k (z:Int)) hm' (by simp [hq]) (Qab hi (by show (0:Int)<=(z:Int)/\(z:Int)<((18446744073709551616:Nat):Int);omega)) hvq
  rw [hmod] at r1
  refine ⟨q',.step (λrec=>?_) r1,r2,r3,r4⟩
  have ek:((k+1:Nat):Int)-1=(k:Int):=by omega
  unfold z20.l0P
  simp only
  rw [ek,bif_t (by omega),if_pos (by omega),Zi,hd',hr,bits_Div64 hrb hd2 hb',hx,hz,hw]
  simp only [Zb]
  rw [if_pos (by omega),if_pos hkq,Qh (by omega) (by omega)]
theorem quot_by {a b:Nat} (hb:0<b) (hb':b<18446744073709551616) (ha:(lb a).length<=800000000):∃q,z20.F (lb a) (b:Int)=some (q,((a%b:Nat):Int))/\q.length=(lb a).length/\inB LB q/\valB LB q=((a/b:Nat):Int):=by
 obtain ⟨q',r1,r2,r3,r4⟩:=Qjm (a:=lb a) (b:=b) (N:=a) (Q0 bL a) hb hb' ha (by rw [Q8 bL]) (lb a).length (Z3 _) 0 (List.replicate (lb a).length 0) (by rw [List.drop_length];rfl) (by simp) (Qa0 (by decide) _) (by rw [Z26 (by simp)];simp [valB])
 rw [Nat.zero_mod] at r1
 have e:z20.l0 (lb a) (b:Int) ((0:Int),((lb a).length:Int)-1,List.replicate (lb a).length 0)=some (((a%b:Nat):Int),(-1:Int),q'):=r1.lfp
 refine ⟨q',?_,r2,r3,r4⟩
 unfold z20.F
 rw [if_pos (by omega),Zi,Qh (by omega) (by omega),e]
 rfl
theorem Qty {a b:Nat} (hb:0<b) (hb':b<18446744073709551616) (ha:(lb a).length<=800000000):Y1 a b:=by
 rcases Z52 a b with h|h
 ·exact Qhn h (by omega)
 ·have hl:(lb b).length<=1:=Yz bL (by simpa using hb')
  obtain ⟨q,q1,q2,q3,q4⟩:=quot_by hb hb' ha
  unfold Y1 z25.F
  rw [Wv]
  simp only [Zb]
  rw [Qc (by omega),Qcz (by omega)]
  simp only [Zb]
  have:¬cmpI (a:Int) b<0:=by unfold cmpI;rw [if_neg (by omega)];split<;>omega
  rw [Qc this,Qcm (by show List.length _<=_;omega),Qcm (by show List.length _<=_;omega)]
  simp only [Zb]
  rw [Qdu hb hb',Z14,bif_t (by omega),if_pos (by omega),show [(b:Int)].getD 0 0=b from rfl,q1]
  simp only [Zb]
  rw [Qjo q3 (by show List.length _<=_;omega),q4]
  simp only [Zb]
  have hm:=Z85 a hb
  rw [W1 (by omega)]
  rfl
inductive Rem (len:Nat):Nat->Nat->List Int->Prop
 |stop (j:Nat) (h:len<=j):Rem len 0 j []
 |step (n j:Nat) (ds:List Int) (h:0<n\/j<len) (hr:Rem len (n/10) (j+1) ds):Rem len n j (((n%10:Nat):Int)::ds)
def asc (d:Int):Int:=48+d
theorem Qr7 {s:J0} {i:Nat} {x:Int} (h:i<s.length):(s.set i x).drop i=x::s.drop (i+1):=by
 rw [Z21 (by simpa using h),Qgc]
 simp
theorem Quh {len:Nat} (hlen:len<=20) {n j:Nat} {ds:J0} (h:Rem len n j ds):n<18446744073709551616->j+ds.length<=20->∀s:J0,s.length=20 ->
  ∃s',Runs (λrec x=>z26.l0P (len:Int) rec some x) ((n:Int),((20-j:Nat):Int),s) ((0:Int),((20-j-ds.length:Nat):Int),s')/\s'.length=20/\s'.drop (20-j-ds.length)=ds.reverse.map asc++s.drop (20-j):=by
 induction h with
 |
  stop j h=>
  intro _ hj s hs
  simp only [Z29,Z69] at hj
  refine ⟨s,.done λrec=>?_,hs,by simp⟩
  unfold z26.l0P
  simp only [Z29,Nat.sub_zero]
  rw [Qc (by omega),Qh (by omega) (by omega),Qc (by omega)]
  rfl
 |
  step n j ds h hr ih=>
  intro hn hj s hs
  simp only [Z6] at hj
  have hi:20-(j+1)<s.length:=by omega
  obtain ⟨s',r1,r2,r3⟩:=ih (by omega) (by omega) (s.set (20-(j+1)) (asc ((n%10:Nat):Int))) (by simpa using hs)
  refine ⟨s',?_,r2,?_⟩
  ·rw [Z6,show 20-j-(ds.length+1)=20-(j+1)-ds.length by omega]
   refine .step (λrec=>?_) r1
   have e1:wr .i64 (((20-j:Nat):Int)-1)=((20-(j+1):Nat):Int):=by rw [Qh (by omega) (by omega)];omega
   have e2:wr .u64 (Int.tdiv (n:Int) 10)=((n/10:Nat):Int):=by rw [Jr (by omega),Qr (by omega) (by omega)];rfl
   have e3:wr .u8 (wr .u64 (48+Int.tmod (n:Int) 10))=asc ((n%10:Nat):Int):=by
    rw [Qae (by omega),Qr (by omega) (by omega),Qa3 (by omega) (by omega)];rfl
   unfold z26.l0P
   simp only [e1,e2,e3]
   rcases Z17 n with h0|h0
   ·have hjl:j<len:=h.resolve_left (by omega)
    rw [Qc (by omega),Qh (by omega) (by omega),bif_t (by omega),if_pos (by omega),Zi,if_pos hi]
   ·rw [bif_t (by omega),if_pos (by omega),Zi,if_pos hi]
  ·rw [Z6,show 20-j-(ds.length+1)=20-(j+1)-ds.length by omega,r3,Qr7 hi,show 20-(j+1)+1=20-j by omega]
   simp
theorem Qq1 {ds:J0} (h:inB 10 ds):(ds.map asc).map (λn=>UInt8.ofNat n.toNat)=ds.map ch:=by
 rw [List.map_map]
 refine Z75 λd hd=>?_
 have:=h d hd
 show UInt8.ofNat (48+d).toNat=UInt8.ofNat (48+d.toNat)
 rw [show (48+d).toNat=48+d.toNat by omega]
theorem Rem.inB {len n j:Nat} {ds:J0} (h:Rem len n j ds):inB 10 ds:=by
 induction h with
 |stop=>exact Y0 _
 |step n j ds h hr ih=>exact Yq.2 ⟨by omega,ih⟩
theorem Qsn {B:Nat} {l:J0} (h:inB B l):inB B l.reverse:=λx hx=>h x (by simpa using hx)
theorem Qr8 {len n:Nat} {ds:J0} (hlen:len<=20) (hn:n<18446744073709551616) (h:Rem len n 0 ds) (hd:ds.length<=20):z26.F (n:Int) (len:Int)=some (ds.reverse.map ch):=by
 obtain ⟨s',r1,r2,r3⟩:=Quh hlen h hn (by omega) (List.replicate 20 0) (by simp)
 have e:z26.l0 (len:Int) ((n:Int),(20:Int),List.replicate 20 (0:Int))=some ((0:Int),((20-0-ds.length:Nat):Int),s'):=r1.lfp
 unfold z26.F
 rw [e]
 simp only [Zb]
 have hl:(s'.drop (20-0-ds.length)).length=ds.length:=by rw [Z15];omega
 rw [if_pos r2,if_pos (by omega),Zi,Z27 (by rw [hl];omega),r3]
 simp only [Nat.sub_zero,List.drop_replicate,Nat.sub_self,List.replicate_zero,Z44]
 rw [Qq1 (Qsn h.inB)]
def lsd:Nat->Nat->J0
 |0,_=>[]
 |k+1,n=>((n%10:Nat):Int)::lsd k (n/10)
theorem Qd9:∀(k n:Nat),(lsd k n).length=k
 |0,_=>rfl
 |k+1,n=>by simp [lsd,Qd9 k]
theorem Qj1 {len:Nat}:∀(k n j:Nat),j+k=len->n<10^k->Rem len n j (lsd k n)
 |
  0,n,j,hj,hn=>by
  have:n=0:=by simpa using hn
  subst this;exact .stop j (by omega)
 |k+1,n,j,hj,hn=>.step n j _ (.inr (by omega)) (Qj1 k (n/10) (j+1) (by omega) (by rw [Z35] at hn;omega))
theorem Qvd {len:Nat} (n:Nat):∀j,(len<=j\/0<n/\len<=j+1)->Rem len n j (toB 10 n):=by
 induction n using Nat.strongRecOn with
 |
  _ n ih=>
  intro j hj
  rcases Z17 n with h0|h0
  ·subst h0;rw [toB_zero];exact .stop j (by omega)
  ·rw [Ym b10 h0]
   exact .step n j _ (.inl h0) (ih _ (Nat.div_lt_self h0 (by decide)) (j+1) (.inl (by omega)))
theorem Qey:∀(k low q:Nat),0<q->low<10^k->toB 10 (low+10^k*q)=lsd k low++toB 10 q
 |
  0,low,q,hq,hl=>by
  have:low=0:=by simpa using hl
  subst this;simp [lsd]
 |
  k+1,low,q,hq,hl=>by
  have hp:0<10^k:=Z93 (by decide)
  have hpq:0<10^k*q:=Nat.mul_pos hp hq
  have e:low+10^(k+1)*q=low+10*(10^k*q):=by rw [Z35,Z30 (10^k),Z84]
  rw [e,Ym b10 (by omega),lsd]
  rw [Z79,Nat.add_mul_div_left _ _ (by decide),Qey k (low/10) q hq (by rw [Z35] at hl;omega)]
  rfl
inductive Groups:Nat->List (List UInt8)->Prop
 |zero:Groups 0 []
 |last (n:Nat) (h0:0<n) (h:n<10^18):Groups n [(toB 10 n).reverse.map ch]
 |more (low q:Nat) (gs:List (List UInt8)) (hl:low<10^18) (h0:0<q) (hg:Groups q gs):Groups (low+10^18*q) (((lsd 18 low).reverse.map ch)::gs)
theorem Groups.text {n:Nat} {gs:List J1} (h:Groups n gs):gs.reverse.flatten=(toB 10 n).reverse.map ch:=by
 induction h with
 |zero=>rw [toB_zero];rfl
 |last n h0 h=>simp
 |
  more low q gs hl h0 hg ih=>
  rw [List.reverse_cons,List.flatten_append,ih,Qey 18 low q h0 hl,List.reverse_append,List.map_append]
  simp
theorem Groups.pos {n:Nat} {gs:List J1} (h:Groups n gs):∀g∈gs,1<=g.length:=by
 induction h with
 |zero=>intro g hg;simp at hg
 |
  last n h0 h=>
  intro g hg
  simp only [List.mem_singleton] at hg;subst hg
  rw [Ym b10 h0];simp
 |
  more low q gs hl h0 hg ih=>
  intro g hg
  rcases Z86.1 hg with rfl|hg
  ·simp [Qd9]
  ·exact ih g hg
theorem Qmu:∀{gs:List J1},(∀g∈gs,1<=g.length)->gs.length<=gs.flatten.length
 |[],_=>by simp
 |
  g::gs,h=>by
  have:=h g (by simp)
  have:=Qmu λg' h'=>h g' (List.mem_cons_of_mem _ h')
  simp only [Z6,Z63,Z9];omega
theorem Groups.len {n:Nat} {gs:List J1} (h:Groups n gs):gs.length<=sz n/\gs.flatten.length=sz n:=by
 have ht:=congrArg List.length h.text
 have e:gs.reverse.flatten.length=gs.flatten.length:=by
  simp only [List.length_flatten,List.map_reverse,List.sum_reverse]
 rw [e] at ht
 have ht:gs.flatten.length=sz n:=by rw [ht];unfold sz;simp
 exact ⟨by rw [<-ht];exact Qmu h.pos,ht⟩
theorem Qpr (l:J0) (hl:l.length<=1):z27.l2 l (((l.length:Nat):Int)) ((0:Int),(0:Int))=some (l.getD 0 0,(l.length:Int)):=by
 match l,hl with
 |
  [],_=>
  refine (Runs.done λrec=>?_:Runs (λrec x=>z27.l2P [] _ rec some x) _ _).lfp
  unfold z27.l2P
  simp only [Z29]
  rw [Qc (by omega)];rfl
 |
  [x],_=>
  refine (Runs.step (y:=(x,(1:Int))) (λrec=>?_) (Runs.done λrec=>?_):Runs (λrec x'=>z27.l2P [x] _ rec some x') _ _).lfp
  ·unfold z27.l2P
   simp only [Z14]
   rw [bif_t (by omega),if_pos (by omega),Qh (by omega) (by omega)];rfl
  ·unfold z27.l2P
   simp only [Z14]
   rw [Qc (by omega)];rfl
theorem Qry {n:Nat} (h:n<18446744073709551616):(lb n).getD 0 0=(n:Int)/\(lb n).length<=1:=by
 rcases Z17 n with rfl|h0
 ·rw [lb_zero];simp
 ·rw [Qdu h0 h];simp
theorem Qia {low:Nat} {len:Nat} {ds:J0} (hlen:len<=20) (hl:low<18446744073709551616) (hr:Rem len low 0 ds) (hd:ds.length<=20) {gs:List J1} (hg:gs.length<=800000000) {rec done:(J0×List J1)->Option (J0×List J1)} {y:Int} {r:J0×J0×Int} :
  z27.j1010a rec done ((low:Int),y) (len:Int) gs r=rec (r.1,gs++[ds.reverse.map ch]):=by
 unfold z27.j1010a
 rw [Qr8 hlen hl hr hd]
 simp only [Zb,Z14]
 rw [if_pos (by omega)]
theorem Qrb:∀(n:Nat),sz n<=100000000->∀gs:List J1,gs.length+sz n<=700000000->∃l,Groups n l/\Runs (λrec x=>z27.l0P rec some x) (lb n,gs) ([],gs++l):=by
 intro n
 induction n using Nat.strongRecOn with
 |
  _ n ih=>
  intro hs gs hg
  obtain ⟨U,hU⟩:∃U,U=1000000000000000000:=⟨_,rfl⟩
  have hU10:10^18=U:=by rw [hU]
  rcases Z17 n with h0|h0
  ·subst h0
   refine ⟨[],.zero,.done λrec=>?_⟩
   unfold z27.l0P
   simp only [Wv,Zb]
   rw [lb_zero,Z44];rfl
  ·have hUp:0<U:=by omega
   have hdm:=Z57 n U
   have hml:=Z85 n hUp
   have hdl:n/U<=n:=Nat.div_le_self _ _
   have hD:Y1 n U:=Qty hUp (by omega) (by have:=Wa n;omega)
   have hqlt:n/U<n:=Nat.div_lt_self h0 (by omega)
   obtain ⟨q,hq⟩:∃q,n/U=q:=⟨_,rfl⟩
   obtain ⟨low,hlow⟩:∃low,n%U=low:=⟨_,rfl⟩
   unfold Y1 at hD
   rw [hq] at hdm hdl hD hqlt;rw [hlow] at hdm hml hD
   have hsq:sz q<=sz n:=Jx hdl
   obtain ⟨g1,g2⟩:=Qry (n:=low) (by omega)
   have hof:z15.F [(1000000000000000000:Int)]=some (lb U):=by rw [W1 (by omega),hU];rfl
   have hl2:=Qpr (lb low) g2
   rw [g1] at hl2
   have body:∀{rec done:(J0×List J1)->Option (J0×List J1)},z27.l0P rec done (lb n,gs) =
     (bif decide (q=0) then z27.j1010a rec done ((low:Int),((lb low).length:Int)) 1 gs (lb q,lb low,0) else z27.j1010a rec done ((low:Int),((lb low).length:Int)) 18 gs (lb q,lb low,0)):=λ{rec done}=>by
    unfold z27.l0P
    simp only [Wv,Zb]
    rw [Zf (by omega),Zo,Zd,hof]
    simp only [Zb]
    rw [hD]
    simp only [Zb]
    rw [Qcm (by show List.length _<=_;omega)]
    simp only [Zb]
    rw [hl2]
    simp only [Zb,Wv]
   rcases Z17 q with hq0|hq0
   ·subst hq0
    have hn:n=low:=by omega
    subst hn
    have hsz:sz n<=18:=Qy (by rw [hU10];exact hml)
    refine ⟨[(toB 10 n).reverse.map ch],.last n h0 (by rw [hU10];exact hml),.step (y:=([],gs++[(toB 10 n).reverse.map ch])) (λrec=>?_) (.done λrec=>?_)⟩
    ·rw [body,bif_t rfl]
     refine (Qia (len:=1) (by omega) (by omega) (Qvd n 0 (.inr ⟨h0,by omega⟩)) (by show sz n<=20;omega) (by omega)).trans ?_
     rw [lb_zero]
    ·unfold z27.l0P
     rw [<-lb_zero]
     simp only [Wv,Zb]
     rw [lb_zero];rfl
   ·obtain ⟨l,l1,l2⟩:=ih q hqlt (by omega) (gs++[(lsd 18 low).reverse.map ch]) (by
     have h1:sz q<sz n:=by
      have:=congrArg List.length (Qey 18 low q hq0 (by rw [hU10];exact hml))
      rw [Z9,Qd9,hU10,show low+U*q=n by omega] at this
      unfold sz;omega
     simp only [Z9,Z14];omega)
    have hgn:Groups n (((lsd 18 low).reverse.map ch)::l):=by
     have:=Groups.more low q l (by rw [hU10];exact hml) hq0 l1
     rwa [hU10,show low+U*q=n by omega] at this
    refine ⟨_,hgn,.step (y:=(lb q,gs++[(lsd 18 low).reverse.map ch])) (λrec=>?_) (by rw [show gs++((lsd 18 low).reverse.map ch)::l=(gs++[(lsd 18 low).reverse.map ch])++l by simp];exact l2)⟩
    rw [body,Qc (by omega)]
    exact Qia (len:=18) (by omega) (by omega) (Qj1 18 low 0 (by omega) (by rw [hU10];exact hml)) (by rw [Qd9];omega) (by omega)
def byts (s:J1):J0:=s.map λc=>(c.toNat:Int)
theorem Qqh (a b:J1):byts (a++b)=byts a++byts b:=by simp [byts]
theorem Qpj (s:J1):(byts s).all Y9=true:=by
 rw [Z13]
 intro x hx
 obtain ⟨c,_,rfl⟩:=List.mem_map.1 hx
 have:=c.toNat_lt
 simp [Y9];omega
theorem Qpp (s:J1):(byts s).map (λn=>UInt8.ofNat n.toNat)=s:=by
 unfold byts
 rw [List.map_map]
 conv=>rhs;rw [<-List.map_id s]
 exact Z75 λc _=>by simp
theorem Qd2 (s:J1):(byts s).length=s.length:=by simp [byts]
theorem Qmk {gs:List J1} (hg:gs.length<=800000000) (hs:gs.flatten.length<=100000000):∀(k:Nat),k<=gs.length->∀acc:J1,acc.length+(gs.take k).flatten.length<=100000000 ->
  ∃i,Runs (λrec x=>z27.l4P gs rec some x) ((k:Int)-1,byts acc) (i,byts (acc++(gs.take k).reverse.flatten))
 |
  0,hk,acc,ha=>⟨-1,by
  refine .done λrec=>?_
  unfold z27.l4P
  simp only
  rw [Qc (by omega)];simp⟩
 |
  k+1,hk,acc,ha=>by
  have hk':k<gs.length:=by omega
  have hget:gs.getD k []=gs[k]:=by simp [List.getD,hk']
  have htk:gs.take (k+1)=gs.take k++[gs[k]]:=by rw [List.take_add_one,Z1 hk'];rfl
  have hfl:(gs.take (k+1)).flatten.length=(gs.take k).flatten.length+gs[k].length:=by rw [htk,List.flatten_append,Z9,List.flatten_singleton]
  obtain ⟨i,hi⟩:=Qmk hg hs k (by omega) (acc++gs[k]) (by rw [Z9];omega)
  refine ⟨i,.step (λrec=>?_) (by rw [htk,List.reverse_append,List.reverse_singleton,List.flatten_append,List.flatten_singleton,<-Z65];exact hi)⟩
  unfold z27.l4P
  simp only
  rw [show ((k+1:Nat):Int)-1=(k:Int) by omega,bif_t (by omega),if_pos (by omega),Zi,if_pos hk',hget]
  change (if ((byts acc).length+(byts gs[k]).length)*1<=140737488355328 then _ else none)=_
  rw [Qd2,Qd2,if_pos (by omega),Qh (by omega) (by omega),Qqh]
  rfl
theorem digits_Print {n:Nat} (hs:sz n<=100000000):z27.F (lb n)=some (txt n):=by
 unfold z27.F
 rw [Wv]
 simp only [Zb]
 rcases Z17 n with h0|h0
 ·subst h0;rfl
 rw [Qc (by omega)]
 obtain ⟨gs,g1,g2⟩:=Qrb n hs [] (by simp only [Z29];omega)
 have e0:z27.l0 (lb n,[])=some ([],gs):=g2.lfp
 obtain ⟨l1,l2⟩:=g1.len
 have ht:=g1.text
 have hn:0<gs.length:=by
  cases gs with
  |nil=>exfalso;cases g1;omega
  |cons=>simp
 rw [e0]
 simp only [Zb]
 obtain ⟨k,hk⟩:∃k,gs.length=k+1:=⟨gs.length-1,by omega⟩
 have hk':k<gs.length:=by omega
 have hget:gs.getD k []=gs[k]:=by simp [List.getD,hk']
 have htk:gs=gs.take k++[gs[k]]:=by
  have:=List.take_add_one (l:=gs) (i:=k)
  rw [Z1 hk',Z27 (by omega)] at this;exact this
 have hfl:gs.flatten.length=(gs.take k).flatten.length+gs[k].length:=by
  conv=>lhs;rw [htk]
  rw [List.flatten_append,Z9,List.flatten_singleton]
 rw [hk,Qh (n:=((k+1:Nat):Int)-1) (by omega) (by omega),show ((k+1:Nat):Int)-1=(k:Int) by omega,bif_t (by omega),if_pos (by omega),Zi,if_pos (by omega),hget]
 change (if (0+(byts gs[k]).length)*1<=140737488355328 then ((z27.l4 gs (wr .i64 ((k:Int)-1),[]++byts gs[k])).bind _) else none)=_
 rw [Qd2,if_pos (by omega),Qh (by omega) (by omega),List.nil_append]
 obtain ⟨i,hi⟩:=Qmk (gs:=gs) (by omega) (by omega) k (by omega) gs[k] (by omega)
 have e4:z27.l4 gs ((k:Int)-1,byts gs[k])=some (i,byts (gs[k]++(gs.take k).reverse.flatten)):=hi.lfp
 have hall:gs[k]++(gs.take k).reverse.flatten=gs.reverse.flatten:=by
  conv=>rhs;rw [htk]
  rw [List.reverse_append,List.reverse_singleton,List.flatten_append,List.flatten_singleton]
 rw [e4,hall]
 simp only [Zb]
 have hlen:gs.reverse.flatten.length=sz n:=by rw [ht];unfold sz;simp
 have hszp:0<sz n:=by omega
 rw [Qd2,if_pos (by omega),if_pos ⟨trivial,by omega,Qpj _⟩,Qpp,ht]
 unfold txt
 rw [if_neg (by omega)]
def itxt (z:Int):J1:=if z<0 then 45::txt z.natAbs else txt z.natAbs
theorem Qgg (n:Nat):(txt n).length<=sz n+1:=by
 unfold txt;split
 ·simp
 ·unfold sz;simp
theorem Qrh (z:Int):(itxt z).length<=sz z.natAbs+2:=by
 have:=Qgg z.natAbs
 unfold itxt;split
 ·simp only [Z6];omega
 ·omega
theorem Qjp {z:Int} (hs:sz z.natAbs<=100000000):z28.F (lb z.natAbs) (neg z)=some (itxt z):=by
 have:=Qgg z.natAbs
 unfold z28.F itxt
 by_cases h:z<0
 ·rw [bif_t h,digits_Print hs,if_pos h]
  simp only [Zb]
  rw [if_pos (by simp only [Z14];omega)];rfl
 ·rw [Qc h,digits_Print hs,if_neg h];rfl
theorem Qpx {z:Int} (hs:sz z.natAbs<=100000000):z105.F (dg z.natAbs) (neg z)=some (itxt z):=by
 have h1:=Qgg z.natAbs
 have h2:=We z.natAbs
 exact Qqs (by omega) (by omega)
def ltr (b:UInt8):Bool:=decide (97<=b.toNat)&&decide (b.toNat<=122)
def dgt (b:UInt8):Bool:=decide (48<=b.toNat)&&decide (b.toNat<=57)
def wrd (b:UInt8):Bool:=ltr b||dgt b||decide (b.toNat=45)
def nmr (b:UInt8):Bool:=dgt b||decide (b.toNat=45)||decide (b.toNat=46)
def bln (b:UInt8):Bool:=decide (b.toNat=32)||decide (b.toNat=9)||decide (b.toNat=10)||decide (b.toNat=13)
def sgn (b:UInt8):Bool:=decide (b.toNat=123)||decide (b.toNat=125)||decide (b.toNat=61)||decide (b.toNat=59)||decide (b.toNat=44)
def skp:Bool->J1->J1
 |_,[]=>[]
 |true,b::t=>if b.toNat=10 then skp false t else skp true t
 |false,b::t=>if b.toNat=35 then skp true t else if bln b then skp false t else b::t
theorem Wo:∀(r:Bool) (s:J1),(skp r s).length<=s.length
 |_,[]=>by simp [skp]
 |
  true,b::t=>by
  have h1:=Wo false t;have h2:=Wo true t
  unfold skp;split<;>simp<;>omega
 |
  false,b::t=>by
  have h1:=Wo false t;have h2:=Wo true t
  unfold skp;split
  ·simp;omega
  ·split<;>simp<;>omega
theorem Qcq:∀(b:Bool) (l:J1),l.drop (l.length-(skp b l).length)=skp b l:=by
 intro b l
 induction l generalizing b with
 |nil=>simp [skp]
 |
  cons c t iht=>
  have drop1:∀b',(c::t).drop ((c::t).length-(skp b' t).length)=t.drop (t.length-(skp b' t).length):=λb'=>by
   have:=Wo b' t
   rw [show (c::t).length-(skp b' t).length=(t.length-(skp b' t).length)+1 by simp;omega];rfl
  cases b with
  |
   true=>
   rw [skp];split
   ·rw [drop1];exact iht false
   ·rw [drop1];exact iht true
  |
   false=>
   rw [skp];split
   ·rw [drop1];exact iht true
   ·split
    ·rw [drop1];exact iht false
    ·simp
def dtd (s:J1):Bool:=decide (s.length=10)&&(List.range 10).all λi=>if i=4\/i=7 then decide ((s.getD i 0).toNat=45) else dgt (s.getD i 0)
def tokOf (s:J1):Int×J1×Int:=
 if ltr (s.getD 0 0) then (0,s.takeWhile wrd,0)
 else if dgt (s.getD 0 0)||decide ((s.getD 0 0).toNat=45) then
  if dtd (s.takeWhile nmr) then (2,s.takeWhile nmr,0) else if (mDec (s.takeWhile nmr)).2.2=0 then (1,s.takeWhile nmr,0) else (0,[],5)
 else if sgn (s.getD 0 0) then (3,s.take 1,0) else (0,[],4)
theorem Qlz {p:UInt8->Bool} {b:UInt8} {t:J1} (h:p b=true):1<=((b::t).takeWhile p).length/\((b::t).takeWhile p).length<=(b::t).length:=by
 refine ⟨by rw [List.takeWhile_cons_of_pos h];simp,?_⟩
 exact (List.takeWhile_prefix p).length_le
theorem Qb7 {s:J1} (h:s≠[]) (he:(tokOf s).2.2=0):1<=(tokOf s).2.1.length/\(tokOf s).2.1.length<=s.length:=by
 cases s with
 |nil=>exact (h rfl).elim
 |
  cons b t=>
  unfold tokOf at he ⊢
  simp only [List.getD_cons_zero] at he ⊢
  by_cases h1:ltr b=true
  ·rw [if_pos h1];exact Qlz (by simp [wrd,h1])
  ·rw [if_neg h1] at he ⊢
   by_cases h2:(dgt b||decide (b.toNat=45))=true
   ·rw [if_pos h2] at he ⊢
    have hp:=Qlz (p:=nmr) (b:=b) (t:=t) (by simp only [nmr,h2,Z82])
    by_cases h3:dtd (List.takeWhile nmr (b::t))=true
    ·rw [if_pos h3];exact hp
    ·rw [if_neg h3] at he ⊢
     by_cases h4:(mDec (List.takeWhile nmr (b::t))).2.2=0
     ·rw [if_pos h4];exact hp
     ·rw [if_neg h4] at he;simp at he
   ·rw [if_neg h2] at he ⊢
    by_cases h3:sgn b=true
    ·rw [if_pos h3];simp
    ·rw [if_neg h3] at he;simp at he
structure Tk where
 k:Int
 s:List UInt8
 p:Int
def Tk.v (t:Tk):List V:=[.int .i64 t.k,.str t.s,.int .i64 t.p]
def lx (N:Nat) (r:J1):List Tk×Int×Int:=
 if h:r=[] then ([],0,0) else
 if h2:(tokOf r).2.2=0 then
  let m:=lx N (skp false (r.drop (tokOf r).2.1.length))
  if m.2.2=0 then (⟨(tokOf r).1,(tokOf r).2.1,(N:Int)-r.length⟩::m.1,0,0) else ([],m.2.1,m.2.2)
 else ([],(N:Int)-r.length,(tokOf r).2.2)
termination_by r.length
decreasing_by
 have h3:=Qb7 h h2
 have h4:=Wo false (r.drop (tokOf r).2.1.length)
 rw [Z15] at h4
 omega
theorem lx_nil (N:Nat):lx N []=([],0,0):=by rw [lx];rfl
theorem Qbl {N:Nat} {r:J1} (h:r≠[]) (h2:(tokOf r).2.2≠0):lx N r=([],(N:Int)-r.length,(tokOf r).2.2):=by
 rw [lx,dif_neg h,dif_neg h2]
theorem Qay {N:Nat} {r:J1} (h:r≠[]) (h2:(tokOf r).2.2=0):lx N r =
  if (lx N (skp false (r.drop (tokOf r).2.1.length))).2.2=0 then (⟨(tokOf r).1,(tokOf r).2.1,(N:Int)-r.length⟩::(lx N (skp false (r.drop (tokOf r).2.1.length))).1,0,0)
  else ([],(lx N (skp false (r.drop (tokOf r).2.1.length))).2.1,(lx N (skp false (r.drop (tokOf r).2.1.length))).2.2):=by
 rw [lx,dif_neg h,dif_pos h2]
def lexOf (s:J1):List Tk×Int×Int:=lx s.length (skp false s)
theorem Ql1 (s:J1) (i:Nat) (h:i<s.length):(ByteArray.get! ⟨s.toArray⟩ i)=s.getD i 0:=by
 have h2:i<s.toArray.size:=by simpa using h
 show s.toArray[i]! = _
 rw [getElem!_pos s.toArray i h2]
 simp [Zl,h]
theorem dec_low {s:J1} {i:Nat} (h:i<s.length) (hb:(s.getD i 0).toNat<128):Utf8.decode ⟨s.toArray⟩ i=((s.getD i 0).toNat,1):=by
 unfold Utf8.decode
 simp only [Z69,Ql1 s i h]
 rw [if_pos hb]
theorem Qoz {s:J1} {i:Nat} (h:i<s.length) (hb:128<=(s.getD i 0).toNat):128<=(Utf8.decode ⟨s.toArray⟩ i).1:=by
 unfold Utf8.decode
 simp only [Z69,Ql1 s i h]
 rw [if_neg (by omega)]
 repeat' split
 all_goals first|(simp only [Utf8.runeError];omega)|(simp only [Z5,decide_eq_true_eq] at *;omega)|(simp only;omega)
theorem lex_letter (n:Int):z87.F n=some (decide (97<=n/\n<=122)):=by
 unfold z87.F
 by_cases h:n>=97
 ·rw [bif_t h];congr 1;exact decide_eq_decide.2 (by omega)
 ·rw [Qc h];congr 1;symm;exact Zf (by omega)
theorem lex_digit (n:Int):z88.F n=some (decide (48<=n/\n<=57)):=by
 unfold z88.F
 by_cases h:n>=48
 ·rw [bif_t h];congr 1;exact decide_eq_decide.2 (by omega)
 ·rw [Qc h];congr 1;symm;exact Zf (by omega)
theorem lex_wordly (n:Int):z89.F n=some (decide ((97<=n/\n<=122)\/(48<=n/\n<=57)\/n=45)):=by
 unfold z89.F
 rw [lex_letter]
 simp only [Zb]
 by_cases h:97<=n/\n<=122
 ·rw [bif_t h];congr 1;symm;exact Zt (.inl h)
 ·rw [Qc h,lex_digit]
  simp only [Zb]
  by_cases h2:48<=n/\n<=57
  ·rw [bif_t h2];congr 1;symm;exact Zt (.inr (.inl h2))
  ·rw [Qc h2];congr 1;exact decide_eq_decide.2 (by omega)
theorem lex_numeric (n:Int):z90.F n=some (decide ((48<=n/\n<=57)\/n=45\/n=46)):=by
 unfold z90.F
 rw [lex_digit]
 simp only [Zb]
 by_cases h:48<=n/\n<=57
 ·rw [bif_t h];congr 1;symm;exact Zt (.inl h)
 ·rw [Qc h]
  by_cases h2:n=45
  ·rw [bif_t h2];congr 1;symm;exact Zt (.inr (.inl h2))
  ·rw [Qc h2];congr 1;exact decide_eq_decide.2 (by omega)
theorem wrd_iff (b:UInt8):wrd b=decide ((97<=(b.toNat:Int)/\(b.toNat:Int)<=122)\/(48<=(b.toNat:Int)/\(b.toNat:Int)<=57)\/(b.toNat:Int)=45):=by
 rw [Z49];simp only [wrd,ltr,dgt,Z56,Z5,decide_eq_true_eq];omega
theorem nmr_iff (b:UInt8):nmr b=decide ((48<=(b.toNat:Int)/\(b.toNat:Int)<=57)\/(b.toNat:Int)=45\/(b.toNat:Int)=46):=by
 rw [Z49];simp only [nmr,dgt,Z56,Z5,decide_eq_true_eq];omega
def Jc (G:Int->Option Bool) (s:J1) {R:Type} (rec:Nat->Option R) (done:((J1×Nat)⊕Nat)->Option R):Nat->Option R:=λi=>
 if i<s.length then (G ((Utf8.decode ⟨s.toArray⟩ i).1:Int)).bind λr=>
  bif (!r) then (if (0:Int)<=((i:Nat):Int)/\((i:Nat):Int)<=((s).length:Int) then done (.inl (s.take (((i:Nat):Int)).toNat,i+(Utf8.decode ⟨s.toArray⟩ i).2)) else none)
  else rec (i+(Utf8.decode ⟨s.toArray⟩ i).2)
 else done (.inr i)
theorem Qal {s:J1} {i:Nat} (h:i<s.length):s.drop i=s.getD i 0::s.drop (i+1):=by
 rw [Z21 h,Zl,Z1 h];rfl
theorem scan_runs {G:Int->Option Bool} {p:UInt8->Bool} {s:J1} (hG:∀i,i<s.length->G ((Utf8.decode ⟨s.toArray⟩ i).1:Int)=some (p (s.getD i 0))/\(p (s.getD i 0)=true->(Utf8.decode ⟨s.toArray⟩ i).2=1)) :
  ∀(f i:Nat),i+f=s.length->(∃q,Runs (λrec x=>Jc G s rec some x) i (.inl (s.take (i+((s.drop i).takeWhile p).length),q))/\i+((s.drop i).takeWhile p).length<s.length)\/(Runs (λrec x=>Jc G s rec some x) i (.inr s.length)/\i+((s.drop i).takeWhile p).length=s.length)
 |
  0,i,h=>by
  refine .inr ⟨.done λrec=>?_,?_⟩
  ·unfold Jc;rw [if_neg (by omega),show i=s.length by omega]
  ·rw [Z34 (by omega)];simp;omega
 |
  f+1,i,h=>by
  have hi:i<s.length:=by omega
  obtain ⟨h1,h2⟩:=hG i hi
  rw [Qal hi]
  cases hp:p (s.getD i 0) with
  |
   false=>
   refine .inl ⟨i+(Utf8.decode ⟨s.toArray⟩ i).2,.done λrec=>?_,?_⟩
   ·unfold Jc
    rw [if_pos hi,h1,hp]
    simp only [Zb,Zo,Zd]
    rw [if_pos (by omega),List.takeWhile_cons_of_neg (by rw [hp];simp)]
    rfl
   ·rw [List.takeWhile_cons_of_neg (by rw [hp];simp)];simpa using hi
  |
   true=>
   have hw:=h2 hp
   have hst:∀rec:Nat->Option ((J1×Nat)⊕Nat),Jc G s rec some i=rec (i+1):=λrec=>by
    unfold Jc
    rw [if_pos hi,h1,hp,hw];rfl
   have hl:i+(List.takeWhile p (s.getD i 0::s.drop (i+1))).length=(i+1)+(List.takeWhile p (s.drop (i+1))).length:=by
    rw [List.takeWhile_cons_of_pos hp,Z6];omega
   rw [hl]
   rcases scan_runs hG f (i+1) (by omega) with ⟨q,r,hlt⟩|⟨r,he⟩
   ·exact .inl ⟨q,.step hst r,hlt⟩
   ·exact .inr ⟨.step hst r,he⟩
theorem Qdl (p:UInt8->Bool) (s:J1):s.take (s.takeWhile p).length=s.takeWhile p:=
 (List.prefix_iff_eq_take.1 (List.takeWhile_prefix p)).symm
theorem scan_at {G:Int->Option Bool} {p:UInt8->Bool} (s:J1) (hG:∀n:Nat,n<128->∀b:UInt8,b.toNat=n->G (n:Int)=some (p b)) (hH:∀n:Nat,128<=n->G (n:Int)=some false) (hp:∀b:UInt8,128<=b.toNat->p b=false) :
  (∃q,lfp (λrec x=>Jc G s rec some x) 0=some (.inl (s.takeWhile p,q))/\(s.takeWhile p).length<s.length)\/(lfp (λrec x=>Jc G s rec some x) 0=some (.inr s.length)/\s.takeWhile p=s):=by
 have h:=scan_runs (G:=G) (p:=p) (s:=s) (λi hi=>by
  by_cases hb:(s.getD i 0).toNat<128
  ·rw [dec_low hi hb]
   exact ⟨hG _ hb _ rfl,λ_=>rfl⟩
  ·have hb':128<=(s.getD i 0).toNat:=by omega
   rw [hp _ hb',hH _ (Qoz hi hb')]
   exact ⟨rfl,λh=>by simp at h⟩) s.length 0 (by omega)
 rw [Z45,Z38] at h
 rcases h with ⟨q,r,hlt⟩|⟨r,he⟩
 ·exact .inl ⟨q,by rw [r.lfp,Qdl],hlt⟩
 ·refine .inr ⟨r.lfp,?_⟩
  have:=Qdl p s
  rw [he,Z59] at this;exact this.symm
theorem token_l0 (s:J1):(∃q,z95.l0 s s 0=some (.inl (s.takeWhile wrd,q)))\/(z95.l0 s s 0=some (.inr s.length)/\s.takeWhile wrd=s):=by
 rcases scan_at (G:=z89.F) (p:=wrd) s (λn hn b hb=>by rw [lex_wordly,wrd_iff,hb]) (λn hn=>by rw [lex_wordly];congr 1;exact Zf (by omega)) (λb hb=>by rw [wrd_iff];exact Zf (by omega)) with ⟨q,h,_⟩|h
 ·exact .inl ⟨q,h⟩
 ·exact .inr h
theorem token_l0a (s:J1):(∃q,z95.l0a s s 0=some (.inl (s.takeWhile nmr,q)))\/(z95.l0a s s 0=some (.inr s.length)/\s.takeWhile nmr=s):=by
 rcases scan_at (G:=z90.F) (p:=nmr) s (λn hn b hb=>by rw [lex_numeric,nmr_iff,hb]) (λn hn=>by rw [lex_numeric];congr 1;exact Zf (by omega)) (λb hb=>by rw [nmr_iff];exact Zf (by omega)) with ⟨q,h,_⟩|h
 ·exact .inl ⟨q,h⟩
 ·exact .inr h
abbrev shp:J1:=[48,48,48,48,45,48,48,45,48,48]
theorem Qnq {i:Nat} (h:i<10):Utf8.decode ⟨shp.toArray⟩ i=(if i=4\/i=7 then 45 else 48,1):=by
 have:i=0\/i=1\/i=2\/i=3\/i=4\/i=5\/i=6\/i=7\/i=8\/i=9:=by omega
 rcases this with rfl|rfl|rfl|rfl|rfl|rfl|rfl|rfl|rfl|rfl<;>exact dec_low (by decide) (by decide)
abbrev okD (s:J1) (i:Nat):Bool:=if i=4\/i=7 then decide ((s.getD i 0).toNat=45) else dgt (s.getD i 0)
theorem Qe9 (b:UInt8):wr .i32 (b.toNat:Int)=b.toNat:=Qjf (by omega) (by have:=b.toNat_lt;omega)
theorem Qh5 (b:UInt8):dgt b=decide (48<=(b.toNat:Int)/\(b.toNat:Int)<=57):=by
 rw [Z49];simp only [dgt,Z5,decide_eq_true_eq];omega
theorem dated_loop {s:J1} (hl:s.length=10):∀(f i:Nat),i+f=10->(∃q,Runs (λrec x=>z91.l0P s shp rec some x) i (.inl (false,q))/\∃j,i<=j/\j<10/\okD s j=false)\/(Runs (λrec x=>z91.l0P s shp rec some x) i (.inr 10)/\∀j,i<=j->j<10->okD s j=true)
 |
  0,i,h=>by
  refine .inr ⟨.done λrec=>?_,λj h1 h2=>by omega⟩
  unfold z91.l0P
  rw [if_neg (by show ¬i<10;omega),show i=10 by omega]
 |
  f+1,i,h=>by
  have hi:i<10:=by omega
  have hst:∀rec:Nat->Option ((Bool×Nat)⊕Nat),z91.l0P s shp rec some i=if okD s i=true then rec (i+1) else some (.inl (false,i+1)):=λrec=>by
   unfold z91.l0P
   rw [if_pos (show i<shp.length from hi),Qnq hi]
   rw [lex_digit]
   simp only [Zb,Zi]
   rw [if_pos (by omega),Qe9,lex_digit]
   simp only [Zb,okD]
   have hil:i<s.length:=by omega
   obtain ⟨c,hc⟩:∃c,s.getD i 0=c:=⟨_,rfl⟩
   simp only [hc]
   have e:wr .u8 45=45:=by decide
   by_cases h47:i=4\/i=7
   ·simp only [if_pos h47]
    by_cases h45:c.toNat=45
    ·rw [h45,if_pos (by omega)];simp [e]
    ·have h45':¬((45:Int)=(c.toNat:Int)):=by omega
     by_cases hd:48<=(c.toNat:Int)/\(c.toNat:Int)<=57
     ·simp [hd,h45]
     ·rw [Zf hd,if_pos (by omega)]
      simp [h45,e,h45']
   ·simp only [if_neg h47,Qh5]
    by_cases hd:48<=(c.toNat:Int)/\(c.toNat:Int)<=57
    ·rw [Zt hd];simp
    ·rw [Zf hd];simp
  cases ho:okD s i with
  |
   false=>
   refine .inl ⟨i+1,.done λrec=>?_,i,Z3 _,hi,ho⟩
   rw [hst,ho];rfl
  |
   true=>
   have hst':∀rec:Nat->Option ((Bool×Nat)⊕Nat),z91.l0P s shp rec some i=rec (i+1):=λrec=>by rw [hst,ho];rfl
   rcases dated_loop hl f (i+1) (by omega) with ⟨q,r,j,h1,h2,h3⟩|⟨r,hall⟩
   ·exact .inl ⟨q,.step hst' r,j,by omega,h2,h3⟩
   ·refine .inr ⟨.step hst' r,λj h1 h2=>?_⟩
    by_cases e:j=i
    ·subst e;exact ho
    ·exact hall j (by omega) h2
theorem lex_dated (s:J1):z91.F s=some (dtd s):=by
 unfold z91.F dtd
 by_cases hl:s.length=10
 ·rw [Zt (show (s.length:Int)=10 by omega),Zt hl]
  simp only [Zn,Zc,Z22]
  rcases dated_loop hl 10 0 rfl with ⟨q,r,j,_,h2,h3⟩|⟨r,hall⟩
  ·have e:z91.l0 s shp 0=some (.inl (false,q)):=r.lfp
   rw [e]
   simp only [Zb]
   congr 1;symm
   rw [Bool.eq_false_iff]
   intro h
   have:=Z13.1 h j (by simpa using h2)
   rw [show okD s j=true from this] at h3;simp at h3
  ·have e:z91.l0 s shp 0=some (.inr 10):=r.lfp
   rw [e]
   simp only [Zb]
   congr 1;symm
   exact Z13.2 λj hj=>hall j (Z54 _) (by simpa using hj)
 ·rw [Zf (show ¬(s.length:Int)=10 by omega),Zf hl];rfl
theorem Qn0 {n:Nat} (h:128<=n) (h2:n<256):∃a b:UInt8,(Utf8.encode (n:Int)).data.toList=[a,b]/\128<=b.toNat:=by
 unfold Utf8.encode
 have hv:Utf8.valid (n:Int)=true:=by unfold Utf8.valid;rw [Z56];left;simp only [Z5,decide_eq_true_eq];omega
 simp only [hv,if_true,Zi]
 rw [if_neg (by omega),if_pos (by omega)]
 refine ⟨_,_,rfl,?_⟩
 rw [UInt8.toNat_ofNat'];omega
theorem Quc {b:UInt8} (h:128<=b.toNat):sgn b=false:=by
 have hn:∀k:Nat,k<128->decide (b.toNat=k)=false:=λk hk=>Zf (by omega)
 unfold sgn
 rw [hn 123 (by decide),hn 125 (by decide),hn 61 (by decide),hn 59 (by decide),hn 44 (by decide)];rfl
theorem Qoq (b:UInt8):z94.F [123,125,61,59,44] (b.toNat:Int)=some (sgn b):=by
 unfold z94.F z93.F
 have hb:=b.toNat_lt
 rw [bif_t (by omega)]
 unfold z93.j1
 by_cases h:(b.toNat:Int)<128
 ·rw [bif_t h]
  have e:z2.F [123,125,61,59,44] (wr .u8 (b.toNat:Int))=some (byteIdx [123,125,61,59,44] b):=by
   rw [Qa3 (by omega) (by omega)]
   unfold z2.F
   have:((b.toNat:Int).toNat).toUInt8=b:=by simp
   rw [this]
  unfold z85.F
  rw [e]
  simp only [Zb]
  congr 1
  have hn:byteIdx ([]:J1) b = -1:=rfl
  have key:∀(c:UInt8) (t:J1),(byteIdx (c::t) b>=0↔c=b\/byteIdx t b>=0):=λc t=>by
   rw [Ji]
   by_cases h1:c=b
   ·simp [h1]
   ·rw [if_neg h1];simp only [h1,false_or];split<;>omega
  rw [Z49,decide_eq_true_iff,key,key,key,key,key,hn]
  simp only [sgn,Z56,decide_eq_true_eq,<-UInt8.toNat_inj]
  constructor
  ·rintro (h|h|h|h|h|h)
   ·rw [<-h];decide
   ·rw [<-h];decide
   ·rw [<-h];decide
   ·rw [<-h];decide
   ·rw [<-h];decide
   ·omega
  ·rintro ((((h|h)|h)|h)|h)
   ·exact .inl h.symm
   ·exact .inr (.inl h.symm)
   ·exact .inr (.inr (.inl h.symm))
   ·exact .inr (.inr (.inr (.inl h.symm)))
   ·exact .inr (.inr (.inr (.inr (.inl h.symm))))
 ·have hbb:128<=b.toNat:=by omega
  rw [Qc h,Qc (by omega)]
  have hv:z92.F (b.toNat:Int)=some true:=by
   unfold z92.F z92.j1
   rw [bif_t (by omega),bif_t (by omega)]
  rw [hv]
  obtain ⟨a1,a2,he,ha⟩:=Qn0 (n:=b.toNat) (by omega) hb
  simp only [Zb,Zn,Zc,he]
  have e1:wr .i64 ((([a1,a2]:J1).length:Int)-1)=1:=by show wr .i64 (((2:Nat):Int)-1)=1;decide
  simp only [e1]
  have e2:wr .i64 ((1:Int)+1)=2:=by decide
  have h2:¬((125:Int)=(a2.toNat:Int)):=by omega
  have e3:z85.F (List.drop (Int.toNat 2) [123,125,61,59,44]) (a2.toNat:Int)=some (-1):=by
   unfold z85.F z2.F
   have:((a2.toNat:Int).toNat).toUInt8=a2:=by simp
   rw [this]
   have ne:∀c:UInt8,c.toNat<128->¬c=a2:=λc hc e=>by subst e;omega
   show some (byteIdx [61,59,44] a2)=some (-1)
   rw [Ji,if_neg (ne _ (by decide)),Ji,if_neg (ne _ (by decide)),Ji,if_neg (ne _ (by decide))];rfl
  have e4:(([123,125,61,59,44]:J1).getD (Int.toNat 1) 0).toNat=125:=rfl
  have e5:(([a1,a2]:J1).getD (Int.toNat 1) 0).toNat=a2.toNat:=rfl
  rw [bif_t (by decide),if_pos (by decide),if_pos (by simp),e4,e5,show (((125:Nat):Int))=125 from rfl,Zf h2]
  simp only [Zo,Zd,e2]
  rw [if_pos (by decide),if_pos (by simp),e3]
  simp only [Zb]
  rw [bif_t (by decide),Zb,Quc hbb];rfl
theorem lex_token {s:J1} (h:s≠[]):z95.F s=some ((tokOf s).1,(tokOf s).2.1,0,(tokOf s).2.2):=by
 have hl:=Z19.2 h
 have h5:∀t:J1,((z91.F t).bind λr10=>(bif r10 then (some ((2:Int),t,(0:Int),(0:Int))) else ((z50.F t).bind λr11=>(bif (!decide (r11.2.2.2=(0:Int))) then (some ((0:Int),([]:J1),(0:Int),(5:Int))) else (some ((1:Int),t,(0:Int),(0:Int))))))) =
   some (if dtd t then (2,t,0,0) else if (mDec t).2.2=0 then (1,t,0,0) else (0,[],0,5)):=λt=>by
  rw [lex_dated]
  simp only [Zb]
  cases dtd t with
  |true=>rfl
  |
   false=>
   rw [dec_Parse]
   simp only [Zb,Zc]
   by_cases h0:(mDec t).2.2=0
   ·rw [Zt h0,if_pos h0];rfl
   ·rw [Zf h0,if_neg h0];rfl
 have hnum:z95.j6 true s=some (if dtd (s.takeWhile nmr) then (2,s.takeWhile nmr,0,0) else if (mDec (s.takeWhile nmr)).2.2=0 then (1,s.takeWhile nmr,0,0) else (0,[],0,5)):=by
  unfold z95.j6
  simp only [Zd]
  rcases token_l0a s with ⟨q,e⟩|⟨e,he⟩
  ·rw [e];simp only [Zb];exact h5 _
  ·rw [e];simp only [Zb];rw [he];exact h5 s
 unfold z95.F tokOf
 rw [if_pos (by omega),Qe9,lex_letter]
 simp only [Zb]
 generalize hb:s.getD 0 0=b
 have e1:decide (97<=(b.toNat:Int)/\(b.toNat:Int)<=122)=ltr b:=by
  rw [Z49];simp only [ltr,Z5,decide_eq_true_eq];omega
 rw [e1]
 cases h1:ltr b with
 |
  true=>
  simp only [Zd,if_true]
  rcases token_l0 s with ⟨q,e⟩|⟨e,he⟩
  ·rw [e];rfl
  ·rw [e];simp only [Zb];rw [he]
 |
  false=>
  rw [lex_digit]
  simp only [Zb,Zc,Z10,if_false]
  rw [<-Qh5]
  have fin:z95.j6 true s=some ((if dtd (s.takeWhile nmr) then ((2:Int),s.takeWhile nmr,(0:Int)) else if (mDec (s.takeWhile nmr)).2.2=0 then (1,s.takeWhile nmr,0) else (0,[],5)).1,(if dtd (s.takeWhile nmr) then ((2:Int),s.takeWhile nmr,(0:Int)) else if (mDec (s.takeWhile nmr)).2.2=0 then (1,s.takeWhile nmr,0) else (0,[],5)).2.1,0,(if dtd (s.takeWhile nmr) then ((2:Int),s.takeWhile nmr,(0:Int)) else if (mDec (s.takeWhile nmr)).2.2=0 then (1,s.takeWhile nmr,0) else (0,[],5)).2.2):=by
   rw [hnum]
   split
   ·rfl
   ·split<;>rfl
  cases h2:dgt b with
  |true=>simp only [Zd,Z82,if_true];exact fin
  |
   false=>
   simp only [Zc,Z77]
   by_cases h3:b.toNat=45
   ·rw [Zt (show (b.toNat:Int)=45 by omega),Zt h3]
    simp only [if_true];exact fin
   ·rw [Zf (show ¬(b.toNat:Int)=45 by omega),Zf h3]
    simp only [Z10,if_false]
    unfold z95.j6
    simp only [Zc]
    rw [hb,Qe9,Qoq]
    simp only [Zb]
    cases sgn b with
    |true=>simp only [Zd,if_true];rw [if_pos (by omega)]
    |false=>simp only [Zc,Z10,if_false]
theorem Qg0 (b:UInt8):([32,9,10,13]:J1).contains b=bln b:=by
 rw [Z49]
 simp only [List.contains_cons,List.contains_nil,Bool.or_false,Z56,beq_iff_eq,bln,decide_eq_true_eq,<-UInt8.toNat_inj]
 simp only [show (32:UInt8).toNat=32 from rfl,show (9:UInt8).toNat=9 from rfl,show (10:UInt8).toNat=10 from rfl,show (13:UInt8).toNat=13 from rfl]
 omega
theorem Qi3:∀l:J1,skp false (trimL l [32,9,10,13])=skp false l
 |[]=>rfl
 |
  b::t=>by
  by_cases hb:bln b=true
  ·have e:trimL (b::t) [32,9,10,13]=trimL t [32,9,10,13]:=by unfold trimL;exact List.dropWhile_cons_of_pos (by rw [Qg0];exact hb)
   rw [e,Qi3 t]
   have h35:¬b.toNat=35:=λe=>by simp [bln,e] at hb
   conv=>rhs;rw [skp]
   rw [if_neg h35,if_pos hb]
  ·have e:trimL (b::t) [32,9,10,13]=b::t:=by unfold trimL;exact List.dropWhile_cons_of_neg (by rw [Qg0];exact hb)
   rw [e]
theorem Qtg {l:J1} {b:UInt8} {t:J1} (h:trimL l [32,9,10,13]=b::t):bln b=false:=by
 have:=List.head?_dropWhile_not (λc=>([32,9,10,13]:J1).contains c) l
 unfold trimL at h
 rw [h] at this
 simpa [<-Qg0] using this
theorem Qsx (l:J1):(trimL l [32,9,10,13]).length<=l.length:=(List.dropWhile_suffix _).length_le
theorem Qga:∀(t:J1) (c:UInt8),byteIdx t c<t.length/\-1<=byteIdx t c
 |[],c=>by simp [byteIdx]
 |
  b::t,c=>by
  have ih:=Qga t c
  rw [Ji,Z6]
  split
  ·omega
  ·split<;>omega
theorem Qiw:∀t:J1,skp true t=if byteIdx t 10<0 then [] else skp false (t.drop (byteIdx t 10).toNat)
 |[]=>rfl
 |
  b::t=>by
  have hlt:=Qga t 10
  rw [Ji,skp]
  by_cases h:b=10
  ·subst h
   rw [if_pos rfl,if_pos (show UInt8.toNat 10=10 from rfl),if_neg (by decide)]
   show skp false t=skp false (10::t)
   conv=>rhs;rw [skp]
   rw [if_neg (by decide),if_pos (by decide)]
  ·rw [if_neg h,if_neg (show ¬b.toNat=10 from λe=>h (UInt8.toNat_inj.1 e)),Qiw t]
   by_cases h2:byteIdx t 10<0
   ·rw [if_pos h2,if_pos h2,if_pos (by decide)]
   ·rw [if_neg h2,if_neg h2,if_neg (by omega)]
    have:(byteIdx t 10+1).toNat=(byteIdx t 10).toNat+1:=by omega
    rw [this];rfl
theorem Qc3 (r:J1):z84.F r [35]=some (decide (r.getD 0 0=35)):=by
 unfold z84.F z31.F
 cases r with
 |nil=>rfl
 |
  cons b t=>
  rw [bif_t (by simp only [Z6,Z29];omega),if_pos (by simp only [Z6,Z29];omega)]
  simp only [Zb,List.getD_cons_zero]
  congr 1
  exact decide_eq_decide.2 (by simp)
theorem Qk4 {s:J1} (hs:s.length<=4611686018427387904):∀(n:Nat) (l:J1),l.length<=n->l.length<=s.length->Runs (λrec x=>z86.l0P s rec some x) l (((s.length-(skp false l).length:Nat):Int))
 |
  n,l,hn,hls=>by
  have htl:=Qsx l
  have ht:z4.F l [32,9,10,13]=some (trimL l [32,9,10,13]):=by unfold z4.F;rw [if_pos ⟨by decide,by decide⟩]
  have hsk:=Qi3 l
  cases hr:trimL l [32,9,10,13] with
  |
   nil=>
   refine .done λrec=>?_
   unfold z86.l0P
   rw [ht,hr]
   simp only [Zb]
   rw [Qc3]
   simp only [Zb]
   rw [show (!decide (([]:J1).getD 0 0=35))=true from rfl]
   simp only [Zd]
   rw [<-hsk,hr,Qh (by simp only [Z29];omega) (by simp only [Z29];omega)]
   rfl
  |
   cons b t=>
   have hb:=Qtg hr
   rw [hr] at hsk htl
   have hlen:(b::t).length=t.length+1:=rfl
   by_cases h35:b=35
   ·subst h35
    have hi:=Qga t 10
    have e1:skp false (35::t)=skp true t:=by rw [skp];rfl
    have e2:byteIdx (35::t) 10=if byteIdx t 10<0 then -1 else byteIdx t 10+1:=by rw [Ji,if_neg (by decide)]
    have e3:z85.F (35::t) 10=some (byteIdx (35::t) 10):=rfl
    rw [<-hsk,e1,Qiw]
    by_cases hneg:byteIdx t 10<0
    ·refine .done λrec=>?_
     unfold z86.l0P
     rw [ht,hr]
     simp only [Zb]
     rw [Qc3]
     simp only [Zb]
     rw [show (!decide ((35::t:J1).getD 0 0=35))=false from rfl]
     simp only [Zc]
     rw [e3]
     simp only [Zb]
     rw [e2,if_pos hneg,bif_t (by decide),if_pos hneg]
     simp
    ·rw [if_neg hneg]
     match n,hn with
     |0,hn=>simp at htl;omega
     |
      n+1,hn=>
      have hd:(t.drop (byteIdx t 10).toNat).length<=t.length:=by rw [Z15];omega
      refine .step (λrec=>?_) (Qk4 hs n (t.drop (byteIdx t 10).toNat) (by omega) (by omega))
      unfold z86.l0P
      rw [ht,hr]
      simp only [Zb]
      rw [Qc3]
      simp only [Zb]
      rw [show (!decide ((35::t:J1).getD 0 0=35))=false from rfl]
      simp only [Zc]
      rw [e3]
      simp only [Zb]
      rw [e2,if_neg hneg,Qc (by omega),if_pos (by simp only [Z6];omega)]
      have:(byteIdx t 10+1).toNat=(byteIdx t 10).toNat+1:=by omega
      rw [this];rfl
   ·refine .done λrec=>?_
    unfold z86.l0P
    rw [ht,hr]
    simp only [Zb]
    rw [Qc3]
    simp only [Zb,List.getD_cons_zero]
    rw [Zf h35]
    simp only [Zo,Zd]
    have e1:skp false (b::t)=b::t:=by rw [skp,if_neg (show ¬b.toNat=35 from λe=>h35 (UInt8.toNat_inj.1 e)),if_neg (by rw [hb];simp)]
    rw [<-hsk,e1,Qh (by omega) (by omega)]
    congr 1;omega
theorem lex_between {s:J1} (hs:s.length<=4611686018427387904):z86.F s=some (((s.length-(skp false s).length:Nat):Int)):=by
 unfold z86.F
 have e:z86.l0 s s=some _:=(Qk4 hs s.length s (Z3 _) (Z3 _)).lfp
 rw [e];rfl
theorem Qqu {s:J1} (hs:s.length<=1048576):∀(n:Nat) (r:J1) (acc:J2),r.length<=n->r.length<=s.length->s.drop (s.length-r.length)=r->acc.length+r.length<=s.length ->
  ∃x,z96.l0 s ((s.length:Int)-r.length,acc)=some x/\(if (lx s.length r).2.2=0 then x=.inl ((s.length:Int),acc++(lx s.length r).1.map Tk.v) else ∃a,x=.inr ([],(lx s.length r).2.1,(lx s.length r).2.2,a))
 |
  n,r,acc,hn,hrs,hd,hacc=>by
  suffices h:∃x,Runs (λrec y=>z96.l0P s rec some y) ((s.length:Int)-r.length,acc) x/\(if (lx s.length r).2.2=0 then x=.inl ((s.length:Int),acc++(lx s.length r).1.map Tk.v) else ∃a,x=.inr ([],(lx s.length r).2.1,(lx s.length r).2.2,a)) by
   obtain ⟨x,h1,h2⟩:=h
   exact ⟨x,h1.lfp,h2⟩
  revert n
  have key:∀(n:Nat) (r:J1) (acc:J2),r.length<=n->r.length<=s.length->s.drop (s.length-r.length)=r->acc.length+r.length<=s.length ->
    ∃x,Runs (λrec y=>z96.l0P s rec some y) ((s.length:Int)-r.length,acc) x/\(if (lx s.length r).2.2=0 then x=.inl ((s.length:Int),acc++(lx s.length r).1.map Tk.v) else ∃a,x=.inr ([],(lx s.length r).2.1,(lx s.length r).2.2,a)):=by
   intro n
   induction n with
   |
    zero=>
    intro r acc hn hrs hd hacc
    have:r=[]:=Z7 (by omega)
    subst this
    refine ⟨.inl ((s.length:Int),acc),.done λrec=>?_,?_⟩
    ·unfold z96.l0P
     simp only
     rw [Qc (by simp)];simp
    ·rw [lx_nil];simp
   |
    succ n ih=>
    intro r acc hn hrs hd hacc
    by_cases hr:r=[]
    ·subst hr
     refine ⟨.inl ((s.length:Int),acc),.done λrec=>?_,?_⟩
     ·unfold z96.l0P
      simp only
      rw [Qc (by simp)];simp
     ·rw [lx_nil];simp
    have hpos:=Z19.2 hr
    have hat:((s.length:Int)-r.length).toNat=s.length-r.length:=by omega
    have htok:z95.F (s.drop ((s.length:Int)-r.length).toNat)=some ((tokOf r).1,(tokOf r).2.1,0,(tokOf r).2.2):=by rw [hat,hd,lex_token hr]
    by_cases he:(tokOf r).2.2=0
    ·obtain ⟨l1,l2⟩:=Qb7 hr he
     have hu:s.drop (s.length-r.length+(tokOf r).2.1.length)=r.drop (tokOf r).2.1.length:=by rw [<-Z78,hd]
     generalize hu':r.drop (tokOf r).2.1.length=u at *
     have hul:u.length=r.length-(tokOf r).2.1.length:=by rw [<-hu',Z15]
     have hsl:=Wo false u
     have hbt:=lex_between (s:=u) (by omega)
     have hd2:s.drop (s.length-(skp false u).length)=skp false u:=by
      have hul2:u.length=s.length-(s.length-r.length+(tokOf r).2.1.length):=by rw [<-hu,Z15]
      calc s.drop (s.length-(skp false u).length)=(s.drop (s.length-r.length+(tokOf r).2.1.length)).drop (u.length-(skp false u).length):=by rw [Z78];congr 1;omega
       _=u.drop (u.length-(skp false u).length):=by rw [hu]
       _=skp false u:=Qcq false u
     obtain ⟨x,hx,hx2⟩:=ih (skp false u) (acc++[[.int .i64 (tokOf r).1,.str (tokOf r).2.1,.int .i64 ((s.length:Int)-r.length)]]) (by omega) (by omega) hd2 (by simp;omega)
     refine ⟨x,.step (λrec=>?_) hx,?_⟩
     ·unfold z96.l0P
      simp only
      rw [bif_t (by omega),if_pos (by omega),htok]
      simp only [Zb]
      rw [Zt he]
      simp only [Zn,Zc]
      rw [if_pos (by simp;omega)]
      have ew:wr .i64 ((s.length:Int)-r.length+(tokOf r).2.1.length)=((s.length-r.length+(tokOf r).2.1.length:Nat):Int):=by
       rw [Qh (by omega) (by omega)];omega
      rw [ew,if_pos (by omega),Zi,hu,hbt]
      simp only [Zb]
      rw [Qh (by omega) (by omega)]
      congr 2
      omega
     ·rw [Qay hr he,hu']
      by_cases hm:(lx s.length (skp false u)).2.2=0
      ·rw [if_pos hm] at hx2 ⊢
       rw [if_pos rfl,hx2]
       simp [Tk.v]
      ·rw [if_neg hm] at hx2 ⊢
       rw [if_neg hm]
       exact hx2
    ·refine ⟨.inr ([],(s.length:Int)-r.length,(tokOf r).2.2,acc),.done λrec=>?_,?_⟩
     ·unfold z96.l0P
      simp only
      rw [bif_t (by omega),if_pos (by omega),htok]
      simp only [Zb]
      rw [Zf he];rfl
     ·rw [Qbl hr he,if_neg he];exact ⟨acc,rfl⟩
  intro n hn
  exact key n r acc hn hrs hd hacc
theorem lex_Lex (s:J1):z96.F s=some (if 1048576<s.length then ([],0,7) else ((lexOf s).1.map Tk.v,(lexOf s).2.1,(lexOf s).2.2)):=by
 unfold z96.F
 by_cases hs:1048576<s.length
 ·rw [bif_t (by omega),if_pos hs]
 ·rw [Qc (by omega),if_neg hs,lex_between (by omega)]
  simp only [Zb]
  have hsl:=Wo false s
  have hsuf:=Qcq false s
  obtain ⟨x,h1,h2⟩:=Qqu (s:=s) (by omega) s.length (skp false s) [] (by omega) (by omega) hsuf (by simp;omega)
  have e:((s.length-(skp false s).length:Nat):Int)=(s.length:Int)-(skp false s).length:=by omega
  rw [e,h1]
  unfold lexOf
  by_cases hm:(lx s.length (skp false s)).2.2=0
  ·rw [if_pos hm] at h2
   rw [h2,hm]
   have:(lx s.length (skp false s)).2.1=0:=by
    have key:∀(n:Nat) (r:J1),r.length<=n->(lx s.length r).2.2=0->(lx s.length r).2.1=0:=by
     intro n r _ h
     by_cases hr:r=[]
     ·subst hr;rw [lx_nil]
     ·by_cases he:(tokOf r).2.2=0
      ·rw [Qay hr he] at h ⊢
       split at h
       ·rename_i h3;rw [if_pos h3]
       ·rename_i h3;exact (h3 h).elim
      ·rw [Qbl hr he] at h;exact (he h).elim
    exact key _ _ (Z3 _) hm
   rw [this];simp
  ·rw [if_neg hm] at h2
   obtain ⟨a,rfl⟩:=h2
   have:(lx s.length (skp false s)).1=[]:=by
    by_cases hr:skp false s=[]
    ·rw [hr,lx_nil] at hm;exact (hm rfl).elim
    ·by_cases he:(tokOf (skp false s)).2.2=0
     ·rw [Qay hr he] at hm ⊢
      split
      ·rename_i h3;rw [if_pos h3] at hm;exact (hm rfl).elim
      ·rfl
     ·rw [Qbl hr he]
   rw [this];rfl
theorem Qiv (b:UInt8):z142.F (b.toNat:Int)=some (ltr b):=by
 unfold z142.F ltr
 by_cases h:(b.toNat:Int)>=97
 ·rw [bif_t h,Zt (show 97<=b.toNat by omega),Z22];congr 1;exact decide_eq_decide.2 (by omega)
 ·rw [Qc h,Zf (show ¬97<=b.toNat by omega)];rfl
theorem Qhi (b:UInt8):z143.F (b.toNat:Int)=some (dgt b):=by
 unfold z143.F dgt
 by_cases h:(b.toNat:Int)>=48
 ·rw [bif_t h,Zt (show 48<=b.toNat by omega),Z22];congr 1;exact decide_eq_decide.2 (by omega)
 ·rw [Qc h,Zf (show ¬48<=b.toNat by omega)];rfl
theorem Qhw {s:J1} (hs:s.length<=1000000000):∀(f i:Nat),i+f=s.length->∃j:Nat,Runs (λrec x=>z141.l2P s rec some x) (i:Int) (j:Int)/\i<=j/\j<=s.length/\skp true (s.drop i)=skp false (s.drop j)/\(i<s.length->(s.getD i 0).toNat≠10->i<j)
 |
  0,i,h=>by
  refine ⟨(i:Nat),.done λrec=>?_,Z3 _,by omega,?_,by omega⟩
  ·unfold z141.l2P
   rw [Qc (by omega)]
  ·rw [Z34 (by omega)];rfl
 |
  f+1,i,h=>by
  have hi:i<s.length:=by omega
  by_cases h10:(s.getD i 0).toNat=10
  ·refine ⟨(i:Nat),.done λrec=>?_,Z3 _,by omega,?_,λ_ h=>(h h10).elim⟩
   ·unfold z141.l2P
    rw [bif_t (by omega),if_pos (by omega),Zi,Zt (show ((s.getD i 0).toNat:Int)=10 by omega)];rfl
   ·rw [Qal hi,skp,if_pos h10,skp,if_neg (by omega),if_pos (by unfold bln;rw [Zt h10];simp)]
  ·obtain ⟨j,r,h1,h2,h3,_⟩:=Qhw hs f (i+1) (by omega)
   refine ⟨j,.step (λrec=>?_) r,by omega,h2,?_,λ_ _=>by omega⟩
   ·unfold z141.l2P
    rw [bif_t (by omega),if_pos (by omega),Zi,Zf (show ¬((s.getD i 0).toNat:Int)=10 by omega),Qh (by omega) (by omega)];rfl
   ·rw [Qal hi,skp,if_neg h10,h3]
def isum:Int⊕Int->Int | .inl a=>a | .inr a=>a
theorem Qf9 {s:J1} (hs:s.length<=1000000000):∀(f i:Nat),s.length-i<=f->i<=s.length->∃x,Runs (λrec x=>z141.l0P s rec some x) (i:Int) x/\isum x=((s.length-(skp false (s.drop i)).length:Nat):Int)
 |
  f,i,h,hi=>by
  by_cases he:i=s.length
  ·refine ⟨.inl (i:Int),.done λrec=>?_,?_⟩
   ·unfold z141.l0P
    rw [Qc (by omega)]
   ·rw [Z34 (by omega)];show (i:Int)=_;simp [skp,he]
  have hi:i<s.length:=by omega
  match f,h with
  |0,h=>omega
  |
   f+1,h=>
   have hd:=Qal hi
   have hc:(0:Int)<=(i:Int)/\(i:Int)<(s.length:Int):=by omega
   have ew:wr .i64 ((i:Int)+1)=((i+1:Nat):Int):=by rw [Qh (by omega) (by omega)];rfl
   generalize hb:s.getD i 0=b at *
   by_cases h35:b.toNat=35
   ·obtain ⟨j,r,h1,h2,h3,h4⟩:=Qhw hs (s.length-i) i (by omega)
    have h5:=h4 hi (by rw [hb];omega)
    obtain ⟨x,rx,hx⟩:=Qf9 hs f j (by omega) h2
    refine ⟨x,.step (λrec=>?_) rx,?_⟩
    ·have e:z141.l2 s (i:Int)=some (j:Int):=r.lfp
     unfold z141.l0P
     rw [bif_t (by omega),if_pos hc,Zi,hb,bif_t (by omega),e];rfl
    ·rw [hx,<-h3,hd]
     conv=>rhs;rw [skp]
     rw [if_pos h35]
     conv=>lhs;rw [skp]
     rw [if_neg (by omega)]
   ·by_cases hbl:bln b=true
    ·obtain ⟨x,rx,hx⟩:=Qf9 hs f (i+1) (by omega) (by omega)
     refine ⟨x,.step (λrec=>?_) rx,?_⟩
     ·unfold z141.l0P
      rw [bif_t (by omega),if_pos hc,Zi,hb,Qc (by omega)]
      simp only [if_pos hc,ew]
      simp only [bln,Z56,decide_eq_true_eq] at hbl
      rcases hbl with ((hbl|hbl)|hbl)|hbl<;>simp [hbl]
     ·rw [hx,hd]
      conv=>rhs;rw [skp]
      rw [if_neg h35,if_pos hbl]
    ·refine ⟨.inr (i:Int),.done λrec=>?_,?_⟩
     ·unfold z141.l0P
      rw [bif_t (by omega),if_pos hc,Zi,hb,Qc (by omega)]
      simp only [if_pos hc,ew]
      simp only [bln,Z56,decide_eq_true_eq,not_or] at hbl
      obtain ⟨⟨⟨h1,h2⟩,h3⟩,h4⟩:=hbl
      rw [Zf (show ¬(b.toNat:Int)=32 by omega),Zf (show ¬(b.toNat:Int)=9 by omega),Zf (show ¬(b.toNat:Int)=10 by omega),Zf (show ¬(b.toNat:Int)=13 by omega)];rfl
     ·have:skp false (b::s.drop (i+1))=b::s.drop (i+1):=by rw [skp,if_neg h35,if_neg hbl]
      rw [hd,this,<-hd,Z15];show (i:Int)=_;omega
theorem Qmy {s:J1} (hs:s.length<=1000000000) {i:Nat} (hi:i<=s.length):z141.F s (i:Int)=some ((s.length-(skp false (s.drop i)).length:Nat):Int):=by
 obtain ⟨x,r,hx⟩:=Qf9 hs s.length i (by omega) hi
 have e:z141.l0 s (i:Int)=some x:=r.lfp
 unfold z141.F
 rw [e,<-hx]
 cases x<;>rfl
theorem Qjc {s:J1} (hs:s.length<=1000000000) {k:Int} {p:UInt8->Bool} (hk:(k=0/\p=wrd)\/(k=1/\p=nmr)):∀(f i:Nat),i+f=s.length->∃x,Runs (λrec x=>z144.l0P s k rec some x) (i:Int) x/\isum x=((i+((s.drop i).takeWhile p).length:Nat):Int)
 |
  0,i,h=>by
  refine ⟨.inl (i:Int),.done λrec=>?_,?_⟩
  ·unfold z144.l0P
   rw [Qc (by omega)]
  ·rw [Z34 (by omega)];rfl
 |
  f+1,i,h=>by
  have hi:i<s.length:=by omega
  have hd:=Qal hi
  have hc:(0:Int)<=(i:Int)/\(i:Int)<(s.length:Int):=by omega
  have ew:wr .i64 ((i:Int)+1)=((i+1:Nat):Int):=by rw [Qh (by omega) (by omega)];rfl
  have hst:∀rec:Int->Option (Int⊕Int),z144.l0P s k rec some (i:Int)=if p (s.getD i 0) then rec ((i+1:Nat):Int) else some (.inr (i:Int)):=λrec=>by
   unfold z144.l0P
   rw [bif_t (by omega),if_pos hc,Zi]
   generalize s.getD i 0=b
   rw [Qiv,Zb,if_pos hc,Qhi,Zb]
   simp only [if_pos hc,ew]
   rcases hk with ⟨rfl,rfl⟩|⟨rfl,rfl⟩
   ·unfold wrd
    by_cases h45:b.toNat=45
    ·have h45':(b.toNat:Int)=45:=by omega
     cases ltr b<;>cases dgt b<;>simp [h45,h45']
    ·have h45':¬(b.toNat:Int)=45:=by omega
     cases ltr b<;>cases dgt b<;>simp [h45,h45']
   ·unfold nmr
    by_cases h45:b.toNat=45
    ·have h45':(b.toNat:Int)=45:=by omega
     cases ltr b<;>cases dgt b<;>simp [h45,h45']
    ·have h45':¬(b.toNat:Int)=45:=by omega
     by_cases h46:b.toNat=46
     ·have h46':(b.toNat:Int)=46:=by omega
      cases ltr b<;>cases dgt b<;>simp [h46,h46']
     ·have h46':¬(b.toNat:Int)=46:=by omega
      cases ltr b<;>cases dgt b<;>simp [h45,h45',h46,h46']
  cases hp:p (s.getD i 0) with
  |
   true=>
   obtain ⟨x,r,hx⟩:=Qjc hs hk f (i+1) (by omega)
   refine ⟨x,.step (λrec=>by rw [hst,hp];rfl) r,?_⟩
   rw [hx,hd,List.takeWhile_cons_of_pos hp,Z6];omega
  |
   false=>
   refine ⟨.inr (i:Int),.done λrec=>by rw [hst,hp];rfl,?_⟩
   rw [hd,List.takeWhile_cons_of_neg (by rw [hp];simp)];rfl
theorem Qmz {s:J1} (hs:s.length<=1000000000) {k:Int} {p:UInt8->Bool} (hk:(k=0/\p=wrd)\/(k=1/\p=nmr)) {i:Nat} (hi:i<=s.length):z144.F s (i:Int) k=some ((i+((s.drop i).takeWhile p).length:Nat):Int):=by
 obtain ⟨x,r,hx⟩:=Qjc hs hk (s.length-i) i (by omega)
 have e:z144.l0 s k (i:Int)=some x:=r.lfp
 unfold z144.F
 rw [e,<-hx]
 cases x<;>rfl
theorem dated8_loop {s:J1} (hl:s.length=10):∀(f i:Nat),i+f=10->(Runs (λrec x=>z145.l0P s rec some x) (i:Int) (.inr false)/\∃j,i<=j/\j<10/\okD s j=false)\/(Runs (λrec x=>z145.l0P s rec some x) (i:Int) (.inl 10)/\∀j,i<=j->j<10->okD s j=true)
 |
  0,i,h=>by
  refine .inr ⟨.done λrec=>?_,λj h1 h2=>by omega⟩
  unfold z145.l0P
  rw [Qc (by omega),show (i:Int)=10 by omega]
 |
  f+1,i,h=>by
  have hc:(0:Int)<=(i:Int)/\(i:Int)<(s.length:Int):=by omega
  have ew:wr .i64 ((i:Int)+1)=((i+1:Nat):Int):=by rw [Qh (by omega) (by omega)];rfl
  have hst:∀rec:Int->Option (Int⊕Bool),z145.l0P s rec some (i:Int)=if okD s i then rec ((i+1:Nat):Int) else some (.inr false):=λrec=>by
   unfold z145.l0P okD
   rw [bif_t (by omega),if_pos hc,Zi]
   generalize s.getD i 0=b
   rw [Qhi,Zb]
   simp only [if_pos hc,ew]
   have e45:decide ((b.toNat:Int)=45)=decide (b.toNat=45):=decide_eq_decide.2 (by omega)
   rw [e45]
   by_cases h4:i=4
   ·subst h4
    rw [Zt (show (((4:Nat):Int))=4 from rfl)]
    simp only [if_pos (show (4:Nat)=4\/(4:Nat)=7 from .inl rfl)]
    cases decide (b.toNat=45)<;>rfl
   ·rw [Zf (show ¬(i:Int)=4 by omega)]
    by_cases h7:i=7
    ·subst h7
     rw [Zt (show (((7:Nat):Int))=7 from rfl)]
     simp only [if_pos (show (7:Nat)=4\/(7:Nat)=7 from .inr rfl)]
     cases decide (b.toNat=45)<;>rfl
    ·rw [Zf (show ¬(i:Int)=7 by omega)]
     simp only [if_neg (show ¬(i=4\/i=7) by omega)]
     cases dgt b<;>rfl
  cases ho:okD s i with
  |false=>exact .inl ⟨.done λrec=>by rw [hst,ho];rfl,i,Z3 _,by omega,ho⟩
  |
   true=>
   rcases dated8_loop hl f (i+1) (by omega) with ⟨r,j,h1,h2,h3⟩|⟨r,hall⟩
   ·exact .inl ⟨.step (λrec=>by rw [hst,ho];rfl) r,j,by omega,h2,h3⟩
   ·refine .inr ⟨.step (λrec=>by rw [hst,ho];rfl) r,λj h1 h2=>?_⟩
    by_cases e:j=i
    ·subst e;exact ho
    ·exact hall j (by omega) h2
theorem Qnl (s:J1):z145.F s=some (dtd s):=by
 unfold z145.F dtd
 by_cases hl:s.length=10
 ·rw [Zt (show (s.length:Int)=10 by omega),Zt hl]
  simp only [Zn,Zc,Z22]
  rcases dated8_loop hl 10 0 rfl with ⟨r,j,_,h2,h3⟩|⟨r,hall⟩
  ·have e:z145.l0 s 0=some (.inr false):=r.lfp
   rw [e]
   simp only [Zb]
   congr 1;symm
   rw [Bool.eq_false_iff]
   intro h
   have:=Z13.1 h j (by simpa using h2)
   rw [show okD s j=true from this] at h3;simp at h3
  ·have e:z145.l0 s 0=some (.inl 10):=r.lfp
   rw [e]
   simp only [Zb]
   congr 1;symm
   exact Z13.2 λj hj=>hall j (Z54 _) (by simpa using hj)
 ·rw [Zf (show ¬(s.length:Int)=10 by omega),Zf hl];rfl
theorem Qur {s:J1} (hs:s.length<=4096) {r:J1} (hr:r≠[]) {a:Nat} (ha:a+r.length=s.length) (hd:s.drop a=r) (acc:J2) (hacc:acc.length<=4096) {R:Type}
  (rec:(Int×J2)->Option ((Int×J2)⊕(Int×Int×J2))) :
  z146.l0P s rec some ((a:Int),acc)=if (tokOf r).2.2=0 then rec (((s.length-(skp false (r.drop (tokOf r).2.1.length)).length:Nat):Int),acc++[Tk.v ⟨(tokOf r).1,(tokOf r).2.1,(a:Int)⟩]) else some (.inr ((a:Int),(tokOf r).2.2,acc)):=by
 have hpos:=Z19.2 hr
 have hc:(0:Int)<=(a:Int)/\(a:Int)<(s.length:Int):=by omega
 have hg:s.getD a 0=r.getD 0 0:=by
  rw [<-hd,Zl,Zl,List.getElem?_drop,Z69]
 have fin:∀(k:Int) (T:J1),T.length<=r.length->(if (acc.length+([[.int .i64 k,.str T,.int .i64 (a:Int)]]:J2).length)*32<=140737488355328 then (z141.F s (wr .i64 ((a:Int)+(T.length:Int)))).bind λr17=>rec (r17,acc++([[.int .i64 k,.str T,.int .i64 (a:Int)]]:J2)) else none)=rec (((s.length-(skp false (r.drop T.length)).length:Nat):Int),acc++[Tk.v ⟨k,T,(a:Int)⟩]):=λk T hT=>by
  have e:wr .i64 ((a:Int)+(T.length:Int))=((a+T.length:Nat):Int):=by rw [Qh (by omega) (by omega)];rfl
  rw [if_pos (by simp;omega),e,Qmy (by omega) (by omega),<-hd,Z78];rfl
 have len1:(r.takeWhile wrd).length<=r.length:=(List.takeWhile_prefix _).length_le
 have len2:(r.takeWhile nmr).length<=r.length:=(List.takeWhile_prefix _).length_le
 have w1:wr .i64 ((a:Int)+1)=((a+1:Nat):Int):=by rw [Qh (by omega) (by omega)];rfl
 unfold z146.l0P
 simp only
 rw [bif_t (by omega),if_pos hc,Zi,hg]
 unfold tokOf
 generalize r.getD 0 0=b
 rw [Qiv,Zb,Qhi,Zb]
 cases hl:ltr b with
 |
  true=>
  simp only [Zd,if_true]
  rw [Qmz (by omega) (.inl ⟨rfl,rfl⟩) (by omega),hd,Zb,if_pos (by omega)]
  simp only [Zi,Nat.add_sub_cancel_left,Qdl]
  exact fin _ _ len1
 |
  false=>
  simp only [Zc,Z10,if_false]
  have num:∀(X:Option ((Int×J2)⊕(Int×Int×J2))),X=((z144.F s (a:Int) (1:Int)).bind λr1011=>(if (0:Int)<=(a:Int)/\(a:Int)<=r1011/\r1011<=((s).length:Int) then ((z145.F (r.take ((r1011).toNat-a))).bind λr1012=>(bif r1012 then (if (acc.length+(([[(.int .i64 (2:Int)),(.str (r.take ((r1011).toNat-a))),(.int .i64 (a:Int))]]:J2)).length)*32<=140737488355328 then ((z141.F s (wr .i64 ((a:Int)+((r.take ((r1011).toNat-a)).length:Int)))).bind λr1018=>(rec (r1018,(acc++([[(.int .i64 (2:Int)),(.str (r.take ((r1011).toNat-a))),(.int .i64 (a:Int))]]:J2))))) else none) else ((z125.F (r.take ((r1011).toNat-a))).bind λr1013=>(bif (!decide (r1013.2.2.2=(0:Int))) then (some (.inr ((a:Int),(5:Int),acc))) else (bif (decide (((r.take ((r1011).toNat-a)).length:Int)>(4096:Int))) then (some (.inr ((a:Int),(5:Int),acc))) else (if (acc.length+(([[(.int .i64 (1:Int)),(.str (r.take ((r1011).toNat-a))),(.int .i64 (a:Int))]]:J2)).length)*32<=140737488355328 then ((z141.F s (wr .i64 ((a:Int)+((r.take ((r1011).toNat-a)).length:Int)))).bind λr1019=>(rec (r1019,(acc++([[(.int .i64 (1:Int)),(.str (r.take ((r1011).toNat-a))),(.int .i64 (a:Int))]]:J2))))) else none)))))) else none)) ->
    X=if (if dtd (r.takeWhile nmr)=true then ((2:Int),r.takeWhile nmr,(0:Int)) else if (mDec (r.takeWhile nmr)).2.2=0 then (1,r.takeWhile nmr,0) else (0,[],5)).2.2=0 then rec (((s.length-(skp false (r.drop (if dtd (r.takeWhile nmr)=true then ((2:Int),r.takeWhile nmr,(0:Int)) else if (mDec (r.takeWhile nmr)).2.2=0 then (1,r.takeWhile nmr,0) else (0,[],5)).2.1.length)).length:Nat):Int),acc++[Tk.v ⟨(if dtd (r.takeWhile nmr)=true then ((2:Int),r.takeWhile nmr,(0:Int)) else if (mDec (r.takeWhile nmr)).2.2=0 then (1,r.takeWhile nmr,0) else (0,[],5)).1,(if dtd (r.takeWhile nmr)=true then ((2:Int),r.takeWhile nmr,(0:Int)) else if (mDec (r.takeWhile nmr)).2.2=0 then (1,r.takeWhile nmr,0) else (0,[],5)).2.1,(a:Int)⟩]) else some (.inr ((a:Int),(if dtd (r.takeWhile nmr)=true then ((2:Int),r.takeWhile nmr,(0:Int)) else if (mDec (r.takeWhile nmr)).2.2=0 then (1,r.takeWhile nmr,0) else (0,[],5)).2.2,acc)):=λX hX=>by
   rw [hX,Qmz (by omega) (.inr ⟨rfl,rfl⟩) (by omega),hd,Zb,if_pos (by omega)]
   simp only [Zi,Nat.add_sub_cancel_left,Qdl]
   rw [Qnl,Zb]
   cases hdt:dtd (r.takeWhile nmr) with
   |true=>simp only [Zd,if_true];exact fin _ _ len2
   |
    false=>
    simp only [Zc,Z10,if_false]
    rw [Qfu (by omega),Zb]
    by_cases he:(mDec (r.takeWhile nmr)).2.2=0
    ·rw [if_pos he,show (decD (mDec (r.takeWhile nmr))).2.2.2=0 from he]
     simp only [decide_true,Zn,Zc,if_true]
     rw [Qc (by omega)]
     exact fin _ _ len2
    ·rw [if_neg he,Zf (show ¬(decD (mDec (r.takeWhile nmr))).2.2.2=0 from he)]
     rfl
  cases hg2:dgt b with
  |
   true=>
   simp only [Zd,Z82,if_true]
   refine num _ ?_
   rw [hd]
  |
   false=>
   simp only [Zc,Z77]
   by_cases h45:b.toNat=45
   ·rw [Zt (show (b.toNat:Int)=45 by omega),Zt h45]
    simp only [Zd,if_true]
    refine num _ ?_
    rw [hd]
   ·rw [Zf (show ¬(b.toNat:Int)=45 by omega),Zf h45]
    simp only [Zc,Z10,if_false]
    have t1:(s.drop a).take ((wr .i64 ((a:Int)+1)).toNat-a)=r.take 1:=by rw [w1,hd,Zi,Nat.add_sub_cancel_left]
    have c2:(0:Int)<=(a:Int)/\(a:Int)<=wr .i64 ((a:Int)+1)/\wr .i64 ((a:Int)+1)<=(s.length:Int):=by rw [w1];omega
    simp only [t1,if_pos c2,fin _ _ (show (r.take 1).length<=r.length by rw [Z16];omega)]
    have es:sgn b=(decide ((b.toNat:Int)=123)||decide ((b.toNat:Int)=125)||decide ((b.toNat:Int)=61)||decide ((b.toNat:Int)=59)||decide ((b.toNat:Int)=44)):=by
     rw [Z49];simp only [sgn,Z56,decide_eq_true_eq];omega
    rw [es]
    cases decide ((b.toNat:Int)=123)<;>cases decide ((b.toNat:Int)=125)<;>cases decide ((b.toNat:Int)=61)<;>cases decide ((b.toNat:Int)=59)<;>cases decide ((b.toNat:Int)=44)<;>rfl
theorem Qnz {s:J1} (hs:s.length<=4096):∀(n:Nat) (r:J1) (acc:J2),r.length<=n->r.length<=s.length->s.drop (s.length-r.length)=r->acc.length+r.length<=s.length ->
  ∃x,Runs (λrec y=>z146.l0P s rec some y) (((s.length-r.length:Nat):Int),acc) x/\(if (lx s.length r).2.2=0 then x=.inl ((s.length:Int),acc++(lx s.length r).1.map Tk.v) else ∃a,x=.inr ((lx s.length r).2.1,(lx s.length r).2.2,a)):=by
 intro n
 induction n with
 |
  zero=>
  intro r acc hn hrs hd hacc
  have:r=[]:=Z7 (by omega)
  subst this
  refine ⟨.inl ((s.length:Int),acc),.done λrec=>?_,?_⟩
  ·unfold z146.l0P
   simp only
   rw [Qc (by simp)];simp
  ·rw [lx_nil];simp
 |
  succ n ih=>
  intro r acc hn hrs hd hacc
  by_cases hr:r=[]
  ·subst hr
   refine ⟨.inl ((s.length:Int),acc),.done λrec=>?_,?_⟩
   ·unfold z146.l0P
    simp only
    rw [Qc (by simp)];simp
   ·rw [lx_nil];simp
  have hpos:=Z19.2 hr
  have hst:=λrec=>Qur (R:=Unit) (s:=s) hs (r:=r) hr (a:=s.length-r.length) (by omega) hd acc (by omega) rec
  have ec:((s.length-r.length:Nat):Int)=(s.length:Int)-r.length:=by omega
  by_cases he:(tokOf r).2.2=0
  ·obtain ⟨l1,l2⟩:=Qb7 hr he
   have hu:s.drop (s.length-r.length+(tokOf r).2.1.length)=r.drop (tokOf r).2.1.length:=by rw [<-Z78,hd]
   generalize hu':r.drop (tokOf r).2.1.length=u at *
   have hul:u.length=r.length-(tokOf r).2.1.length:=by rw [<-hu',Z15]
   have hsl:=Wo false u
   have hd2:s.drop (s.length-(skp false u).length)=skp false u:=by
    have hul2:u.length=s.length-(s.length-r.length+(tokOf r).2.1.length):=by rw [<-hu,Z15]
    calc s.drop (s.length-(skp false u).length)=(s.drop (s.length-r.length+(tokOf r).2.1.length)).drop (u.length-(skp false u).length):=by rw [Z78];congr 1;omega
     _=u.drop (u.length-(skp false u).length):=by rw [hu]
     _=skp false u:=Qcq false u
   obtain ⟨x,hx,hx2⟩:=ih (skp false u) (acc++[Tk.v ⟨(tokOf r).1,(tokOf r).2.1,((s.length-r.length:Nat):Int)⟩]) (by omega) (by omega) hd2 (by simp;omega)
   refine ⟨x,.step (λrec=>?_) hx,?_⟩
   ·rw [hst,if_pos he]
   ·rw [Qay hr he,hu']
    by_cases hm:(lx s.length (skp false u)).2.2=0
    ·rw [if_pos hm] at hx2 ⊢
     rw [if_pos rfl,hx2,ec]
     simp
    ·rw [if_neg hm] at hx2 ⊢
     rw [if_neg hm]
     exact hx2
  ·refine ⟨.inr (((s.length-r.length:Nat):Int),(tokOf r).2.2,acc),.done λrec=>by rw [hst,if_neg he],?_⟩
   rw [Qbl hr he,if_neg he];exact ⟨acc,by rw [ec]⟩
theorem Qpy (r:J1):((tokOf r).1=2->(tokOf r).2.2=0->dtd (tokOf r).2.1=true)/\((tokOf r).1=1->(mDec (tokOf r).2.1).2.2=0):=by
 unfold tokOf
 split
 ·exact ⟨λh=>by simp at h,λh=>by simp at h⟩
 ·split
  ·split
   ·rename_i h;exact ⟨λ_ _=>h,λh=>by simp at h⟩
   ·split
    ·rename_i h;exact ⟨λh=>by simp at h,λ_=>h⟩
    ·exact ⟨λh=>by simp at h,λh=>by simp at h⟩
  ·split
   ·exact ⟨λh=>by simp at h,λh=>by simp at h⟩
   ·exact ⟨λh=>by simp at h,λh=>by simp at h⟩
theorem Qtp (N:Nat):∀(n:Nat) (r:J1),r.length<=n->r.length<=N->(lx N r).1.length<=r.length/\∀t∈(lx N r).1,(t.k=2->dtd t.s=true)/\t.s.length<=r.length/\0<=t.p/\t.p<=N:=by
 intro n
 induction n with
 |
  zero=>
  intro r hn _
  have:r=[]:=Z7 (by omega)
  subst this
  rw [lx_nil];exact ⟨Z3 _,λt h=>by simp at h⟩
 |
  succ n ih=>
  intro r hn hN
  by_cases hr:r=[]
  ·subst hr;rw [lx_nil];exact ⟨Z3 _,λt h=>by simp at h⟩
  by_cases he:(tokOf r).2.2=0
  ·obtain ⟨l1,l2⟩:=Qb7 hr he
   have h4:=Wo false (r.drop (tokOf r).2.1.length)
   rw [Z15] at h4
   rw [Qay hr he]
   obtain ⟨i1,i2⟩:=ih (skp false (r.drop (tokOf r).2.1.length)) (by omega) (by omega)
   split
   ·refine ⟨by simp only [Z6];omega,λt ht=>?_⟩
    rcases Z86.1 ht with rfl|ht
    ·exact ⟨λh=>(Qpy r).1 h he,l2,by show (0:Int)<=(N:Int)-r.length;omega,by show (N:Int)-r.length<=N;omega⟩
    ·obtain ⟨j1,j2,j3⟩:=i2 t ht
     exact ⟨j1,by omega,j3⟩
   ·exact ⟨Z54 _,λt h=>by simp at h⟩
  ·rw [Qbl hr he];exact ⟨Z54 _,λt h=>by simp at h⟩
abbrev D9:=Int×Int×Int×Int
def mDate (s:J1):D9:=
 if right (tv 0 (s.take 4)) (tv 0 ((s.drop 5).take 2)) (tv 0 (s.drop 8)) then (tv 0 (s.take 4),tv 0 ((s.drop 5).take 2),tv 0 (s.drop 8),0) else (0,0,0,11)
theorem Qka {s:J1} (hl:s.length<=6) (hs:∀i,i<s.length->dgt (s.getD i 0)=true):∀(f i:Nat) (n:Int),i+f=s.length->0<=n->n<(10^i:Nat)->Runs (λrec x=>z81.l0P s (s.length:Int) rec some x) (n,(i:Int)) (.inl (tv n (s.drop i),(s.length:Int)))
 |
  0,i,n,h,h1,h2=>by
  refine .done λrec=>?_
  unfold z81.l0P
  simp only
  rw [Qc (by omega),Z34 (by omega),show (i:Int)=(s.length:Int) by omega];rfl
 |
  f+1,i,n,h,h1,h2=>by
  have hi:i<s.length:=by omega
  have hd:=hs i hi
  have hb:48<=(s.getD i 0).toNat/\(s.getD i 0).toNat<=57:=by simpa [dgt] using hd
  have hp:(10^(i+1):Nat)=10*10^i:=by rw [Z35];omega
  have hp2:(10^i:Nat)<=10^6:=Z53 (by decide) (by omega)
  have hp3:(10^6:Nat)=1000000:=by decide
  rw [Qal hi,tv]
  refine .step (λrec=>?_) (Qka hl hs f (i+1) (10*n+((s.getD i 0).toNat:Int)-48) (by omega) (by omega) (by rw [hp];omega))
  unfold z81.l0P
  simp only
  have hc:(0:Int)<=(i:Int)/\(i:Int)<(s.length:Int):=by omega
  rw [bif_t (by omega),if_pos hc,Zi,Qc (by omega),if_pos hc,Qc (by omega),if_pos hc]
  rw [Qa3 (by omega) (by omega),Qh (n:=((s.getD i 0).toNat:Int)-48) (by omega) (by omega),Qh (n:=10*n) (by omega) (by omega),Qh (by omega) (by omega),Qh (by omega) (by omega)]
  congr 2
  omega
theorem date_number {s:J1} (hl:s.length<=6) (hs:∀i,i<s.length->dgt (s.getD i 0)=true):z81.F s=some (tv 0 s,true):=by
 have e:z81.l0 s (s.length:Int) (0,0)=some (.inl (tv 0 s,(s.length:Int))):=(Qka hl hs s.length 0 0 (by omega) (by omega) (by simp)).lfp
 unfold z81.F
 rw [e];rfl
theorem Qa6 {s:J1} (h:dtd s=true):s.length=10/\∀i,i<10->okD s i=true:=by
 unfold dtd at h
 rw [Z5,decide_eq_true_eq] at h
 exact ⟨h.1,λi hi=>Z13.1 h.2 i (by simpa using hi)⟩
theorem Qci {s:J1} (h:dtd s=true) {i:Nat} (hi:i<10) (h4:i≠4) (h7:i≠7):dgt (s.getD i 0)=true:=by
 have:=(Qa6 h).2 i hi
 unfold okD at this
 rwa [if_neg (by omega)] at this
theorem Qg6 {s:J1} (h:dtd s=true) {i:Nat} (hi:i=4\/i=7):(s.getD i 0).toNat=45:=by
 have:=(Qa6 h).2 i (by omega)
 unfold okD at this
 rw [if_pos hi] at this
 simpa using this
theorem date_Parse {s:J1} (h:dtd s=true):z82.F s=some (mDate s):=by
 obtain ⟨hl,_⟩:=Qa6 h
 have g1:∀i,i<(s.take 4).length->dgt ((s.take 4).getD i 0)=true:=λi hi=>by
  rw [Z16] at hi
  have:(s.take 4).getD i 0=s.getD i 0:=by
   rw [Zl,Zl,Z66];rw [if_pos (by omega)]
  rw [this];exact Qci h (by omega) (by omega) (by omega)
 have g2:∀i,i<((s.drop 5).take 2).length->dgt (((s.drop 5).take 2).getD i 0)=true:=λi hi=>by
  rw [Z16] at hi
  have:((s.drop 5).take 2).getD i 0=s.getD (5+i) 0:=by
   rw [Zl,Zl,Z66,if_pos (by omega),List.getElem?_drop]
  rw [this];exact Qci h (by omega) (by omega) (by omega)
 have g3:∀i,i<(s.drop 8).length->dgt ((s.drop 8).getD i 0)=true:=λi hi=>by
  rw [Z15] at hi
  have:(s.drop 8).getD i 0=s.getD (8+i) 0:=by
   rw [Zl,Zl,List.getElem?_drop]
  rw [this];exact Qci h (by omega) (by omega) (by omega)
 have n1:=date_number (s:=s.take 4) (by rw [Z16];omega) g1
 have n2:=date_number (s:=(s.drop 5).take 2) (by rw [Z16];omega) g2
 have n3:=date_number (s:=s.drop 8) (by rw [Z15];omega) g3
 unfold z82.F
 rw [Zt (show (s.length:Int)=10 by omega)]
 simp only [Zn,Zc]
 have h4:=Qg6 h (.inl rfl)
 have h7:=Qg6 h (.inr rfl)
 rw [if_pos (by omega),Zt (show ((s.getD 4 0).toNat:Int)=45 by omega)]
 simp only [Zn,Zc]
 rw [if_pos (by omega),Zt (show ((s.getD 7 0).toNat:Int)=45 by omega)]
 unfold z82.j1
 rw [if_pos (by omega),n1,Zb,if_pos (by omega),show (7:Nat)-5=2 from rfl,n2,Zb,if_pos (by omega),n3,Zb]
 simp only [Zn,Zc]
 unfold z82.j5 mDate
 rw [date_Check,Zb]
 split<;>rfl
theorem Jo {s:J1} (h:dtd s=true) {i:Nat} (hi:i<10) (h4:i≠4) (h7:i≠7) {p:Nat} {l:J0} (hp:p<l.length) (hl:l.length=3) (hv:0<=l.getD p 0/\l.getD p 0<100000) (rec:(Int×Int×J0)->Option ((Int×Int×J0)⊕(Int×J0))) :
  z102.l0P s rec some ((p:Int),(i:Int),l)=rec ((p:Int),((i+1:Nat):Int),l.set p (10*l.getD p 0+((s.getD i 0).toNat:Int)-48)):=by
 obtain ⟨hs,_⟩:=Qa6 h
 have hd:=Qci h hi h4 h7
 have hb:48<=(s.getD i 0).toNat/\(s.getD i 0).toNat<=57:=by simpa [dgt] using hd
 have hc:(0:Int)<=(i:Int)/\(i:Int)<(s.length:Int):=by omega
 have hcp:(0:Int)<=(p:Int)/\(p:Int)<(l.length:Int):=by omega
 unfold z102.l0P
 simp only
 rw [bif_t (by omega),Zf (show ¬(i:Int)=4 by omega),Zf (show ¬(i:Int)=7 by omega)]
 simp only [Zc,if_pos hc,if_pos hcp,Zi,if_pos hp]
 rw [Qc (by omega),Qc (by omega),Qh (n:=(i:Int)+1) (by omega) (by omega),Qh (n:=((s.getD i 0).toNat:Int)) (by omega) (by omega),Qh (n:=10*l.getD p 0) (by omega) (by omega),Qh (n:=10*l.getD p 0+((s.getD i 0).toNat:Int)) (by omega) (by omega),Qh (by omega) (by omega)]
 rfl
theorem Qli {s:J1} (h:dtd s=true) {i:Nat} (hi:i=4\/i=7) {p:Nat} {l:J0} (hp:p<3) (rec:(Int×Int×J0)->Option ((Int×Int×J0)⊕(Int×J0))) :
  z102.l0P s rec some ((p:Int),(i:Int),l)=rec (((p+1:Nat):Int),((i+1:Nat):Int),l):=by
 obtain ⟨hs,_⟩:=Qa6 h
 have hb:=Qg6 h hi
 have hc:(0:Int)<=(i:Int)/\(i:Int)<(s.length:Int):=by omega
 unfold z102.l0P
 simp only
 rw [bif_t (by omega)]
 simp only [if_pos hc,Zi]
 rw [Zt (show ((s.getD i 0).toNat:Int)=45 by omega),Qh (n:=(i:Int)+1) (by omega) (by omega),Qh (n:=(p:Int)+1) (by omega) (by omega)]
 rcases hi with rfl|rfl<;>rfl
theorem Qg7 {s:J1} (h:s.length=10):s=[s.getD 0 0,s.getD 1 0,s.getD 2 0,s.getD 3 0,s.getD 4 0,s.getD 5 0,s.getD 6 0,s.getD 7 0,s.getD 8 0,s.getD 9 0]:=by
 match s,h with
 |[a,b,c,d,e,f,g,h,i,j],_=>rfl
theorem Qt0 {s:J1} (h:dtd s=true):z102.F s=some (mDate s):=by
 obtain ⟨hl,_⟩:=Qa6 h
 have dg:∀i,i<10->i≠4->i≠7->48<=(s.getD i 0).toNat/\(s.getD i 0).toNat<=57:=λi a b c=>by have:=Qci h a b c;simpa [dgt] using this
 have b0:=dg 0 (by decide) (by decide) (by decide)
 have b1:=dg 1 (by decide) (by decide) (by decide)
 have b2:=dg 2 (by decide) (by decide) (by decide)
 have b3:=dg 3 (by decide) (by decide) (by decide)
 have b5:=dg 5 (by decide) (by decide) (by decide)
 have b8:=dg 8 (by decide) (by decide) (by decide)
 have e4:tv 0 (s.take 4)=tv 0 [s.getD 0 0,s.getD 1 0,s.getD 2 0,s.getD 3 0]:=(congrArg (λl=>tv 0 (l.take 4)) (Qg7 hl)).trans rfl
 have e2:tv 0 ((s.drop 5).take 2)=tv 0 [s.getD 5 0,s.getD 6 0]:=(congrArg (λl=>tv 0 ((l.drop 5).take 2)) (Qg7 hl)).trans rfl
 have e8:tv 0 (s.drop 8)=tv 0 [s.getD 8 0,s.getD 9 0]:=(congrArg (λl=>tv 0 (l.drop 8)) (Qg7 hl)).trans rfl
 have run:Runs (λrec x=>z102.l0P s rec some x) ((0:Int),(0:Int),[(0:Int),0,0]) (.inl ((2:Int),(10:Int),[tv 0 (s.take 4),tv 0 ((s.drop 5).take 2),tv 0 (s.drop 8)])):=by
  rw [e4,e2,e8]
  obtain ⟨v0,q0⟩:∃v,v=(0:Int):=⟨_,rfl⟩
  rw [show [(0:Int),0,0]=[v0,v0,v0] by rw [q0]]
  obtain ⟨v1,q1⟩:∃v,v=10*v0+((s.getD 0 0).toNat:Int)-48:=⟨_,rfl⟩
  refine .step (y:=((0:Int),(1:Int),[v1,v0,v0])) (λrec=>(Jo h (i:=0) (by decide) (by decide) (by decide) (p:=0) (l:=[v0,v0,v0]) (show 0<3 by decide) rfl (show 0<=v0/\v0<100000 by omega) rec).trans (by rw [q1];rfl)) ?_
  obtain ⟨v2,q2⟩:∃v,v=10*v1+((s.getD 1 0).toNat:Int)-48:=⟨_,rfl⟩
  refine .step (y:=((0:Int),(2:Int),[v2,v0,v0])) (λrec=>(Jo h (i:=1) (by decide) (by decide) (by decide) (p:=0) (l:=[v1,v0,v0]) (show 0<3 by decide) rfl (show 0<=v1/\v1<100000 by omega) rec).trans (by rw [q2];rfl)) ?_
  obtain ⟨v3,q3⟩:∃v,v=10*v2+((s.getD 2 0).toNat:Int)-48:=⟨_,rfl⟩
  refine .step (y:=((0:Int),(3:Int),[v3,v0,v0])) (λrec=>(Jo h (i:=2) (by decide) (by decide) (by decide) (p:=0) (l:=[v2,v0,v0]) (show 0<3 by decide) rfl (show 0<=v2/\v2<100000 by omega) rec).trans (by rw [q3];rfl)) ?_
  obtain ⟨v4,q4⟩:∃v,v=10*v3+((s.getD 3 0).toNat:Int)-48:=⟨_,rfl⟩
  refine .step (y:=((0:Int),(4:Int),[v4,v0,v0])) (λrec=>(Jo h (i:=3) (by decide) (by decide) (by decide) (p:=0) (l:=[v3,v0,v0]) (show 0<3 by decide) rfl (show 0<=v3/\v3<100000 by omega) rec).trans (by rw [q4];rfl)) ?_
  refine .step (y:=((1:Int),(5:Int),[v4,v0,v0])) (λrec=>Qli h (i:=4) (by decide) (p:=0) (by decide) rec) ?_
  obtain ⟨v5,q5⟩:∃v,v=10*v0+((s.getD 5 0).toNat:Int)-48:=⟨_,rfl⟩
  refine .step (y:=((1:Int),(6:Int),[v4,v5,v0])) (λrec=>(Jo h (i:=5) (by decide) (by decide) (by decide) (p:=1) (l:=[v4,v0,v0]) (show 1<3 by decide) rfl (show 0<=v0/\v0<100000 by omega) rec).trans (by rw [q5];rfl)) ?_
  obtain ⟨v6,q6⟩:∃v,v=10*v5+((s.getD 6 0).toNat:Int)-48:=⟨_,rfl⟩
  refine .step (y:=((1:Int),(7:Int),[v4,v6,v0])) (λrec=>(Jo h (i:=6) (by decide) (by decide) (by decide) (p:=1) (l:=[v4,v5,v0]) (show 1<3 by decide) rfl (show 0<=v5/\v5<100000 by omega) rec).trans (by rw [q6];rfl)) ?_
  refine .step (y:=((2:Int),(8:Int),[v4,v6,v0])) (λrec=>Qli h (i:=7) (by decide) (p:=1) (by decide) rec) ?_
  obtain ⟨v7,q7⟩:∃v,v=10*v0+((s.getD 8 0).toNat:Int)-48:=⟨_,rfl⟩
  refine .step (y:=((2:Int),(9:Int),[v4,v6,v7])) (λrec=>(Jo h (i:=8) (by decide) (by decide) (by decide) (p:=2) (l:=[v4,v6,v0]) (show 2<3 by decide) rfl (show 0<=v0/\v0<100000 by omega) rec).trans (by rw [q7];rfl)) ?_
  obtain ⟨v8,q8⟩:∃v,v=10*v7+((s.getD 9 0).toNat:Int)-48:=⟨_,rfl⟩
  refine .step (y:=((2:Int),(10:Int),[v4,v6,v8])) (λrec=>(Jo h (i:=9) (by decide) (by decide) (by decide) (p:=2) (l:=[v4,v6,v7]) (show 2<3 by decide) rfl (show 0<=v7/\v7<100000 by omega) rec).trans (by rw [q8];rfl)) ?_
  refine .done λrec=>?_
  have t4:tv 0 [s.getD 0 0,s.getD 1 0,s.getD 2 0,s.getD 3 0]=v4:=by rw [q4,q3,q2,q1,q0];rfl
  have t2:tv 0 [s.getD 5 0,s.getD 6 0]=v6:=by rw [q6,q5,q0];rfl
  have t8:tv 0 [s.getD 8 0,s.getD 9 0]=v8:=by rw [q8,q7,q0];rfl
  rw [t4,t2,t8]
  unfold z102.l0P
  simp only
  rw [Qc (by decide)]
 have e:z102.l0 s (0,0,[0,0,0])=some (.inl ((2:Int),(10:Int),[tv 0 (s.take 4),tv 0 ((s.drop 5).take 2),tv 0 (s.drop 8)])):=run.lfp
 unfold z102.F
 rw [Zt (show (s.length:Int)=10 by omega),e]
 simp only [Zn,Zc,Zb]
 show (if _ then if _ then if _ then if _ then if _ then if _ then (z101.F (tv 0 (s.take 4)) (tv 0 ((s.drop 5).take 2)) (tv 0 (s.drop 8))).bind _ else none else none else none else none else none else none)=_
 simp only [Z6,Z29]
 rw [if_pos (by decide),if_pos (by decide),if_pos (by decide),if_pos (by decide),if_pos (by decide),if_pos (by decide),Qpv,Zb]
 unfold mDate
 by_cases hr:right (tv 0 (s.take 4)) (tv 0 ((s.drop 5).take 2)) (tv 0 (s.drop 8))
 ·rw [if_pos hr,Zt hr];rfl
 ·rw [if_neg hr,Zf hr];rfl
def kPay:J1:=[112,97,121]
def kPre:J1:=[112,114,101,112,97,121]
def Qns:J1:=[114,101,115,101,116]
def Qse:J1:=[112,97,115,115]
def kDue:J1:=[100,117,101]
def kWords:List J1:=[kPay,kPre,Qns,Qse]
def idxW:List J1->J1->Int->Int
 |[],_,_=>-1
 |w::t,s,i=>if s=w then i else idxW t s (i+1)
def kindOf (s:J1):Int:=idxW kWords s 0
def iend:Int⊕Int->Int | .inl _=>-1 | .inr q=>q
theorem Qm3 {L:List J1} (hL:L.length<=1000000) (s:J1):∀(f i:Nat),i+f=L.length->∃x,Runs (λrec x=>z75.l0P L s (L.length:Int) rec some x) (i:Int) x/\iend x=idxW (L.drop i) s i
 |
  0,i,h=>by
  refine ⟨.inl (i:Int),.done λrec=>?_,?_⟩
  ·unfold z75.l0P
   rw [Qc (by omega)]
  ·rw [Z34 (by omega)];rfl
 |
  f+1,i,h=>by
  have hi:i<L.length:=by omega
  have hg:L.getD i []=L[i]:=by rw [Zl,Z1 hi];rfl
  have hst:∀rec:Int->Option (Int⊕Int),z75.l0P L s (L.length:Int) rec some (i:Int)=if s=L[i] then some (.inr (i:Int)) else rec ((i+1:Nat):Int):=λrec=>by
   unfold z75.l0P
   rw [bif_t (by omega),if_pos (by omega),Zi,hg,Qh (by omega) (by omega)]
   by_cases hs:s=L[i]
   ·rw [if_pos hs,Zt hs];rfl
   ·rw [if_neg hs,Zf hs];rfl
  rw [Z21 hi,idxW]
  by_cases hs:s=L[i]
  ·exact ⟨.inr (i:Int),.done λrec=>by rw [hst,if_pos hs],by rw [if_pos hs];rfl⟩
  ·obtain ⟨x,r,hx⟩:=Qm3 hL s f (i+1) (by omega)
   exact ⟨x,.step (λrec=>by rw [hst,if_neg hs]) r,by rw [if_neg hs,hx];rfl⟩
theorem Qnm (s:J1):z75.F kWords s=some (kindOf s):=by
 obtain ⟨x,r,hx⟩:=Qm3 (L:=kWords) (by decide) s kWords.length 0 (by omega)
 have e:z75.l0 kWords s ((kWords.length:Nat):Int) 0=some x:=r.lfp
 unfold z75.F
 rw [e]
 have:iend x=kindOf s:=hx
 rw [<-this]
 cases x<;>rfl
theorem Qkp (s:J1):∀(f i:Nat),i+f=4->∃x,Runs (λrec x=>z98.l0P s kWords rec some x) (i:Int) x/\iend x=idxW (kWords.drop i) s i
 |
  0,i,h=>by
  refine ⟨.inl (i:Int),.done λrec=>?_,?_⟩
  ·unfold z98.l0P
   rw [Qc (by omega)]
  ·rw [Z34 (by show 4<=i;omega)];rfl
 |
  f+1,i,h=>by
  have hi:i<kWords.length:=by show i<4;omega
  have h4:kWords.length=4:=rfl
  have hg:kWords.getD i []=kWords[i]:=by rw [Zl,Z1 hi];rfl
  have hst:∀rec:Int->Option (Int⊕Int),z98.l0P s kWords rec some (i:Int)=if s=kWords[i] then some (.inr (i:Int)) else rec ((i+1:Nat):Int):=λrec=>by
   unfold z98.l0P
   rw [bif_t (by omega),if_pos (by omega),Zi,hg,Qh (by omega) (by omega)]
   by_cases hs:s=kWords[i]
   ·rw [if_pos hs,Zt hs.symm];rfl
   ·rw [if_neg hs,Zf (λe=>hs e.symm)];rfl
  rw [Z21 hi,idxW]
  by_cases hs:s=kWords[i]
  ·exact ⟨.inr (i:Int),.done λrec=>by rw [hst,if_pos hs],by rw [if_pos hs];rfl⟩
  ·obtain ⟨x,r,hx⟩:=Qkp s f (i+1) (by omega)
   exact ⟨x,.step (λrec=>by rw [hst,if_neg hs]) r,by rw [if_neg hs,hx];rfl⟩
theorem Qvm (s:J1):z98.F s=some (kindOf s):=by
 obtain ⟨x,r,hx⟩:=Qkp s 4 0 (by omega)
 have e:z98.l0 s kWords 0=some x:=r.lfp
 unfold z98.F
 show ((z98.l0 s kWords 0).bind _)=_
 rw [e]
 have:iend x=kindOf s:=hx
 rw [<-this]
 cases x<;>rfl
theorem Qms (s:J1):-1<=kindOf s/\kindOf s<=3:=by
 unfold kindOf kWords idxW idxW idxW idxW idxW
 repeat' split
 all_goals omega
def Jp (v:J1):Int:=if (mMoney v).2≠0 then (mMoney v).2 else if (mMoney v).1=0 then 19 else 0
def mVal (k:Int) (v:J1):Int:=
 if k=3 then (if v=[] then 0 else 4) else if k=2 then (Yl v).2 else if k=0/\v=kDue then 0 else Jp v
theorem script_money (v:J1):z48.F v=some (Jp v):=by
 unfold z48.F Jp
 rw [terms_Money,Zb]
 by_cases h:(mMoney v).2=0
 ·simp only [h,decide_true,Zd,ne_eq,not_true_eq_false,if_false]
  rw [Qav,Zb]
  by_cases h0:(mMoney v).1=0
  ·rw [if_pos h0,bif_t (Qfm.2 h0)]
  ·rw [if_neg h0,Qc (λe=>h0 (Qfm.1 e))]
 ·rw [if_pos h,Qc h]
theorem script_value {k:Int} (hk:0<=k/\k<=3) (y m d:Int) (v:J1):z70.F k y m d v=some (mVal k v):=by
 unfold z70.F mVal
 by_cases h0:k=0
 ·rw [bif_t h0,if_neg (by omega),if_neg (by omega)]
  by_cases hv:v=kDue
  ·rw [if_pos ⟨h0,hv⟩];exact bif_t hv
  ·rw [if_neg (λh=>hv h.2)]
   refine (Qc hv).trans ?_
   rw [script_money];rfl
 ·rw [Qc h0,if_neg (show ¬(k=0/\v=kDue) from λh=>h0 h.1)]
  by_cases h1:k=1
  ·rw [bif_t h1,if_neg (by omega),if_neg (by omega),script_money];rfl
  ·rw [Qc h1]
   by_cases h2:k=2
   ·rw [bif_t h2,if_neg (by omega),if_pos h2,terms_Rate];rfl
   ·rw [Qc h2,if_pos (show k=3 by omega)]
    by_cases hv:v=[]
    ·rw [if_pos hv,Zt hv];rfl
    ·rw [if_neg hv,Zf hv];rfl
theorem Qhp {k:Int} (hk:0<=k/\k<=3) (y m d:Int) {v:J1} (hv:v.length<=1000000):z138.F k y m d v=some (mVal k v):=by
 have hj:z138.j2 v=some (Jp v):=by
  unfold z138.j2 Jp
  rw [Qnc v hv,Zb]
  by_cases h:(mMoney v).2=0
  ·rw [Zt (show (wr4 (mMoney v)).2.2=0 from h),if_neg (λhh=>hh h)]
   simp only [Zn,Zc]
   by_cases h0:(mMoney v).1=0
   ·rw [if_pos h0,bif_t ((dg_len0 _).2 (by rw [h0];rfl))]
   ·rw [if_neg h0,Qc (λe=>h0 (Int.natAbs_eq_zero.1 ((dg_len0 _).1 e)))]
  ·rw [Zf (show ¬(wr4 (mMoney v)).2.2=0 from h),if_pos h];rfl
 unfold z138.F mVal
 by_cases h3:k=3
 ·rw [bif_t h3,if_pos h3]
  by_cases hv:v=[]
  ·rw [if_pos hv,Zt hv];rfl
  ·rw [if_neg hv,Zf hv];rfl
 ·rw [Qc h3,if_neg h3]
  by_cases h2:k=2
  ·rw [bif_t h2,if_pos h2,Qu0];rfl
  ·rw [Qc h2,if_neg h2]
   by_cases h0:k=0
   ·rw [bif_t h0]
    by_cases hv:v=kDue
    ·rw [if_pos ⟨h0,hv⟩];exact bif_t hv
    ·rw [if_neg (λh=>hv h.2)];exact (Qc hv).trans hj
   ·rw [Qc h0,if_neg (show ¬(k=0/\v=kDue) from λh=>h0 h.1)];exact hj
def mWorth (k:Int) (t:Tk):Int×J1:=
 if t.k=0/\k=0 then (if t.s=kDue then (0,kDue) else (14,[]))
 else if t.k≠1 then (4,[])
 else if k=2 then (mVal 2 t.s,t.s)
 else if (mDec t.s).2.2≠0 then ((mDec t.s).2.2,[])
 else if (mDec t.s).2.1≠2 then (10,[])
 else (mVal k (itxt (mDec t.s).1),itxt (mDec t.s).1)
theorem dump_Cents (s:J1):z71.F s=some (if (mDec s).2.2≠0 then ([],false,(mDec s).2.2) else if (mDec s).2.1≠2 then ([],false,10) else (lb (mDec s).1.natAbs,neg (mDec s).1,0)):=by
 unfold z71.F
 rw [dec_Parse,Zb]
 by_cases h:(mDec s).2.2=0
 ·rw [if_neg (λhh=>hh h),Zt (show (decR (mDec s)).2.2.2=0 from h)]
  simp only [Zn,Zc]
  unfold z53.F z54.F
  simp only [Zb]
  by_cases h2:(mDec s).2.1=2
  ·rw [if_neg (λhh=>hh h2),Zt (show (decR (mDec s)).2.2.1=2 from by show ((mDec s).2.1:Int)=2;omega)];rfl
  ·rw [if_pos h2,Zf (show ¬(decR (mDec s)).2.2.1=2 from by show ¬((mDec s).2.1:Int)=2;omega)];rfl
 ·rw [if_pos h,Zf (show ¬(decR (mDec s)).2.2.2=0 from h)];rfl
theorem Que {s:J1} (hs:s.length<=4096):∃a b,z139.F s=some (if (mDec s).2.2≠0 then (a,b,(mDec s).2.2) else if (mDec s).2.1≠2 then (a,b,10) else (dg (mDec s).1.natAbs,neg (mDec s).1,0)):=by
 refine ⟨dg (Int.natAbs 0),neg 0,?_⟩
 unfold z139.F
 rw [Qb0 (z:=0) (by omega),Zb,Qc (by omega),Qfu hs,Zb]
 by_cases h:(mDec s).2.2=0
 ·rw [if_neg (λhh=>hh h),Zt (show (decD (mDec s)).2.2.2=0 from h)]
  simp only [Zn,Zc]
  by_cases h2:(mDec s).2.1=2
  ·rw [if_neg (λhh=>hh h2),Zt (show (decD (mDec s)).2.2.1=2 from by show ((mDec s).2.1:Int)=2;omega)];rfl
  ·rw [if_pos h2,Zf (show ¬(decD (mDec s)).2.2.1=2 from by show ¬((mDec s).2.1:Int)=2;omega)];rfl
 ·rw [if_pos h,Zf (show ¬(decD (mDec s)).2.2.2=0 from h)];rfl
theorem Qoc {k:Int} (hk:0<=k/\k<3) (y m d:Int) {t:Tk} (ht:t.s.length<=4096) (p:Int):∃w,z140.F k y m d [] t.k t.s p=some (k,y,m,d,w,(mWorth k t).1)/\((mWorth k t).1=0->w=(mWorth k t).2):=by
 have hz:=(Qdv t.s).2
 have rest:¬(t.k=0/\k=0)->∃w,(bif (!decide (t.k=(1:Int))) then (some (k,y,m,d,([]:J1),(4:Int))) else (bif (decide (k<(2:Int))) then ((z139.F t.s).bind λr2=>(bif (!decide (r2.2.2=(0:Int))) then (some (k,y,m,d,t.s,r2.2.2)) else ((z105.F r2.1 r2.2.1).bind λr3=>((z138.F k y m d r3).bind λr4=>(some (k,y,m,d,r3,r4)))))) else ((z138.F k y m d t.s).bind λr5=>(some (k,y,m,d,t.s,r5)))))=some (k,y,m,d,w,(mWorth k t).1)/\((mWorth k t).1=0->w=(mWorth k t).2):=λhn=>by
  unfold mWorth
  simp only [if_neg hn]
  by_cases h1:t.k=1
  ·rw [Zt h1]
   simp only [if_neg (show ¬(t.k≠1) from λh=>h h1),Zn,Zc]
   by_cases h2:k=2
   ·rw [Qc (by omega),Qhp (by omega) _ _ _ (by omega)]
    simp only [if_pos h2]
    subst h2
    exact ⟨t.s,rfl,λ_=>rfl⟩
   ·rw [bif_t (by omega)]
    simp only [if_neg h2]
    obtain ⟨a,b,hc⟩:=Que ht
    rw [hc,Zb]
    by_cases h3:(mDec t.s).2.2=0
    ·simp only [if_neg (show ¬((mDec t.s).2.2≠0) from λh=>h h3)]
     by_cases h4:(mDec t.s).2.1=2
     ·simp only [if_neg (show ¬((mDec t.s).2.1≠2) from λh=>h h4)]
      simp only [decide_true,Zn,Zc]
      have l:=Qrh (mDec t.s).1
      rw [Qpx (by omega),Zb,Qhp (by omega) _ _ _ (by omega)]
      exact ⟨_,rfl,λ_=>rfl⟩
     ·simp only [if_pos h4]
      exact ⟨t.s,rfl,λh=>by simp at h⟩
    ·simp only [if_pos h3]
     rw [Zf h3]
     exact ⟨t.s,rfl,λh=>(h3 h).elim⟩
  ·rw [Zf h1]
   simp only [if_pos h1]
   exact ⟨[],rfl,λh=>by simp at h⟩
 unfold z140.F
 by_cases h0:t.k=0
 ·rw [bif_t h0]
  unfold z140.j1
  by_cases hk0:k=0
  ·rw [bif_t hk0]
   unfold mWorth
   simp only [if_pos (show t.k=0/\k=0 from ⟨h0,hk0⟩)]
   by_cases hd:t.s=kDue
   ·simp only [if_pos hd]
    rw [Zt (show t.s=[100,117,101] from hd)]
    exact ⟨kDue,rfl,λ_=>rfl⟩
   ·simp only [if_neg hd]
    rw [Zf (show ¬t.s=[100,117,101] from hd)]
    exact ⟨[],rfl,λh=>by simp at h⟩
  ·rw [Qc hk0];exact rest (λh=>hk0 h.2)
 ·rw [Qc h0]
  unfold z140.j1
  exact rest (λh=>h0 h.1)
def hd (N:Int):List Tk->Tk
 |[]=>⟨-1,[],N⟩
 |t::_=>t
theorem Qdo (l:List Tk) (N p:Int):∃z,z7.F (l.map Tk.v) N p=some ((hd N l).k,(hd N l).s,z,l.tail.map Tk.v,N,(hd N l).p):=by
 unfold z7.F
 cases l with
 |nil=>exact ⟨0,rfl⟩
 |
  cons t u=>
  refine ⟨t.p,?_⟩
  have hl:((((t::u).map Tk.v).length:Nat):Int)=(u.length:Int)+1:=by simp
  rw [Qc (by rw [hl];omega),if_pos (by rw [hl];omega)]
  show (if (0:Int)<=1/\(1:Int)<=_ then _ else none)=_
  rw [if_pos (by rw [hl];omega)];rfl
theorem Qnn {k:Int} (hk:0<=k/\k<3) (y m d N p:Int) (l:List Tk):∃w,z72.F (l.map Tk.v) N p k y m d []=some ((mWorth k (hd N l)).1,l.tail.map Tk.v,N,(hd N l).p,k,y,m,d,w)/\((mWorth k (hd N l)).1=0->w=(mWorth k (hd N l)).2):=by
 obtain ⟨z,hz⟩:=Qdo l N p
 have hb:=(Qdv (hd N l).s).2
 unfold z72.F
 rw [hz,Zb]
 generalize hd N l=t at *
 generalize l.tail.map Tk.v=u
 have rest:¬(t.k=0/\k=0)->∃w,z72.j3 false (t.k,t.s,z,u,N,t.p) k y m d []=some ((mWorth k t).1,u,N,t.p,k,y,m,d,w)/\((mWorth k t).1=0->w=(mWorth k t).2):=λhn=>by
  unfold z72.j3 mWorth
  simp only [if_neg hn,Zc]
  by_cases h1:t.k=1
  ·rw [Zt h1]
   simp only [if_neg (show ¬(t.k≠1) from λh=>h h1),Zn,Zc]
   by_cases h2:k=2
   ·rw [bif_t h2,script_value (by omega)]
    simp only [if_pos h2]
    subst h2
    exact ⟨t.s,rfl,λ_=>rfl⟩
   ·rw [Qc h2,dump_Cents,Zb]
    simp only [if_neg h2]
    by_cases h3:(mDec t.s).2.2=0
    ·simp only [if_neg (show ¬((mDec t.s).2.2≠0) from λh=>h h3)]
     by_cases h4:(mDec t.s).2.1=2
     ·simp only [if_neg (show ¬((mDec t.s).2.1≠2) from λh=>h h4)]
      simp only [decide_true,Zn,Zc]
      rw [Qjp (by omega),Zb,script_value (by omega)]
      exact ⟨_,rfl,λ_=>rfl⟩
     ·simp only [if_pos h4]
      exact ⟨[],rfl,λh=>by simp at h⟩
    ·simp only [if_pos h3]
     rw [Zf h3]
     exact ⟨[],rfl,λh=>(h3 h).elim⟩
  ·rw [Zf h1]
   simp only [if_pos h1]
   exact ⟨[],rfl,λh=>by simp at h⟩
 by_cases h0:t.k=0
 ·simp only [Zt h0,Zd]
  by_cases hk0:k=0
  ·simp only [Zt hk0,Zd]
   unfold z72.j2 mWorth
   simp only [if_pos (show t.k=0/\k=0 from ⟨h0,hk0⟩)]
   by_cases hd:t.s=kDue
   ·simp only [if_pos hd]
    rw [Zt (show t.s=[100,117,101] from hd)]
    simp only [Zn,Zc,Zt h0,Zt hk0,Zd]
    exact ⟨kDue,rfl,λ_=>rfl⟩
   ·simp only [if_neg hd]
    rw [Zf (show ¬t.s=[100,117,101] from hd)]
    exact ⟨[],rfl,λh=>by simp at h⟩
  ·simp only [Zf hk0,Zc]
   unfold z72.j2
   simp only [Zf hk0,Zc,Zt h0,Zd]
   exact rest (λh=>hk0 h.2)
 ·simp only [Zf h0,Zc]
  unfold z72.j2
  simp only [Zc,Zf h0]
  exact rest (λh=>h0 h.1)
structure Evt where
 k:Int
 y:Int
 m:Int
 d:Int
 v:List UInt8
deriving DecidableEq
def Evt.r (e:Evt):List V:=[.int .i64 e.k,.int .i64 e.y,.int .i64 e.m,.int .i64 e.d,.str e.v]
def mFin (N:Int) (e:Evt) (l:List Tk):(Int×Int)⊕(Evt×List Tk):=
 if (hd N l).k=3/\(hd N l).s=[59] then .inr (e,l.tail) else .inl (4,(hd N l).p)
def mEvent (N:Int) (l:List Tk) (y m d:Int):(Int×Int)⊕(Evt×List Tk):=
 if (hd N l).k≠0 then .inl (4,(hd N l).p)
 else if kindOf (hd N l).s<0 then .inl (14,(hd N l).p)
 else if (hd N l.tail).k≠2 then .inl (4,(hd N l.tail).p)
 else if (mDate (hd N l.tail).s).2.2.2≠0 then .inl ((mDate (hd N l.tail).s).2.2.2,(hd N l.tail).p)
 else if dcmp (mDate (hd N l.tail).s).1 (mDate (hd N l.tail).s).2.1 (mDate (hd N l.tail).s).2.2.1 y m d<0 then .inl (12,(hd N l.tail).p)
 else if kindOf (hd N l).s=3 then mFin N ⟨kindOf (hd N l).s,(mDate (hd N l.tail).s).1,(mDate (hd N l.tail).s).2.1,(mDate (hd N l.tail).s).2.2.1,[]⟩ l.tail.tail
 else if (mWorth (kindOf (hd N l).s) (hd N l.tail.tail)).1≠0 then .inl ((mWorth (kindOf (hd N l).s) (hd N l.tail.tail)).1,(hd N l.tail.tail).p)
 else mFin N ⟨kindOf (hd N l).s,(mDate (hd N l.tail).s).1,(mDate (hd N l.tail).s).2.1,(mDate (hd N l.tail).s).2.2.1,(mWorth (kindOf (hd N l).s) (hd N l.tail.tail)).2⟩ l.tail.tail.tail
def Wt (N:Int):Nat->List Tk->Int->Int->Int->List Evt->List Evt×Int×Int
 |0,_,_,_,_,acc=>(acc,0,0)
 |
  n+1,l,y,m,d,acc=>if l=[] then (acc,0,0) else
  match mEvent N l y m d with
  |.inl e=>([],e.2,e.1)
  |.inr r=>Wt N n r.2 r.1.y r.1.m r.1.d (acc++[r.1])
def Yn (s:J1):List Evt×Int×Int:=
 if (lexOf s).2.2≠0 then ([],(lexOf s).2.1,(lexOf s).2.2) else Wt (s.length:Int) (lexOf s).1.length (lexOf s).1 0 0 0 []
def Qh7 (R:Int×Int×Int×Int×J1×Int×J2×Int×Int) (N:Int):(Int×Int)⊕(Evt×List Tk)->Prop
 |.inl e=>R.2.2.2.2.2.1=e.1/\e.1≠0/\R.2.2.2.2.2.2.2.2=e.2
 |.inr r=>∃q,R=(r.1.k,r.1.y,r.1.m,r.1.d,r.1.v,0,r.2.map Tk.v,N,q)
theorem Qib (l:List Tk) (N p k y m d:Int) (v:J1):∃R,z83.j15 (l.map Tk.v) N p k y m d v=some R/\Qh7 R N (mFin N ⟨k,y,m,d,v⟩ l):=by
 obtain ⟨z,hz⟩:=Qdo l N p
 unfold z83.j15 mFin
 rw [hz,Zb]
 by_cases h3:(hd N l).k=3
 ·by_cases h4:(hd N l).s=[59]
  ·rw [if_pos ⟨h3,h4⟩,Zt h3,Zt h4]
   exact ⟨_,rfl,_,rfl⟩
  ·rw [if_neg (λh=>h4 h.2),Zt h3,Zf h4]
   exact ⟨_,rfl,rfl,(by simp),rfl⟩
 ·rw [if_neg (λh=>h3 h.1),Zf h3]
  exact ⟨_,rfl,rfl,(by simp),rfl⟩
theorem Qls {l:List Tk} (hl:∀t∈l,t.k=2->dtd t.s=true) (N:Int) (h:(hd N l).k=2):dtd (hd N l).s=true:=by
 cases l with
 |nil=>simp [hd] at h
 |cons t u=>exact hl t (by simp) h
theorem Qsk {l:List Tk} (hl:∀t∈l,t.k=2->dtd t.s=true) (N p y m d:Int):∃R,z83.F (l.map Tk.v) N p y m d=some R/\Qh7 R N (mEvent N l y m d):=by
 obtain ⟨z0,e0⟩:=Qdo l N p
 obtain ⟨z1,e1⟩:=Qdo l.tail N (hd N l).p
 have hl1:∀t∈l.tail,t.k=2->dtd t.s=true:=λt ht=>hl t (List.mem_of_mem_tail ht)
 unfold z83.F mEvent
 rw [e0,Zb]
 by_cases h0:(hd N l).k=0
 ·rw [if_neg (λh=>h h0),Zt h0]
  simp only [Zn,Zc]
  rw [show z76.F=some kWords from rfl,Zb,Qnm,Zb]
  have hk:=Qms (hd N l).s
  generalize kindOf (hd N l).s=k at *
  by_cases h1:k<0
  ·rw [if_pos h1,bif_t h1]
   exact ⟨_,rfl,rfl,(by simp),rfl⟩
  ·rw [if_neg h1,Qc h1,e1,Zb]
   by_cases h2:(hd N l.tail).k=2
   ·rw [if_neg (λh=>h h2),Zt h2]
    simp only [Zn,Zc]
    rw [date_Parse (Qls hl1 N h2),Zb]
    generalize mDate (hd N l.tail).s=D at *
    by_cases h3:D.2.2.2=0
    ·rw [if_neg (λh=>h h3),Zt h3]
     simp only [Zn,Zc]
     rw [date_Cmp,Zb]
     by_cases h4:dcmp D.1 D.2.1 D.2.2.1 y m d<0
     ·rw [if_pos h4,bif_t h4]
      exact ⟨_,rfl,rfl,(by simp),rfl⟩
     ·rw [if_neg h4,Qc h4]
      by_cases h5:k=3
      ·rw [if_pos h5,Zt h5]
       exact Qib l.tail.tail N _ k D.1 D.2.1 D.2.2.1 []
      ·rw [if_neg h5,Zf h5]
       simp only [Zo,Zd]
       obtain ⟨w,e2,hw⟩:=Qnn (k:=k) (by omega) D.1 D.2.1 D.2.2.1 N (hd N l.tail).p l.tail.tail
       rw [e2,Zb]
       by_cases h6:(mWorth k (hd N l.tail.tail)).1=0
       ·rw [if_neg (λh=>h h6),Zt h6,hw h6]
        exact Qib l.tail.tail.tail N _ k D.1 D.2.1 D.2.2.1 _
       ·rw [if_pos h6,Zf h6]
        exact ⟨_,rfl,rfl,h6,rfl⟩
    ·rw [if_pos h3,Zf h3]
     exact ⟨_,rfl,rfl,h3,rfl⟩
   ·rw [if_pos h2,Zf h2]
    exact ⟨_,rfl,rfl,(by simp),rfl⟩
 ·rw [if_pos h0,Zf h0]
  exact ⟨_,rfl,rfl,(by simp),rfl⟩
theorem Qjy {N:Int} {e:Evt} {l:List Tk} {r:Evt×List Tk} (h:mFin N e l=.inr r):r.1=e/\r.2=l.tail/\l≠[]:=by
 unfold mFin at h
 split at h
 ·rename_i hc
  refine ⟨by cases h;rfl,by cases h;rfl,λhn=>?_⟩
  subst hn;simp [hd] at hc
 ·simp at h
theorem Qvf {N:Int} {l:List Tk} {y m d:Int} {r:Evt×List Tk} (h:mEvent N l y m d=.inr r):l≠[]/\r.2.length+3<=l.length/\∃k,k<=l.length/\r.2=l.drop k:=by
 unfold mEvent at h
 split at h
 ·simp at h
 ·rename_i h0
  have hl:l≠[]:=λhn=>by subst hn;simp [hd] at h0
  have hpos:=Z19.2 hl
  split at h
  ·simp at h
  split at h
  ·simp at h
  rename_i h2
  have hl1:l.tail≠[]:=λhn=>by rw [hn] at h2;simp [hd] at h2
  have hpos1:=Z19.2 hl1
  rw [List.length_tail] at hpos1
  split at h
  ·simp at h
  split at h
  ·simp at h
  split at h
  ·obtain ⟨_,h5,h6⟩:=Qjy h
   have hpos2:=Z19.2 h6
   simp only [List.length_tail] at hpos2
   have e:r.2=l.drop 3:=by rw [h5];simp only [<-List.drop_one,Z78]
   exact ⟨hl,by rw [e,Z15];omega,3,by omega,e⟩
  ·split at h
   ·simp at h
   ·obtain ⟨_,h5,h6⟩:=Qjy h
    have hpos2:=Z19.2 h6
    simp only [List.length_tail] at hpos2
    have e:r.2=l.drop 4:=by rw [h5];simp only [<-List.drop_one,Z78]
    exact ⟨hl,by rw [e,Z15];omega,4,by omega,e⟩
abbrev PS:=J2×Int×Int×J2×Int×Int×Int
abbrev PT:=J2×Int×Int×J2×Int×Int×J2×Int×Int×Int
def outP:PS⊕PT->J2×Int×Int
 |.inl p=>(p.2.2.2.1,0,0)
 |.inr q=>(q.1,q.2.1,q.2.2.1)
def encM (r:List Evt×Int×Int):J2×Int×Int:=(r.1.map Evt.r,r.2.1,r.2.2)
theorem Qo9 (N:Int):∀(n:Nat) (l:List Tk) (p y m d:Int) (acc:List Evt),l.length<=n->(∀t∈l,t.k=2->dtd t.s=true)->acc.length+l.length<=9999 ->
  ∃x,Runs (λrec x=>z97.l0P rec some x) (l.map Tk.v,N,p,acc.map Evt.r,y,m,d) x/\outP x=encM (Wt N n l y m d acc):=by
 intro n
 induction n with
 |
  zero=>
  intro l p y m d acc hn hl ha
  have:l=[]:=Z7 (by omega)
  subst this
  refine ⟨.inl ([],N,p,acc.map Evt.r,y,m,d),.done λrec=>?_,?_⟩
  ·unfold z97.l0P
   simp only [List.map_nil]
   rw [Qc (by simp)]
  ·rfl
 |
  succ n ih=>
  intro l p y m d acc hn hl ha
  by_cases hnil:l=[]
  ·subst hnil
   refine ⟨.inl ([],N,p,acc.map Evt.r,y,m,d),.done λrec=>?_,?_⟩
   ·unfold z97.l0P
    simp only [List.map_nil]
    rw [Qc (by simp)]
   ·rw [Wt,if_pos rfl];rfl
  ·have hpos:=Z19.2 hnil
   obtain ⟨R,hR,ho⟩:=Qsk hl N p y m d
   have hst:∀rec:PS->Option (PS⊕PT),z97.l0P rec some (l.map Tk.v,N,p,acc.map Evt.r,y,m,d)=(bif (!decide (R.2.2.2.2.2.1=(0:Int))) then (some (.inr ([],R.2.2.2.2.2.2.2.2,R.2.2.2.2.2.1,R.2.2.2.2.2.2.1,R.2.2.2.2.2.2.2.1,R.2.2.2.2.2.2.2.2,acc.map Evt.r,y,m,d))) else (rec (R.2.2.2.2.2.2.1,R.2.2.2.2.2.2.2.1,R.2.2.2.2.2.2.2.2,(acc.map Evt.r++([[(.int .i64 R.1),(.int .i64 R.2.1),(.int .i64 R.2.2.1),(.int .i64 R.2.2.2.1),(.str R.2.2.2.2.1)]]:J2)),R.2.1,R.2.2.1,R.2.2.2.1))):=λrec=>by
    unfold z97.l0P
    simp only
    have l1:(l.map Tk.v).length=l.length:=by simp
    have l2:(acc.map Evt.r).length=acc.length:=by simp
    rw [l1,l2,bif_t (by omega),Qc (by omega),hR,Zb,if_pos (by show (acc.length+1)*48<=_;omega)]
   cases he:mEvent N l y m d with
   |
    inl e=>
    rw [he] at ho
    obtain ⟨h1,h2,h3⟩:=ho
    refine ⟨.inr ([],R.2.2.2.2.2.2.2.2,R.2.2.2.2.2.1,R.2.2.2.2.2.2.1,R.2.2.2.2.2.2.2.1,R.2.2.2.2.2.2.2.2,acc.map Evt.r,y,m,d),.done λrec=>?_,?_⟩
    ·rw [hst,Zf (by rw [h1];exact h2)];rfl
    ·rw [Wt,if_neg hnil,he]
     show (([]:J2),R.2.2.2.2.2.2.2.2,R.2.2.2.2.2.1)=([],e.2,e.1)
     rw [h1,h3]
   |
    inr r=>
    rw [he] at ho
    obtain ⟨q,hq⟩:=ho
    obtain ⟨h1,h2,k,_,h3⟩:=Qvf he
    obtain ⟨x,hx,hx2⟩:=ih r.2 q r.1.y r.1.m r.1.d (acc++[r.1]) (by omega) (λt ht=>hl t (by rw [h3] at ht;exact Z67 ht)) (by simp;omega)
    refine ⟨x,.step (λrec=>?_) hx,?_⟩
    ·rw [hst,hq]
     simp only [List.map_append,List.map_cons,List.map_nil];rfl
    ·rw [Wt,if_neg hnil,he];exact hx2
theorem Qhk (s:J1):(lexOf s).1.length<=s.length/\∀t∈(lexOf s).1,(t.k=2->dtd t.s=true)/\t.s.length<=s.length/\0<=t.p/\t.p<=s.length:=by
 have h:=Wo false s
 obtain ⟨h1,h2⟩:=Qtp s.length (skp false s).length (skp false s) (Z3 _) h
 exact ⟨by unfold lexOf;omega,λt ht=>by obtain ⟨a,b,c⟩:=h2 t ht;exact ⟨a,by omega,c⟩⟩
theorem script_Parse {s:J1} (hs:s.length<=9999):z97.F s=some (encM (Yn s)):=by
 obtain ⟨h1,h2⟩:=Qhk s
 unfold z97.F Yn
 rw [lex_Lex,if_neg (by omega),Zb]
 by_cases he:(lexOf s).2.2=0
 ·rw [if_neg (λh=>h he)]
  simp only [he,decide_true,Zn,Zc]
  obtain ⟨x,r,hx⟩:=Qo9 (s.length:Int) (lexOf s).1.length (lexOf s).1 0 0 0 0 [] (Z3 _) (λt ht=>(h2 t ht).1) (by simp;omega)
  have e:z97.l0 ((lexOf s).1.map Tk.v,(s.length:Int),0,[],0,0,0)=some x:=r.lfp
  rw [e,<-hx]
  cases x<;>rfl
 ·rw [if_pos he]
  simp only [he,decide_false,Zo,Zd]
  rfl
def hd9 (N:Int):List Tk->Tk
 |[]=>⟨9,[],N⟩
 |t::_=>t
theorem Qii {N c:Int} (l:List Tk) (hc:0<=c/\c<=3):((hd9 N l).k=c)=((hd N l).k=c):=by
 cases l with
 |nil=>show ((9:Int)=c)=((-1:Int)=c);exact propext ⟨λh=>by omega,λh=>by omega⟩
 |cons t u=>rfl
theorem Qgy (N:Int) (l:List Tk):(hd9 N l).s=(hd N l).s:=by cases l<;>rfl
theorem Qfg (N:Int) (l:List Tk):(hd9 N l).p=(hd N l).p:=by cases l<;>rfl
theorem Qoe (N k:Int) (l:List Tk):mWorth k (hd9 N l)=mWorth k (hd N l):=by
 cases l with
 |
  nil=>
  unfold mWorth hd9 hd
  rw [if_neg (show ¬((9:Int)=0/\k=0) by omega),if_neg (show ¬((-1:Int)=0/\k=0) by omega),if_pos (show (9:Int)≠1 by decide),if_pos (show (-1:Int)≠1 by decide)]
 |cons t u=>rfl
theorem aK {R:Type} (t:Tk) (K:Int->Option R):V.asInt .i64 ((Tk.v t).getD 0 .undef) K=K t.k:=rfl
theorem aS {R:Type} (t:Tk) (K:J1->Option R):V.asStr ((Tk.v t).getD 1 .undef) K=K t.s:=rfl
theorem aP {R:Type} (t:Tk) (K:Int->Option R):V.asInt .i64 ((Tk.v t).getD 2 .undef) K=K t.p:=rfl
def Q1 (N:Int) (l:List Tk):J2:=l.map Tk.v++[Tk.v ⟨9,[],N⟩,Tk.v ⟨9,[],N⟩,Tk.v ⟨9,[],N⟩,Tk.v ⟨9,[],N⟩]
theorem Qln (N:Int) (l:List Tk):(Q1 N l).length=l.length+4:=by simp [Q1]
theorem Qcu (N:Int) (l:List Tk) {i:Nat} (hi:i<l.length+4):(Q1 N l).getD i []=Tk.v (hd9 N (l.drop i)):=by
 unfold Q1
 rw [Zl]
 by_cases h:i<l.length
 ·rw [Z32 (by simpa using h),Z73,Z1 h,Z21 h];rfl
 ·rw [Z47 (by simpa using h),Z34 (by omega),Z33]
  have:i-l.length=0\/i-l.length=1\/i-l.length=2\/i-l.length=3:=by omega
  rcases this with h|h|h|h<;>rw [h]<;>rfl
abbrev RS:=Int×J2×Int×Int×Int
abbrev RT:=J2×Int×Int×J2×Int×Int×Int
def outR:RS⊕RT->J2×Int×Int
 |.inl p=>(p.2.1,0,0)
 |.inr q=>(q.1,q.2.1,q.2.2.1)
theorem Qux {N:Int} {L:List Tk} {j:Nat} (hj:j<L.length+4) (hL:L.length<=4096) (acc:List Evt) (hacc:acc.length<=9999) (y m d:Int) (e:Evt) (rec:RS->Option (RS⊕RT)) :
  z146.j2034a rec some (j:Int) (Q1 N L) (acc.map Evt.r) y m d e.k e.y e.m e.d e.v=if (hd N (L.drop j)).k=3/\(hd N (L.drop j)).s=[59] then rec (((j+1:Nat):Int),(acc++[e]).map Evt.r,e.y,e.m,e.d) else some (.inr ([],(hd N (L.drop j)).p,4,acc.map Evt.r,y,m,d)):=by
 have hl:=Qln N L
 have c:(0:Int)<=(j:Int)/\(j:Int)<((Q1 N L).length:Int):=by omega
 have c':j<(Q1 N L).length:=by omega
 have g:=Qcu N L hj
 have l2:(acc.map Evt.r).length=acc.length:=by simp
 have hb:((acc.map Evt.r).length+([[(.int .i64 e.k),(.int .i64 e.y),(.int .i64 e.m),(.int .i64 e.d),(.str e.v)]]:J2).length)*48<=140737488355328:=by
  rw [l2];show (acc.length+1)*48<=_;omega
 unfold z146.j2034a
 simp only [if_pos c,Zi,if_pos c',g,aK,aS,aP,if_pos hb]
 rw [decide_eq_decide.2 (iff_of_eq (Qii (N:=N) (L.drop j) (show (0:Int)<=3/\(3:Int)<=3 by decide)))]
 simp only [Qgy,Qfg]
 by_cases h3:(hd N (L.drop j)).k=3
 ·by_cases h4:(hd N (L.drop j)).s=[59]
  ·rw [if_pos (show (hd N (L.drop j)).k=3/\(hd N (L.drop j)).s=[59] from ⟨h3,h4⟩),Zt h3,Zt h4]
   simp only [Zn,Zc]
   rw [Qh (by omega) (by omega),List.map_append];rfl
  ·rw [if_neg (show ¬((hd N (L.drop j)).k=3/\(hd N (L.drop j)).s=[59]) from λh=>h4 h.2),Zt h3,Zf h4];rfl
 ·rw [if_neg (show ¬((hd N (L.drop j)).k=3/\(hd N (L.drop j)).s=[59]) from λh=>h3 h.1),Zf h3];rfl
theorem Quo {N:Int} {L:List Tk} (hL:L.length<=4096) (hp:∀t∈L,(t.k=2->dtd t.s=true)/\t.s.length<=4096) {i:Nat} (hi:i<L.length) (acc:List Evt) (hacc:acc.length<=9999) (y m d:Int) :
  match mEvent N (L.drop i) y m d with
  |.inl e=>∀rec:RS->Option (RS⊕RT),z146.l0aP (L.length:Int) (Q1 N L) rec some ((i:Int),acc.map Evt.r,y,m,d)=some (.inr ([],e.2,e.1,acc.map Evt.r,y,m,d))
  |.inr r=>∃j,i<j/\r.2=L.drop j/\j<=L.length/\∀rec:RS->Option (RS⊕RT),z146.l0aP (L.length:Int) (Q1 N L) rec some ((i:Int),acc.map Evt.r,y,m,d)=rec ((j:Int),(acc++[r.1]).map Evt.r,r.1.y,r.1.m,r.1.d):=by
 have hl:=Qln N L
 have c0:(0:Int)<=(i:Int)/\(i:Int)<((Q1 N L).length:Int):=by omega
 have d0:i<(Q1 N L).length:=by omega
 have c1:(0:Int)<=((i+1:Nat):Int)/\((i+1:Nat):Int)<((Q1 N L).length:Int):=by omega
 have d1:i+1<(Q1 N L).length:=by omega
 have c2:(0:Int)<=((i+2:Nat):Int)/\((i+2:Nat):Int)<((Q1 N L).length:Int):=by omega
 have d2:i+2<(Q1 N L).length:=by omega
 have w1:wr .i64 ((i:Int)+1)=((i+1:Nat):Int):=by rw [Qh (by omega) (by omega)];rfl
 have w2:wr .i64 ((i:Int)+2)=((i+2:Nat):Int):=by rw [Qh (by omega) (by omega)];rfl
 have w3:wr .i64 (((i+2:Nat):Int)+1)=((i+3:Nat):Int):=by rw [Qh (by omega) (by omega)];rfl
 have g0:=Qcu N L (i:=i) (by omega)
 have g1:=Qcu N L (i:=i+1) (by omega)
 have g2:=Qcu N L (i:=i+2) (by omega)
 have t1:(L.drop i).tail=L.drop (i+1):=by rw [List.tail_drop]
 have t2:(L.drop (i+1)).tail=L.drop (i+2):=by rw [List.tail_drop]
 have t3:(L.drop (i+2)).tail=L.drop (i+3):=by rw [List.tail_drop]
 have l2:(acc.map Evt.r).length=acc.length:=by simp
 have hst:∀rec:RS->Option (RS⊕RT),z146.l0aP (L.length:Int) (Q1 N L) rec some ((i:Int),acc.map Evt.r,y,m,d) =
   (bif (!decide ((hd9 N (L.drop i)).k=(0:Int))) then some (.inr ([],(hd9 N (L.drop i)).p,(4:Int),acc.map Evt.r,y,m,d)) else
    (z98.F (hd9 N (L.drop i)).s).bind λk=>bif (decide (k<(0:Int))) then some (.inr ([],(hd9 N (L.drop i)).p,(14:Int),acc.map Evt.r,y,m,d)) else
    bif (!decide ((hd9 N (L.drop (i+1))).k=(2:Int))) then some (.inr ([],(hd9 N (L.drop (i+1))).p,(4:Int),acc.map Evt.r,y,m,d)) else
    (z102.F (hd9 N (L.drop (i+1))).s).bind λD=>bif (!decide (D.2.2.2=(0:Int))) then some (.inr ([],(hd9 N (L.drop (i+1))).p,D.2.2.2,acc.map Evt.r,y,m,d)) else
    (z103.F D.1 D.2.1 D.2.2.1 y m d).bind λc=>bif (decide (c<(0:Int))) then some (.inr ([],(hd9 N (L.drop (i+1))).p,(12:Int),acc.map Evt.r,y,m,d)) else
    bif (!decide (k=(3:Int))) then (z140.F k D.1 D.2.1 D.2.2.1 ([]:J1) (hd9 N (L.drop (i+2))).k (hd9 N (L.drop (i+2))).s (hd9 N (L.drop (i+2))).p).bind λW=>bif (!decide (W.2.2.2.2.2=(0:Int))) then some (.inr ([],(hd9 N (L.drop (i+2))).p,W.2.2.2.2.2,acc.map Evt.r,y,m,d)) else
     z146.j2034a rec some ((i+3:Nat):Int) (Q1 N L) (acc.map Evt.r) y m d W.1 W.2.1 W.2.2.1 W.2.2.2.1 W.2.2.2.2.1
    else z146.j2034a rec some ((i+2:Nat):Int) (Q1 N L) (acc.map Evt.r) y m d k D.1 D.2.1 D.2.2.1 ([]:J1)):=λrec=>by
  unfold z146.l0aP
  simp only
  rw [bif_t (show (i:Int)<(L.length:Int) by omega),if_pos c0]
  simp only [w1,w2,w3,Zi,if_pos c0,if_pos d0,if_pos c1,if_pos d1,if_pos c2,if_pos d2,g0,g1,g2,aK,aS,aP,l2]
  rw [Zf (show ¬((acc.length:Nat):Int)=10000 by omega)]
  rfl
 have hp1:∀t∈L.drop (i+1),t.k=2->dtd t.s=true:=λt ht=>(hp t (Z67 ht)).1
 have hd2:(hd9 N (L.drop (i+2))).s.length<=4096:=by
  cases hq:L.drop (i+2) with
  |nil=>exact Z54 _
  |cons t u=>exact (hp t (Z67 (i:=i+2) (by rw [hq];simp))).2
 have z0:∀c:Int,0<=c/\c<=3->∀l,decide ((hd9 N l).k=c)=decide ((hd N l).k=c):=λc hc l=>decide_eq_decide.2 (iff_of_eq (Qii l hc))
 simp only [Qvm,Zb,Qgy,Qfg,z0 0 (by decide),z0 2 (by decide),z0 3 (by decide)] at hst
 have fin:∀(j:Nat) (e:Evt),j<=i+3->i<j->(∀rec:RS->Option (RS⊕RT),z146.l0aP (L.length:Int) (Q1 N L) rec some ((i:Int),acc.map Evt.r,y,m,d)=z146.j2034a rec some (j:Int) (Q1 N L) (acc.map Evt.r) y m d e.k e.y e.m e.d e.v) ->
   match mFin N e (L.drop j) with
   |.inl e=>∀rec:RS->Option (RS⊕RT),z146.l0aP (L.length:Int) (Q1 N L) rec some ((i:Int),acc.map Evt.r,y,m,d)=some (.inr ([],e.2,e.1,acc.map Evt.r,y,m,d))
   |.inr r=>∃j,i<j/\r.2=L.drop j/\j<=L.length/\∀rec:RS->Option (RS⊕RT),z146.l0aP (L.length:Int) (Q1 N L) rec some ((i:Int),acc.map Evt.r,y,m,d)=rec ((j:Int),(acc++[r.1]).map Evt.r,r.1.y,r.1.m,r.1.d):=λj e hj hij h=>by
  have hf:=λrec=>(h rec).trans (Qux (N:=N) (L:=L) (j:=j) (by omega) hL acc hacc y m d e rec)
  unfold mFin
  by_cases hc:(hd N (L.drop j)).k=3/\(hd N (L.drop j)).s=[59]
  ·simp only [if_pos hc] at hf ⊢
   have hjL:j<L.length:=by
    rcases Z52 j L.length with h|h
    ·exact h
    ·rw [Z34 h] at hc;simp [hd] at hc
   exact ⟨j+1,by omega,by rw [List.tail_drop],hjL,hf⟩
  ·simp only [if_neg hc] at hf ⊢
   exact hf
 unfold mEvent
 simp only [t1,t2,t3]
 by_cases h0:(hd N (L.drop i)).k=0
 ·rw [if_neg (λh=>h h0)]
  simp only [h0,decide_true,Zn,Zc] at hst
  have hk:=Qms (hd N (L.drop i)).s
  generalize kindOf (hd N (L.drop i)).s=k at *
  by_cases h1:k<0
  ·rw [if_pos h1]
   simp only [h1,decide_true,Zd] at hst
   exact hst
  ·rw [if_neg h1]
   simp only [h1,decide_false,Zc] at hst
   by_cases h2:(hd N (L.drop (i+1))).k=2
   ·rw [if_neg (λh=>h h2)]
    simp only [h2,decide_true,Zn,Zc] at hst
    rw [Qt0 (Qls hp1 N h2)] at hst
    simp only [Zb] at hst
    generalize mDate (hd N (L.drop (i+1))).s=D at *
    by_cases h3:D.2.2.2=0
    ·rw [if_neg (λh=>h h3)]
     simp only [h3,decide_true,Zn,Zc,Qt1,Zb] at hst
     by_cases h4:dcmp D.1 D.2.1 D.2.2.1 y m d<0
     ·rw [if_pos h4]
      simp only [h4,decide_true,Zd] at hst
      exact hst
     ·rw [if_neg h4]
      simp only [h4,decide_false,Zc] at hst
      by_cases h5:k=3
      ·rw [if_pos h5]
       simp only [h5,decide_true,Zn,Zc] at hst ⊢
       exact fin (i+2) ⟨3,D.1,D.2.1,D.2.2.1,[]⟩ (by omega) (by omega) hst
      ·rw [if_neg h5]
       simp only [h5,decide_false,Zo,Zd] at hst
       obtain ⟨w,e2,hw⟩:=Qoc (k:=k) (by omega) D.1 D.2.1 D.2.2.1 hd2 (hd9 N (L.drop (i+2))).p
       rw [Qoe] at e2 hw
       rw [Qgy,Qfg] at e2
       rw [e2] at hst
       simp only [Zb] at hst
       by_cases h6:(mWorth k (hd N (L.drop (i+2)))).1=0
       ·rw [if_neg (λh=>h h6)]
        simp only [h6,decide_true,Zn,Zc,hw h6] at hst
        exact fin (i+3) ⟨k,D.1,D.2.1,D.2.2.1,(mWorth k (hd N (L.drop (i+2)))).2⟩ (by omega) (by omega) hst
       ·rw [if_pos h6]
        simp only [h6,decide_false,Zo,Zd] at hst
        exact hst
    ·rw [if_pos h3]
     simp only [h3,decide_false,Zo,Zd] at hst
     exact hst
   ·rw [if_pos h2]
    simp only [h2,decide_false,Zo,Zd] at hst
    exact hst
 ·rw [if_pos h0]
  simp only [h0,decide_false,Zo,Zd] at hst
  exact hst
theorem Qox {N:Int} {L:List Tk} (hL:L.length<=4096) (hp:∀t∈L,(t.k=2->dtd t.s=true)/\t.s.length<=4096):∀(n i:Nat) (y m d:Int) (acc:List Evt),i<=L.length->(L.drop i).length<=n->acc.length+(L.drop i).length<=9999 ->
  ∃x,Runs (λrec x=>z146.l0aP (L.length:Int) (Q1 N L) rec some x) ((i:Int),acc.map Evt.r,y,m,d) x/\outR x=encM (Wt N n (L.drop i) y m d acc):=by
 intro n
 induction n with
 |
  zero=>
  intro i y m d acc hiL hn ha
  rw [Z15] at hn
  refine ⟨.inl ((i:Int),acc.map Evt.r,y,m,d),.done λrec=>?_,rfl⟩
  unfold z146.l0aP
  simp only
  rw [Qc (by omega)]
 |
  succ n ih=>
  intro i y m d acc hiL hn ha
  rw [Z15] at hn ha
  by_cases hi:i<L.length
  ·have hne:L.drop i≠[]:=λh=>by have:=congrArg List.length h;rw [Z15] at this;simp at this;omega
   have hev:=Quo (N:=N) hL hp hi acc (by omega) y m d
   rw [Wt,if_neg hne]
   cases he:mEvent N (L.drop i) y m d with
   |
    inl e=>
    rw [he] at hev
    exact ⟨_,.done hev,rfl⟩
   |
    inr r=>
    rw [he] at hev
    obtain ⟨j,h1,h2,h3,h4⟩:=hev
    obtain ⟨x,hx,hx2⟩:=ih j r.1.y r.1.m r.1.d (acc++[r.1]) h3 (by rw [Z15];omega) (by rw [Z15];simp;omega)
    exact ⟨x,.step h4 hx,by rw [hx2,<-h2]⟩
  ·refine ⟨.inl ((i:Int),acc.map Evt.r,y,m,d),.done λrec=>?_,?_⟩
   ·unfold z146.l0aP
    simp only
    rw [Qc (by omega)]
   ·rw [Wt,if_pos (Z34 (by omega))];rfl
theorem Qnt {s:J1} (hs:s.length<=4096):z146.F s=some (encM (Yn s)):=by
 obtain ⟨h1,h2⟩:=Qhk s
 have hsl:=Wo false s
 unfold z146.F Yn
 have e0:=Qmy (s:=s) (by omega) (i:=0) (by omega)
 rw [Z45] at e0
 change z141.F s 0=_ at e0
 rw [e0,Zb]
 obtain ⟨x,r,hx⟩:=Qnz hs (skp false s).length (skp false s) [] (Z3 _) hsl (Qcq false s) (by simp;omega)
 have e:z146.l0 s (((s.length-(skp false s).length:Nat):Int),[])=some x:=r.lfp
 rw [e]
 change (if (lexOf s).2.2=0 then x=.inl ((s.length:Int),[]++(lexOf s).1.map Tk.v) else ∃a,x=.inr ((lexOf s).2.1,(lexOf s).2.2,a)) at hx
 by_cases he:(lexOf s).2.2=0
 ·rw [if_pos he] at hx
  rw [if_neg (λh=>h he),hx]
  simp only [Zb,List.nil_append]
  have l1:((lexOf s).1.map Tk.v).length=(lexOf s).1.length:=by simp
  rw [if_pos (by simp only [Z6,Z29];omega),l1]
  obtain ⟨x2,r2,hx2⟩:=Qox (N:=(s.length:Int)) (L:=(lexOf s).1) (by omega) (λt ht=>⟨(h2 t ht).1,by have:=(h2 t ht).2.1;omega⟩) (lexOf s).1.length 0 0 0 0 [] (by omega) (by simp) (by simp;omega)
  have e2:z146.l0a ((lexOf s).1.length:Int) (Q1 (s.length:Int) (lexOf s).1) ((0:Int),[],0,0,0)=some x2:=r2.lfp
  rw [Z45] at hx2
  refine (congrArg (λo=>Option.bind o _) e2).trans ?_
  show (match x2 with | .inl p6=>_ | .inr q7=>_)=_
  rw [<-hx2]
  cases x2<;>rfl
 ·rw [if_neg he] at hx
  obtain ⟨a,rfl⟩:=hx
  rw [if_pos he]
  simp only [Zb]
  rw [Zf (show ¬(lexOf s).2.2=(0:Int) from he)]
  rfl
def cd (v:Int):UInt8:=UInt8.ofNat (48+v%10).toNat
def dtxt (y m d:Int):J1:=[cd (y/10/10/10),cd (y/10/10),cd (y/10),cd y,45,cd (m/10),cd m,45,cd (d/10),cd d]
theorem Jd {n:Int} (hn:0<=n/\n<1000000) {b1 b2 i:Nat} (hi:i<b2) {L:J0} (hL:b1+i<L.length) (hb:i<100000) (rec:(Int×Int×J0)->Option (Int×Int×J0)) :
  z149.l0P b1 b2 rec some (n,(i:Int),L)=rec (n/10,(i:Int)-1,L.set (b1+i) (48+n%10)):=by
 have e1:Int.tdiv n 10=n/10:=Int.tdiv_eq_ediv_of_nonneg hn.1
 have e2:Int.tmod n 10=n%10:=Int.tmod_eq_emod_of_nonneg hn.1
 unfold z149.l0P
 simp only
 rw [bif_t (by omega),if_pos (by omega),Zi,if_pos hL,e1,e2,Qh (n:=n/10) (by omega) (by omega),Qh (n:=(i:Int)-1) (by omega) (by omega),Qh (n:=48+n%10) (by omega) (by omega),Qa3 (by omega) (by omega)]
theorem Qeq {n:Int} {b1 b2:Nat} {L:J0}:Runs (λrec x=>z149.l0P b1 b2 rec some x) (n,(-1:Int),L) (n,-1,L):=.done λrec=>by
 unfold z149.l0P
 simp only
 rw [Qc (by decide)]
theorem date_Print {y m d:Int} (h:right y m d):z149.F y m d=some (dtxt y m d,0):=by
 obtain ⟨hy,hm1,hm2,hd1,hd2⟩:=Qoy h
 have r1:z149.l0 0 4 (y,3,[48,48,48,48,45,48,48,45,48,48])=some (y/10/10/10/10,-1,[48+y/10/10/10%10,48+y/10/10%10,48+y/10%10,48+y%10,45,48,48,45,48,48]):=by
  refine Runs.lfp ?_
  refine .step (Jd (b1:=0) (b2:=4) (i:=3) (by omega) (by decide) (by decide) (by decide)) ?_
  refine .step (Jd (b1:=0) (b2:=4) (i:=2) (by omega) (by decide) (show 2<10 by decide) (by decide)) ?_
  refine .step (Jd (b1:=0) (b2:=4) (i:=1) (by omega) (by decide) (show 1<10 by decide) (by decide)) ?_
  refine .step (Jd (b1:=0) (b2:=4) (i:=0) (by omega) (by decide) (show 0<10 by decide) (by decide)) ?_
  exact Qeq
 have r2:∀(a b c e:Int),z149.l0 5 (7-5) (m,wr .i64 ((((7-5):Nat):Int)-(1:Int)),[a,b,c,e,45,48,48,45,48,48])=some (m/10/10,-1,[a,b,c,e,45,48+m/10%10,48+m%10,45,48,48]):=λa b c e=>by
  rw [show wr .i64 ((((7-5):Nat):Int)-(1:Int))=1 by decide]
  refine Runs.lfp ?_
  refine .step (Jd (b1:=5) (b2:=2) (i:=1) (by omega) (by decide) (show 6<10 by decide) (by decide)) ?_
  refine .step (Jd (b1:=5) (b2:=2) (i:=0) (by omega) (by decide) (show 5<10 by decide) (by decide)) ?_
  exact Qeq
 have r3:∀(a b c e f g:Int),z149.l0 8 ([a,b,c,e,45,f,g,45,48,48].length-8) (d,wr .i64 ((((([a,b,c,e,45,f,g,45,48,48]:J0).length-8):Nat):Int)-(1:Int)),[a,b,c,e,45,f,g,45,48,48])=some (d/10/10,-1,[a,b,c,e,45,f,g,45,48+d/10%10,48+d%10]):=λa b c e f g=>by
  show z149.l0 8 2 (d,wr .i64 (((2:Nat):Int)-1),_)=_
  rw [show wr .i64 (((2:Nat):Int)-(1:Int))=1 by decide]
  refine Runs.lfp ?_
  refine .step (Jd (b1:=8) (b2:=2) (i:=1) (by omega) (by decide) (show 9<10 by decide) (by decide)) ?_
  refine .step (Jd (b1:=8) (b2:=2) (i:=0) (by omega) (by decide) (show 8<10 by decide) (by decide)) ?_
  exact Qeq
 unfold z149.F
 rw [date_Check,if_pos h,Zb]
 rw [show (!decide ((0:Int)=0))=false from rfl]
 simp only [Zc]
 rw [if_pos (by decide),r1,Zb]
 simp only
 rw [if_pos (by simp only [Z6,Z29];decide),r2,Zb]
 simp only
 rw [if_pos (by simp only [Z6,Z29];decide),r3,Zb]
 rfl
def Qbk (k:Int):J1:=kWords.getD k.toNat []
def vtxt (e:Evt):J1:=if e.k=2\/e.v=kDue then e.v else Qdk (mWhole e.v).1.natAbs 2
def etxt (e:Evt):J1:=Qbk e.k++32::dtxt e.y e.m e.d++(if e.k=3 then [] else 32::vtxt e)++[59,10]
structure Y8 (e:Evt):Prop where
 k:0<=e.k/\e.k<=3
 d:right e.y e.m e.d
 v:mVal e.k e.v=0
 l:e.v.length<=4096
def Seq:Int->Int->Int->List Evt->Prop
 |_,_,_,[]=>True
 |y,m,d,e::t=>¬dcmp e.y e.m e.d y m d<0/\Y8 e/\Seq e.y e.m e.d t
theorem Qin {v:J1} (h:Jp v=0):(mWhole v).2=0/\0<(mWhole v).1/\(mWhole v).1<=10^30:=by
 have e:mMoney v=if (mWhole v).2≠0 then (0,(mWhole v).2) else if (mWhole v).1<0\/10^30<(mWhole v).1 then (0,19) else ((mWhole v).1,0):=rfl
 unfold Jp at h
 by_cases h1:(mWhole v).2=0
 ·rw [if_neg (λhh=>hh h1)] at e
  by_cases h2:(mWhole v).1<0\/10^30<(mWhole v).1
  ·rw [if_pos h2] at e;rw [e] at h;simp at h
  ·rw [if_neg h2] at e
   rw [e] at h
   by_cases h3:(mWhole v).1=0
   ·simp [h3] at h
   ·exact ⟨h1,by omega,by omega⟩
 ·rw [if_pos h1] at e
  rw [e] at h
  simp [h1] at h
theorem Y8.paid {e:Evt} (h:Y8 e) (h2:¬(e.k=2\/e.v=kDue)) (h3:e.k≠3):Jp e.v=0:=by
 have:=h.v
 unfold mVal at this
 rw [if_neg h3,if_neg (λhh=>h2 (.inl hh)),if_neg (λhh=>h2 (.inr hh.2))] at this
 exact this
theorem Qua (c:Nat):Lib.repeatL [48] c=List.replicate c 48:=by
 induction c with
 |zero=>rfl
 |succ c ih=>show 48::Lib.repeatL [48] c=_;rw [ih];rfl
theorem dump_Point {n:Nat} (hn:n<=10^30):z151.F (lb (Int.natAbs (n:Int))) (neg (n:Int))=some (Qdk n 2):=by
 have hl:(txt n).length<=31:=Qj6 (by omega) (by decide)
 have hsz:sz n<=100000000:=Z51 (Qy (k:=31) (by omega)) (by decide)
 have hp:=Qlp n 2
 unfold z151.F z52.F z51.F
 rw [Qc (by decide),Zb,show decide ((2:Int)>64)=false from rfl]
 simp only [Zc,Zb]
 have hit:itxt (n:Int)=txt n:=by unfold itxt;rw [if_neg (by omega)];rfl
 have hcut:cutNeg (txt n)=(txt n,false):=Qrq (Qpl n)
 have key:z150.F (lb (Int.natAbs (n:Int))) (neg (n:Int)) 2=some (Qdk n 2):=by
  unfold z150.F
  rw [Qjp (by exact hsz),Zb,Qgq,Zb,hit,hcut]
  simp only
  have e1:wr .i64 ((2:Int)+1)=3:=by decide
  rw [e1,Qh (n:=3-((txt n).length:Int)) (by omega) (by omega)]
  have e2:z5.F [48] (if 3-((txt n).length:Int)>0 then 3-((txt n).length:Int) else 0)=some (List.replicate (2+1-(txt n).length) 48):=by
   unfold z5.F
   have:(if 3-((txt n).length:Int)>0 then 3-((txt n).length:Int) else 0)=((2+1-(txt n).length:Nat):Int):=by split<;>omega
   rw [this,if_pos (by simp only [Z14];omega),Zi,Qua]
  rw [e2,Zb,show List.replicate (2+1-(txt n).length) 48++txt n=Wq n 2 from rfl]
  have e3:wr .i64 (((Wq n 2).length:Int)-2)=(((Wq n 2).length-2:Nat):Int):=by rw [Qh (by omega) (by omega)];omega
  rw [e3,Zi]
  have lt:((Wq n 2).take ((Wq n 2).length-2)).length<=100:=by rw [Z16];omega
  have ld:((Wq n 2).drop ((Wq n 2).length-2)).length<=100:=by rw [Z15];omega
  rw [if_pos (by rw [List.length_replicate];omega),bif_t (by decide),if_pos (by omega),if_pos (by simp only [Z14];omega),if_pos (by omega),if_pos (by rw [Z9];simp only [Z14];omega)]
  unfold z150.j4
  simp only [Zc,Z65]
  rfl
 rw [key];rfl
theorem Qj0 {e:Evt} (h:Y8 e) (h3:e.k≠3):(vtxt e).length<=4096:=by
 unfold vtxt
 split
 ·exact h.l
 ·rename_i h2
  obtain ⟨_,p1,p2⟩:=Qin (h.paid h2 h3)
  have hl:(txt (mWhole e.v).1.natAbs).length<=31:=Qj6 (by omega) (by decide)
  have hp:=Qlp (mWhole e.v).1.natAbs 2
  unfold Qdk
  rw [Z9,Z6,Z16,Z15]
  omega
theorem Qh2 {k:Int} (hk:0<=k/\k<=3):(Qbk k).length<=6:=by
 have:k=0\/k=1\/k=2\/k=3:=by omega
 rcases this with rfl|rfl|rfl|rfl<;>decide
theorem Qj9 {e:Evt} (h:Y8 e):0<(etxt e).length/\(etxt e).length<=5000:=by
 have h1:=Qh2 h.k
 have h2:(dtxt e.y e.m e.d).length=10:=rfl
 unfold etxt
 by_cases h3:e.k=3
 ·rw [if_pos h3];simp only [Z9,Z6,Z29];omega
 ·have:=Qj0 h h3
  rw [if_neg h3];simp only [Z9,Z6,Z29];omega
theorem Qoi (a b:J1):Lib.join [a,b] [32]=a++32::b:=by
 unfold Lib.join;simp [List.intercalate]
theorem Qqv (a b c:J1):Lib.join [a,b,c] [32]=a++32::b++32::c:=by
 unfold Lib.join;simp [List.intercalate]
theorem script_text {e:Evt} (h:Y8 e):z152.F e.k e.y e.m e.d e.v=some (etxt e):=by
 have hk:=h.k
 have h1:=Qh2 h.k
 have h2:(dtxt e.y e.m e.d).length=10:=rfl
 have hw:kWords.getD e.k.toNat []=Qbk e.k:=rfl
 have last:∀V:J1,V.length<=4096->(if (([kWords.getD e.k.toNat [],dtxt e.y e.m e.d]:List J1).length+([V]:List J1).length)*16<=140737488355328 then ((z6.F ([kWords.getD e.k.toNat [],dtxt e.y e.m e.d]++[V]) ([32]:J1)).bind λr7=>(if r7.length+([59,10]:J1).length<=9223372036854775807 then (some (r7++([59,10]:J1))) else none)) else none)=some (Qbk e.k++32::dtxt e.y e.m e.d++32::V++[59,10]):=λV hV=>by
  rw [if_pos (by show (2+1)*16<=_;decide),hw]
  unfold z6.F
  rw [show [Qbk e.k,dtxt e.y e.m e.d]++[V]=[Qbk e.k,dtxt e.y e.m e.d,V] from rfl,Qqv]
  rw [if_pos ⟨by show 3<=_;decide,by simp only [Z9,Z6];omega⟩,Zb,if_pos (by simp only [Z9,Z6,Z29];omega)]
 unfold z152.F
 rw [date_Print h.d,Zb,show z76.F=some kWords from rfl,Zb,if_pos (by show 0<=e.k/\e.k<((4:Nat):Int);omega)]
 simp only
 unfold etxt
 by_cases h3:e.k=3
 ·rw [bif_t h3,if_pos h3,hw]
  unfold z6.F
  rw [Qoi,if_pos ⟨by show 2<=_;decide,by simp only [Z9,Z6];omega⟩,Zb,if_pos (by simp only [Z9,Z6,Z29];omega)]
  simp
 ·rw [Qc h3,if_neg h3]
  have hv:=Qj0 h h3
  unfold vtxt at hv ⊢
  by_cases h4:e.k=2
  ·rw [bif_t h4]
   rw [if_pos (show e.k=2\/e.v=kDue from .inl h4)] at hv ⊢
   unfold z152.j3
   simp only [Zd]
   exact last _ hv
  ·rw [Qc h4]
   unfold z152.j3
   by_cases h5:e.v=kDue
   ·rw [Zt (show e.v=[100,117,101] from h5)]
    rw [if_pos (show e.k=2\/e.v=kDue from .inr h5)] at hv ⊢
    simp only [Zd]
    exact last _ hv
   ·rw [Zf (show ¬e.v=[100,117,101] from h5)]
    have h6:¬(e.k=2\/e.v=kDue):=λhh=>hh.elim h4 h5
    rw [if_neg h6] at hv ⊢
    simp only [Zc]
    obtain ⟨p0,p1,p2⟩:=Qin (h.paid h6 h3)
    have hn:((mWhole e.v).1.natAbs:Int)=(mWhole e.v).1:=by omega
    rw [whole_Parse,Zb]
    have hp:=dump_Point (n:=(mWhole e.v).1.natAbs) (by omega)
    rw [hn] at hp
    rw [hp,Zb]
    exact last _ hv
theorem script_wrong {e:Evt} (h:Y8 e) {y m d:Int} (hs:¬dcmp e.y e.m e.d y m d<0):z147.F e.k e.y e.m e.d e.v y m d=some 0:=by
 have hk:=h.k
 unfold z147.F
 rw [Qc (by omega),Zf (by omega)]
 unfold z147.j1
 simp only [Zc]
 rw [date_Check,if_pos h.d,Zb,show (!decide ((0:Int)=0))=false from rfl]
 simp only [Zc]
 rw [date_Cmp,Zb,Qc hs,script_value hk,h.v];rfl
theorem eK {R:Type} (t:Evt) (K:Int->Option R):V.asInt .i64 ((Evt.r t).getD 0 .undef) K=K t.k:=rfl
theorem eY {R:Type} (t:Evt) (K:Int->Option R):V.asInt .i64 ((Evt.r t).getD 1 .undef) K=K t.y:=rfl
theorem eM {R:Type} (t:Evt) (K:Int->Option R):V.asInt .i64 ((Evt.r t).getD 2 .undef) K=K t.m:=rfl
theorem eD {R:Type} (t:Evt) (K:Int->Option R):V.asInt .i64 ((Evt.r t).getD 3 .undef) K=K t.d:=rfl
theorem eV {R:Type} (t:Evt) (K:J1->Option R):V.asStr ((Evt.r t).getD 4 .undef) K=K t.v:=rfl
theorem Qc1 {L:List Evt} {i:Nat} (h:i<L.length):(L.map Evt.r).getD i []=Evt.r L[i]:=by
 rw [Zl,Z73,Z1 h];rfl
theorem Qkx {L:List Evt} (hL:L.length<=10000):∀(f i:Nat) (y m d:Int),i+f=L.length->Seq y m d (L.drop i)->∃x,Runs (λrec x=>z148.l0P (L.map Evt.r) (L.length:Int) rec some x) ((i:Int),y,m,d) (.inl x)
 |
  0,i,y,m,d,h,_=>by
  refine ⟨((i:Int),y,m,d),.done λrec=>?_⟩
  unfold z148.l0P
  simp only
  rw [Qc (by omega)]
 |
  f+1,i,y,m,d,h,hs=>by
  have hi:i<L.length:=by omega
  rw [Z21 hi] at hs
  obtain ⟨s1,s2,s3⟩:=hs
  obtain ⟨x,hx⟩:=Qkx hL f (i+1) _ _ _ (by omega) s3
  refine ⟨x,.step (λrec=>?_) hx⟩
  have l2:(L.map Evt.r).length=L.length:=by simp
  unfold z148.l0P
  simp only
  rw [bif_t (by omega),if_pos (by omega),Zi,Qc1 hi]
  simp only [eK,eY,eM,eD,eV]
  rw [script_wrong s2 s1,Zb,Qh (by omega) (by omega)];rfl
theorem script_Check {L:List Evt} (hL:L.length<=10000) (hs:Seq 0 0 0 L):z148.F (L.map Evt.r)=some (0,0):=by
 have l2:(L.map Evt.r).length=L.length:=by simp
 obtain ⟨x,hx⟩:=Qkx hL L.length 0 0 0 0 (by omega) hs
 have e:z148.l0 (L.map Evt.r) (L.length:Int) (0,0,0,0)=some (.inl x):=hx.lfp
 unfold z148.F
 rw [l2,Qc (by omega),e];rfl
def stxt (L:List Evt):J1:=(L.map etxt).flatten
theorem Qku (e:Evt) (t:List Evt):stxt (e::t)=etxt e++stxt t:=by simp [stxt]
def Wm (s:J1):J0:=s.map λc=>(c.toNat:Int)
theorem Qq7 (s:J1):(Wm s).map (λn=>UInt8.ofNat n.toNat)=s:=by
 unfold Wm
 rw [List.map_map]
 refine (Z75 λb _=>?_).trans (List.map_id s)
 show UInt8.ofNat ((b.toNat:Int)).toNat=b
 simp
theorem Qps (s:J1):(Wm s).all Y9=true:=by
 unfold Wm
 rw [Z13]
 intro n hn
 obtain ⟨b,_,rfl⟩:=List.mem_map.1 hn
 have:=b.toNat_lt
 simp only [Y9,Z5,decide_eq_true_eq]
 omega
theorem Qmv:∀{L:List Evt} {y m d:Int},Seq y m d L->∀e∈L,Y8 e
 |[],_,_,_,_,e,he=>by simp at he
 |
  a::t,_,_,_,h,e,he=>by
  rcases Z86.1 he with rfl|he
  ·exact h.2.1
  ·exact Qmv h.2.2 e he
theorem Ql7 {L:List Evt} (hL:L.length<=10000) (hok:∀e∈L,Y8 e):∀(f i:Nat) (T:J1),i+f=L.length->T.length<=5000*i->Runs (λrec x=>z153.l0P (L.map Evt.r) (L.length:Int) rec some x) ((i:Int),Wm T) ((L.length:Int),Wm (T++stxt (L.drop i)))
 |
  0,i,T,h,hT=>by
  refine .done λrec=>?_
  unfold z153.l0P
  simp only
  rw [Qc (by omega),Z34 (by omega),show (i:Int)=(L.length:Int) by omega]
  simp [stxt]
 |
  f+1,i,T,h,hT=>by
  have hi:i<L.length:=by omega
  have ho:=hok L[i] (Z11 hi)
  have hl:=Qj9 ho
  have l2:(L.map Evt.r).length=L.length:=by simp
  have ih:=Ql7 hL hok f (i+1) (T++etxt L[i]) (by omega) (by rw [Z9];omega)
  have e:T++etxt L[i]++stxt (L.drop (i+1))=T++stxt (L.drop i):=by
   rw [Z21 hi,Qku,Z65]
  rw [e] at ih
  refine .step (λrec=>?_) ih
  unfold z153.l0P
  simp only
  rw [bif_t (by omega),if_pos (by omega),Zi,Qc1 hi]
  simp only [eK,eY,eM,eD,eV]
  rw [script_text ho,Zb,if_pos (by unfold Wm;rw [Z33,Z33];omega),Qh (by omega) (by omega)]
  unfold Wm
  rw [List.map_append];rfl
theorem script_Print {L:List Evt} (hL:L.length<=10000) (hne:L≠[]) (hs:Seq 0 0 0 L):z153.F (L.map Evt.r)=some (stxt L,0):=by
 have hpos:=Z19.2 hne
 have hok:=Qmv hs
 have ho:=hok L[0] (Z11 hpos)
 have hl:=Qj9 ho
 have l2:(L.map Evt.r).length=L.length:=by simp
 have r:=Ql7 hL hok (L.length-1) 1 (etxt L[0]) (by omega) (by omega)
 have e1:etxt L[0]++stxt (L.drop 1)=stxt L:=by
  conv=>rhs;rw [<-Z45 (l:=L),Z21 hpos,Qku]
 rw [e1] at r
 have e:z153.l0 (L.map Evt.r) (L.length:Int) (1,Wm (etxt L[0]))=some ((L.length:Int),Wm (stxt L)):=r.lfp
 have hsl:0<(Wm (stxt L)).length:=by unfold Wm;rw [Z33,<-e1,Z9];omega
 unfold z153.F
 rw [script_Check hL hs,Zb,show (!decide ((0:Int)=0))=false from rfl]
 simp only [Zc]
 rw [l2,bif_t (by omega),if_pos (by omega),Qc1 hpos]
 simp only [eK,eY,eM,eD,eV]
 rw [script_text ho,Zb]
 change (if (([]:J0).length+(Wm (etxt L[0])).length)*1<=140737488355328 then ((z153.l0 (L.map Evt.r) (L.length:Int) (1,[]++Wm (etxt L[0]))).bind _) else none)=_
 rw [if_pos (by unfold Wm;rw [Z33];simp only [Z29];omega),List.nil_append,e,Zb]
 simp only
 rw [if_pos hsl,if_pos ⟨trivial,hsl,Qps _⟩,Qq7]
def lxF (N:Nat):Nat->J1->List Tk×Int×Int
 |0,_=>([],0,0)
 |
  f+1,r=>if r=[] then ([],0,0) else
  if (tokOf r).2.2=0 then
   if (lxF N f (skp false (r.drop (tokOf r).2.1.length))).2.2=0 then (⟨(tokOf r).1,(tokOf r).2.1,(N:Int)-r.length⟩::(lxF N f (skp false (r.drop (tokOf r).2.1.length))).1,0,0) else ([],(lxF N f (skp false (r.drop (tokOf r).2.1.length))).2.1,(lxF N f (skp false (r.drop (tokOf r).2.1.length))).2.2)
  else ([],(N:Int)-r.length,(tokOf r).2.2)
theorem Qtn (N:Nat):∀(f:Nat) (r:J1),r.length<=f->lxF N f r=lx N r:=by
 intro f
 induction f with
 |
  zero=>
  intro r h
  have:r=[]:=Z7 (by omega)
  subst this
  rw [lx_nil];rfl
 |
  succ f ih=>
  intro r h
  rw [lxF]
  by_cases hr:r=[]
  ·rw [if_pos hr,hr,lx_nil]
  ·rw [if_neg hr]
   by_cases he:(tokOf r).2.2=0
   ·obtain ⟨l1,l2⟩:=Qb7 hr he
    have h4:=Wo false (r.drop (tokOf r).2.1.length)
    rw [Z15] at h4
    rw [if_pos he,Qay hr he,ih _ (by omega)]
   ·rw [if_neg he,Qbl hr he]
def Qko (s:J1):List Evt×Int×Int:=
 if (lxF s.length s.length (skp false s)).2.2≠0 then ([],(lxF s.length s.length (skp false s)).2.1,(lxF s.length s.length (skp false s)).2.2) else Wt (s.length:Int) (lxF s.length s.length (skp false s)).1.length (lxF s.length s.length (skp false s)).1 0 0 0 []
theorem Qji (s:J1):Qko s=Yn s:=by
 unfold Qko Yn lexOf
 rw [Qtn _ _ _ (Wo false s)]
def wkA:J1:=[112,97,121,32,50,48,50,52,45,48,50,45,48,49,32,100,117,101,59,32,114,101,115,101,116,32,50,48,50,52,45,48,51,45,49,53,32,53,46,53,59]
def wkB:J1:=[112,97,115,115,32,50,48,50,52,45,48,50,45,48,49,59,32,112,97,115,115,32,50,48,50,52,45,48,49,45,48,49,59]
def wkL:List Evt:=[⟨0,2024,2,1,kDue⟩,⟨2,2024,3,15,[53,46,53]⟩]
theorem wk1:Yn wkA=(wkL,0,0):=by rw [<-Qji];decide +kernel
theorem wk2:Yn wkB=([],22,12):=by rw [<-Qji];decide +kernel
theorem Qte:Seq 0 0 0 wkL:=by
 refine ⟨by decide +kernel,⟨by decide,by decide +kernel,by decide +kernel,by decide⟩,by decide +kernel,⟨by decide,by decide +kernel,by decide +kernel,by decide⟩,trivial⟩
theorem wkT:stxt wkL=[112,97,121,32,50,48,50,52,45,48,50,45,48,49,32,100,117,101,59,10,114,101,115,101,116,32,50,48,50,52,45,48,51,45,49,53,32,53,46,53,59,10]:=by decide +kernel
theorem Qu6:z154.F=some true:=by
 unfold z154.F
 have e1:z97.F wkA=some (encM (wkL,0,0)):=by rw [script_Parse (by decide),wk1]
 have e2:z97.F wkB=some (encM ([],22,12)):=by rw [script_Parse (by decide),wk2]
 have e3:z153.F (wkL.map Evt.r)=some (stxt wkL,0):=script_Print (by decide) (by decide) Qte
 change ((z97.F wkA).bind _)=_
 rw [e1,Zb]
 change ((z153.F (wkL.map Evt.r)).bind _)=_
 rw [e3,Zb]
 change ((z97.F wkB).bind _)=_
 rw [e2,Zb,wkT]
 rfl
theorem Qit (L:List Evt) (hL:L.length<=1000000):∀(f i:Nat),i+f=L.length->∃x,Runs (λrec x=>z155.l0P (L.map Evt.r) (L.map Evt.r) (L.length:Int) rec some x) (i:Int) (.inl x)
 |
  0,i,h=>by
  refine ⟨(i:Int),.done λrec=>?_⟩
  unfold z155.l0P
  rw [Qc (by omega)]
 |
  f+1,i,h=>by
  have hi:i<L.length:=by omega
  obtain ⟨x,hx⟩:=Qit L hL f (i+1) (by omega)
  refine ⟨x,.step (λrec=>?_) hx⟩
  have l2:(L.map Evt.r).length=L.length:=by simp
  have c:(0:Int)<=(i:Int)/\(i:Int)<((L.map Evt.r).length:Int):=by omega
  unfold z155.l0P
  rw [bif_t (by omega),if_pos c,Zi,Qc1 hi]
  simp only [eK,eY,eM,eD,eV,if_pos c,decide_true,Bool.and_self,Zn,Zc]
  rw [Qh (by omega) (by omega)];rfl
theorem Qu9 (L:List Evt) (hL:L.length<=1000000):z155.F (L.map Evt.r) (L.map Evt.r)=some true:=by
 have l2:(L.map Evt.r).length=L.length:=by simp
 obtain ⟨x,hx⟩:=Qit L hL L.length 0 (by omega)
 have e:z155.l0 (L.map Evt.r) (L.map Evt.r) (L.length:Int) 0=some (.inl x):=hx.lfp
 unfold z155.F
 rw [l2,Zt (show ((L.length:Nat):Int)=(L.length:Nat) from rfl),e];rfl
theorem Qjs (N:Int):∀(n:Nat) (l:List Tk) (y m d:Int) (acc:List Evt),(Wt N n l y m d acc).1.length<=acc.length+n
 |0,l,y,m,d,acc=>by simp [Wt]
 |
  n+1,l,y,m,d,acc=>by
  rw [Wt]
  split
  ·simp
  ·split
   ·simp
   ·rename_i r _
    have:=Qjs N n r.2 r.1.y r.1.m r.1.d (acc++[r.1])
    rw [Z9] at this
    simp only [Z14] at this
    omega
theorem Qtm (s:J1):(Yn s).1.length<=s.length:=by
 have h:=(Qhk s).1
 unfold Yn
 split
 ·simp
 ·have:=Qjs (s.length:Int) (lexOf s).1.length (lexOf s).1 0 0 0 []
  simp only [Z29] at this
  omega
theorem Qvh (s:J1):((0:Int)<=(if (800:Int)<(s.length:Int) then (800:Int) else (s.length:Int))/\(if (800:Int)<(s.length:Int) then (800:Int) else (s.length:Int))<=(s.length:Int))/\(s.take (if (800:Int)<(s.length:Int) then (800:Int) else (s.length:Int)).toNat).length<=800:=by
 by_cases h:(800:Int)<(s.length:Int)
 ·rw [if_pos h];exact ⟨by omega,by rw [Z16];omega⟩
 ·rw [if_neg h];exact ⟨by omega,by rw [Z16];omega⟩
theorem Qso {s:J1} (h:s.length<=maxLen):z156.F s=some true:=by
 obtain ⟨h1,h2⟩:=Qvh s
 unfold z156.F
 rw [if_pos h1]
 generalize s.take (if (800:Int)<(s.length:Int) then (800:Int) else (s.length:Int)).toNat=t at *
 have hl:=Qtm t
 rw [script_Parse (by omega),Zb,Qnt (by omega),Zb,Qu6,Zb]
 simp only [Zd,encM]
 rw [Qu9 _ (by omega),Zb]
 simp
end Go.Proofs.YtjfipepaaddlmaaGreatDoor.A
end
section
set_option linter.unusedVariables false
namespace Go.Proofs.YtjfipepaaddlmaaGreatDoor.A
open Go
namespace ScriptParses
theorem law (a0:J1) (h0:a0.length<=maxLen):z156.F a0=some true:=
 Qso h0
end ScriptParses
end Go.Proofs.YtjfipepaaddlmaaGreatDoor.A
end
section
set_option maxRecDepth 100000
namespace Go.Proofs.YtjfipepaaddlmaaGreatDoor.A
open Go Go.RowKit Go.ChangeShapes Go.WideShapes Go.ChangeAt
noncomputable section
namespace ScriptParses
theorem wide:Qbc Tryz.prog 8 Tryz.f5.params.toList=some [(.one (.sc .s))]:=by kernel_rfl
theorem readable:Tryz.f5.params.toList.all (λt=>Tryz.prog.readableRec t&&decide (t<Tryz.prog.types.size))=true:=by kernel_rfl
noncomputable def args0:Array Value:=#[.string ⟨#[]⟩]
theorem laid_met (os:Os):laidMet Tryz.prog Rows.scriptParsesRow.laid ((Qfy os).forCall (λ_ _=>0) ⟨#[],args0,[]⟩).memory:=
 laidMet_of_run' 12 (by kernel_rfl) (by kernel_rfl)
theorem reads (os:Os) {H:Type} (enc:TypeId×Value->H):∃ds places,DataW.whole enc Tryz.prog ((Qfy os).forCall (λ_ _=>0) ⟨#[],args0,[]⟩).memory Tryz.f5.params.toList Rows.scriptParsesSpec.vars false args0.toList 12=some (ds,[],places):=
 ⟨[.lit (.string [])],[],by kernel_rfl⟩
theorem plainly (vs:List V) (h:okAL [(.one (.sc .s))] vs):∃p r,SoundC Tryz.prog 5 vs p/\p.m=some r/\p.enc r=.bool true:=by
 obtain ⟨_,_,rfl,⟨a0,rfl,h0⟩,rfl⟩:=h
 exact ⟨⟨Bool,z156.F a0,z8.enc⟩,true,z156.sound _ _ (by kernel_rfl),law a0 h0,rfl⟩
theorem specFn {H:Type} (ds:List (DataW H)) (h:ds.length=Tryz.f5.params.toList.length):Rows.scriptParsesSpec.fn H ds={results:=[.lit (.bool true)],args:=ds}:=by
 have h:ds.length=1:=h.trans (by kernel_rfl)
 match ds,h with
 |[d0],_=>rfl
theorem clos:Tryz.prog.closure 5=[5,24,70,119,163,207,208,209,238,210,189,229,172,213,164,190,230,240,192,191,43,91,120,165,166,167,168,169,170,171,161,204,211,239,148,193,231,212,205,234,235,236,251,256,162,108,157,104,206,237,145,102,53,103,52,60,71,121,123,122,124,173,133,175,216,217,115,153,195,160,125,134,176,218,117,16,242,252,257,241,194,66,12,54,105,154,196,106,177,219,180,224,215,220,243,245,246,214,221,244,254,253,258,107,109,155,197,198,232,156,199,200,201,202,203,233,223,222,247,255,174,13,55,110,78,135,178,80,25,72,126,127,128,129,130,131,111,158,69,73,74,81,96,149,75,76,132,48,97,14,56,82,138,182,225,23,226,248,249,250,159,113,114,183,141,184,227,228,142,59,58,112,187,185,84,140,186,57,26,31,30,77,79,136,179,137,181,36,86,144,88,146,188,89,38,27]:=by kernel_rfl
theorem inPlace:(Rows.scriptParsesRow.inPlace == Tryz.prog.inPlace 5)=true:=by unfold Program.inPlace;rw [clos];kernel_rfl
theorem unfollowed:(Rows.scriptParsesRow.unfollowed == Tryz.prog.unfollowed 5)=true:=by unfold Program.unfollowed;rw [clos];kernel_rfl
theorem recurses:(Rows.scriptParsesRow.recurses == Tryz.prog.recurses 5)=true:=by unfold Program.recurses Program.unfollowed;rw [clos];kernel_rfl
theorem named:(Rows.scriptParsesRow.named == Tryz.prog.varsNamed 5)=true:=by unfold Program.varsNamed;rw [clos];kernel_rfl
theorem number:Tryz.prog.funcNamed "chattel/chattellaw23.ScriptParses" = some 5:=by kernel_rfl
theorem goes:false=Rows.scriptParsesRow.goesBy Tryz.prog:=by
 have h:Tryz.prog.goes 5=false:=by unfold Program.goes Program.unfollowed;rw [clos];kernel_rfl
 have e:Rows.scriptParsesRow.goesBy Tryz.prog=((Tryz.prog.funcNamed "chattel/chattellaw23.ScriptParses").any Tryz.prog.goes||false):=by kernel_rfl
 rw [e,number]
 simp [h]
theorem j_wf:Rows.scriptParsesRow.wf (OpenSpec.ofChange (OpenSpec.ofChange Rows.scriptParsesSpec).bare)=true:=by kernel_rfl
theorem j_params:(Tryz.f5.params.all (Tryz.pinned.checked.prog.readableRec ·))=true:=by kernel_rfl
theorem j_vars:namedTie Tryz.pinned.checked.prog Rows.scriptParsesRow.named (OpenSpec.ofChange Rows.scriptParsesSpec).bare.vars=true:=by kernel_rfl
theorem j_stops:(Rows.scriptParsesRow.stops == [])=true:=by kernel_rfl
theorem j_knobs:(Rows.scriptParsesRow.knobs == [])=true:=by kernel_rfl
theorem j_maps:(Rows.scriptParsesRow.maps == (Tryz.f5.params.toList++DataSpec.varTypes Tryz.pinned.checked.prog (OpenSpec.ofChange Rows.scriptParsesSpec).bare.plain).any (Tryz.pinned.checked.prog.mapsRec ·))=true:=by kernel_rfl
theorem j_ifaces:(Rows.scriptParsesRow.ifaces == (Tryz.f5.params.toList++DataSpec.varTypes Tryz.pinned.checked.prog (OpenSpec.ofChange Rows.scriptParsesSpec).bare.plain).any (Tryz.pinned.checked.prog.ifacesRec ·))=true:=by kernel_rfl
theorem j_mapsOut:(Rows.scriptParsesRow.mapsOut == Tryz.pinned.checked.prog.mapsAmong Tryz.f5.resultTypes.toList)=true:=by kernel_rfl
theorem j_loops:(Rows.scriptParsesRow.loops == (Tryz.f5.params.toList++DataSpec.varTypes Tryz.pinned.checked.prog (OpenSpec.ofChange Rows.scriptParsesSpec).bare.plain).any (Tryz.pinned.checked.prog.loopsFrom ·))=true:=by kernel_rfl
theorem j_wideKeys:(Rows.scriptParsesRow.wideKeys == (Tryz.f5.params.toList++DataSpec.varTypes Tryz.pinned.checked.prog (OpenSpec.ofChange Rows.scriptParsesSpec).bare.plain++Tryz.f5.resultTypes.toList).any (Tryz.pinned.checked.prog.wideKeysFrom ·))=true:=by kernel_rfl
theorem j_varsRead:(OpenSpec.ofChange Rows.scriptParsesSpec).bare.vars.all (Tryz.pinned.checked.prog.varReadable ·)=true:=by kernel_rfl
theorem j_results:(Tryz.f5.resultTypes.all λt=>Tryz.pinned.checked.prog.readableRec t&&decide (t<Tryz.pinned.checked.prog.types.size))=true:=by kernel_rfl
theorem j_ifacesOut:(Rows.scriptParsesRow.ifacesOut == Tryz.f5.resultTypes.toList.any (Tryz.pinned.checked.prog.ifacesRec ·))=true:=by kernel_rfl
theorem j_loopsOut:(Rows.scriptParsesRow.loopsOut == Tryz.f5.resultTypes.toList.any (Tryz.pinned.checked.prog.loopsFrom ·))=true:=by kernel_rfl
theorem j_plainKeys:(Rows.scriptParsesRow.plainKeys == Tryz.pinned.checked.prog.plainKeys)=true:=by kernel_rfl
theorem j_short:Rows.scriptParsesRow.shortTexts.isNone=true:=by kernel_rfl
theorem j_lift:(Rows.scriptParsesRow.lifted == Tryz.pinned.checked.prog.liftsFinal)=true:=by kernel_rfl
theorem j_make:(Tryz.pinned.checked.prog.make == some Rows.scriptParsesRow.make)=true:=by kernel_rfl
theorem j_kinds:(Rows.scriptParsesRow.kinds == (if Rows.scriptParsesRow.domain.isEmpty then [] else Tryz.f5.params.toList.map λt=>match Tryz.pinned.checked.prog.underlying t with|some (.int k)=>some k|_=>none))=true:=by kernel_rfl
theorem j_pinned:(Rows.scriptParsesRow.pinned == Rows.scriptParsesRow.pinnedBy)=true:=by kernel_rfl
theorem j_veiled:(Rows.scriptParsesRow.veiled == (Tryz.f5.params.toList++DataSpec.varTypes Tryz.pinned.checked.prog (OpenSpec.ofChange Rows.scriptParsesSpec).bare.plain++Tryz.f5.resultTypes.toList).any (Tryz.pinned.checked.prog.veiledRec ·))=true:=by kernel_rfl
theorem j_veiledFits:Rows.scriptParsesRow.veiledFits Tryz.pinned.checked.prog Tryz.f5.params.toList (Tryz.f5.params.toList++DataSpec.varTypes Tryz.pinned.checked.prog (OpenSpec.ofChange Rows.scriptParsesSpec).bare.plain++Tryz.f5.resultTypes.toList)=true:=by kernel_rfl
theorem joined:joinedFacts Tryz.pinned.checked.prog 5 Tryz.f5 (OpenSpec.ofChange Rows.scriptParsesSpec).bare Rows.scriptParsesRow=true:=by
 unfold joinedFacts
 simp only [Z5]
 and_intros
 ·exact j_wf
 ·exact laidOut
 ·exact rowed
 ·exact j_params
 ·exact j_vars
 ·exact j_stops
 ·exact Qve
 ·exact j_knobs
 ·exact Qru
 ·exact inPlace
 ·exact unfollowed
 ·exact recurses
 ·exact named
 ·exact j_maps
 ·exact j_ifaces
 ·exact j_mapsOut
 ·exact j_loops
 ·exact j_wideKeys
 ·exact j_varsRead
 ·exact j_results
 ·exact j_ifacesOut
 ·exact j_loopsOut
 ·exact j_plainKeys
 ·exact j_short
 ·exact Qos
 ·exact Qnp
 ·exact j_lift
 ·exact j_make
 ·exact j_kinds
 ·exact j_pinned
 ·exact j_veiled
 ·exact j_veiledFits
theorem lifted (os:Os) (started:os.Started) (H:Type) (enc:TypeId×Value->H) (F:Stop.Interp) :
  ReturnsInHanded {} Tryz.checked os 5 .any ((OpenSpec.ofChange Rows.scriptParsesSpec).preRow enc Tryz.prog Tryz.f5 Rows.scriptParsesRow.domain false Rows.scriptParsesRow.laid) (((OpenSpec.ofChange Rows.scriptParsesSpec).at F).post enc Tryz.prog Tryz.f5 false true false false):=by
 obtain ⟨ds0,places,hx⟩:=reads os enc
 refine returnsInHanded_of_row (C:=Tryz.checked) (s:=OpenSpec.ofChange Rows.scriptParsesSpec) own started (by kernel_rfl) Tryz.func5
  (witness_row_at (enc:=enc) (C:=Tryz.checked) false (Qfy os) args0 rfl (by kernel_rfl) (by kernel_rfl) (by kernel_rfl)
   (OpenSpec.preRow_of_cond 12 hx (by kernel_rfl) (λk hk=>by cases hk) (by kernel_rfl) (laid_met os))) ?_
 intro W base args ds gs before hval hW _ _ _ hL _ _
 exact Qr4 fun5 laidOut readable wide (tb:=4) (by kernel_rfl) (by kernel_rfl) rfl specFn plainly W base args ds gs before hval hW
theorem wrapped:Tryz.f5.isWrapper Tryz.pinned.checked.prog Rows.scriptParsesRow.wrapper Rows.scriptParsesRow.mainSum:=by
 unfold Func.isWrapper;first|(rw [if_pos (by decide +kernel)];kernel_rfl)|(rw [if_neg (by decide +kernel)];exact ⟨rfl,rfl⟩)
theorem origin:Tryz.f5.isInstance Tryz.pinned.checked.prog Rows.scriptParsesRow.origin Rows.scriptParsesRow.targs:=of_decide_eq_true (by kernel_rfl)
theorem said:Rows.ScriptParsesSaid:=
 OpenClaim.holds_of_cond 5 Tryz.f5 rfl rfl rfl rfl rfl rfl rfl ⟨rfl,rfl,rfl,rfl,rfl⟩ rfl rfl rfl rfl rfl number Tryz.func5 joined origin wrapped
  (λos started H enc _ F=>by rw [OpenClaim.pre_eq_preRow];exact lifted os started H enc F)
theorem plainRow (f:FuncId) (fn:Func) (hf:Tryz.pinned.checked.prog.funcNamed "chattel/chattellaw23.ScriptParses" = some f) (hfn:Tryz.pinned.checked.prog.funcs[f]? = some fn) :
  false=Tryz.pinned.checked.prog.looks []/\∀(j:Nat) t,fn.params[j]? = some t->Tryz.pinned.checked.prog.wantsStandIn t=false:=by
 obtain rfl:f=5:=Option.some.inj (number.symm.trans hf) |>.symm
 obtain rfl:fn=Tryz.f5:=(Option.some.inj (Tryz.func5.symm.trans hfn)).symm
 refine ⟨Qui,λj t ht=>?_⟩
 have hall:Tryz.f5.params.toList.all (λt=>!Tryz.prog.wantsStandIn t)=true:=by kernel_rfl
 have:=Z13.1 hall t (by simpa using Array.mem_of_getElem? ht)
 exact Z50 _ |>.mp this
theorem card:Rows.ScriptParsesCardSaid:=
 Claim7.holds_tied_plain_at .later [] _ _ _ _ said (λ_ h=>by cases h) (by kernel_rfl) (λ_ h=>by cases h) scriptParses_row_tie rfl ⟨rfl,rfl⟩ main rfl plainRow goes
end ScriptParses
end
end Go.Proofs.YtjfipepaaddlmaaGreatDoor.A
end
