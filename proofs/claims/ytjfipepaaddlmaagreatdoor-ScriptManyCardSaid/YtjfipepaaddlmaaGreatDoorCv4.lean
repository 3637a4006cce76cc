/- Part 4 of the proof of ScriptMany.card. -/
import Derived.Test.YtjfipepaaddlmaaGreatDoorCv3
import Derived.Deep.DeepHandedRow
import Derived.Lib.LaidTab
set_option linter.unusedVariables false
set_option linter.unusedSimpArgs false
section
namespace Go.Proofs.YtjfipepaaddlmaaGreatDoor.A
open Go
theorem Qgw {a b:Int} (hb:0<b):(Int.tmod a b<0->Int.tmod a b+b=a%b)/\(¬Int.tmod a b<0->Int.tmod a b=a%b)/\-b<Int.tmod a b/\Int.tmod a b<b:=by
 have h1:=Int.emod_nonneg a (show b≠0 by omega)
 have h2:=Int.emod_lt_of_pos a hb
 have h3:=Int.tmod_eq_emod (a:=a) (b:=b)
 by_cases h:0<=a\/b∣a
 ·rw [if_pos h] at h3;omega
 ·rw [if_neg h] at h3
  have:a%b≠0:=λe=>h (.inr (Int.dvd_of_emod_eq_zero e))
  omega
theorem Qso {a b c n:Int} (hn:1<=n/\n<=9999):∃y m d,z116.F a b c n=some (y,m,d)/\right y m d/\y<=n:=by
 have f1:=Qgw (a:=a) (b:=n) (by omega)
 have f2:=Qgw (a:=b) (b:=12) (by omega)
 have m1:=Int.emod_nonneg a (show n≠0 by omega)
 have m2:=Int.emod_lt_of_pos a (show 0<n by omega)
 have hd:=Qgf (y:=a%n+1) (m:=b%12+1) (by omega) (by omega)
 have hd':=Ql0 (a%n+1) (b%12+1)
 have f3:=Qgw (a:=c) (b:=dDays (a%n+1) (b%12+1)) (by omega)
 have m5:=Int.emod_nonneg c (show dDays (a%n+1) (b%12+1)≠0 by omega)
 have m6:=Int.emod_lt_of_pos c (show 0<dDays (a%n+1) (b%12+1) by omega)
 refine ⟨a%n+1,b%12+1,c%dDays (a%n+1) (b%12+1)+1,?_,⟨by omega,by omega⟩,by omega⟩
 have hj8:∀j,j=b%12->Int.tmod a n=a%n->z116.j8 a n j c=some (a%n+1,b%12+1,c%dDays (a%n+1) (b%12+1)+1):=λj hj ht=>by
  subst hj
  unfold z116.j8
  rw [ht,Qg (n:=a%n+1) (by omega) (by omega),Qg (n:=b%12+1) (by omega) (by omega),Qfs]
  simp only [Zb]
  rw [if_neg (by omega)]
  generalize dDays (a%n+1) (b%12+1)=k at *
  by_cases h:Int.tmod c k<0
  ·rw [bif_t h,Qg (n:=Int.tmod c k+k) (by omega) (by omega),f3.1 h,Qg (by omega) (by omega)]
  ·rw [Qc h,f3.2.1 h,Qg (by omega) (by omega)]
 have hj5:∀j,j=b%12->Int.tmod a n<0->z116.j5 a n j c=some (a%n+1,b%12+1,c%dDays (a%n+1) (b%12+1)+1):=λj hj ht=>by
  subst hj
  unfold z116.j5 z116.j7
  rw [Qg (n:=Int.tmod a n+n) (by omega) (by omega),f1.1 ht,Qg (n:=a%n+1) (by omega) (by omega),Qg (n:=b%12+1) (by omega) (by omega),Qfs]
  simp only [Zb]
  rw [if_neg (by omega)]
  generalize dDays (a%n+1) (b%12+1)=k at *
  by_cases h:Int.tmod c k<0
  ·rw [bif_t h,Qg (n:=Int.tmod c k+k) (by omega) (by omega),f3.1 h,Qg (by omega) (by omega)]
  ·rw [Qc h,f3.2.1 h,Qg (by omega) (by omega)]
 unfold z116.F
 rw [if_neg (by omega)]
 by_cases h1:Int.tmod a n<0
 ·rw [bif_t h1]
  by_cases h2:Int.tmod b 12<0
  ·rw [bif_t h2,Qg (by omega) (by omega),f2.1 h2];exact hj5 _ rfl h1
  ·rw [Qc h2,f2.2.1 h2];exact hj5 _ rfl h1
 ·rw [Qc h1]
  by_cases h2:Int.tmod b 12<0
  ·rw [bif_t h2,Qg (by omega) (by omega),f2.1 h2];exact hj8 _ rfl (f1.2.1 h1)
  ·rw [Qc h2,f2.2.1 h2];exact hj8 _ rfl (f1.2.1 h1)
theorem Qm5 (n:Nat):numOK (txt n)=true:=by
 unfold numOK
 rw [Zf (Qsn n),Yn.2 (Qal n)]
 by_cases h:n=0
 ·subst h;rfl
 ·obtain ⟨b,s,e,hb⟩:=Qjh h
  rw [e]
  have:((b::s).getD 0 0).toNat=b.toNat:=rfl
  rw [this,Zf hb];simp
theorem Qg1 {s:J1} (h:Qu s):cutNeg s=(s,false):=by
 unfold cutNeg
 cases s with
 |nil=>rfl
 |
  cons b t=>
  have hb:=h b (by simp)
  unfold digit at hb
  simp only
  rw [if_neg]
  rintro rfl
  simp at hb
theorem Qnq {n:Nat} (h:(txt n).length<=4096):mWhole (txt n)=((n:Int),0):=by
 have hd:mDigits (txt n)=(n,0):=by
  unfold mDigits
  rw [if_neg (by omega),if_pos (Qm5 n),Qgn,Zi]
 unfold mWhole
 rw [Qg1 (Qal n)]
 simp only [hd]
 rw [if_neg (by simp),if_neg (by simp)]
 rfl
theorem Qur {n:Nat} (h:n<=10^30):mMoney (txt n)=((n:Int),0):=by
 unfold mMoney
 have hl:(txt n).length<=31:=Jg (by omega) (by decide)
 rw [Qnq (by omega)]
 have e:(10:Int)^30=((10^30:Nat):Int):=rfl
 rw [if_neg (by simp),if_neg (by rw [e];omega)]
theorem Qt9 (s:J1) (k:Nat) (hk:k<=1000000000):∀(f:Nat),k+1-s.length=f->Runs (λrec x=>z136.l0P (k:Int) rec some x) s (List.replicate f 48++s):=by
 intro f
 induction f generalizing s with
 |
  zero=>
  intro h
  refine .done λrec=>?_
  unfold z136.l0P
  rw [Qc (by omega)];rfl
 |
  succ f ih=>
  intro h
  have:=ih (48::s) (by simp;omega)
  have e:List.replicate f (48:UInt8)++48::s=List.replicate (f+1) 48++s:=by
   rw [List.replicate_succ',Z70];rfl
  rw [e] at this
  refine .step (λrec=>?_) this
  unfold z136.l0P
  rw [bif_t (by omega),if_pos (by simp;omega)]
  rfl
def padded (n k:Nat):J1:=List.replicate (k+1-(txt n).length) 48++txt n
theorem Qbk (n k:Nat):k<(padded n k).length/\(padded n k).length<=k+1+(txt n).length:=by unfold padded;rw [Z2,Z38];omega
theorem Qk4 (n k:Nat):Qu (padded n k):=λb hb=>by
 rcases Z32.1 hb with h|h
 ·rw [List.eq_of_mem_replicate h];unfold digit;decide
 ·exact Qal n b h
theorem Qvn (f:Nat) (s:J1):tv 0 (List.replicate f 48++s)=tv 0 s:=by
 induction f with
 |zero=>rfl
 |succ f ih=>rw [List.replicate_succ,List.cons_append];exact ih
theorem Qqq (n k:Nat):tv 0 (padded n k)=n:=by unfold padded;rw [Qvn,Qgn]
def decTxt (n k:Nat):J1:=(padded n k).take ((padded n k).length-k)++46::(padded n k).drop ((padded n k).length-k)
theorem Qv7 {n k:Nat} (hk:0<k/\k<=1000000) (hn:4*(dg n).length<=1000000000) (hl:(txt n).length<=100000000):z136.F (dg n) false (k:Int)=some (decTxt n k):=by
 have r:=Qt9 (txt n) k (by omega) _ rfl
 have e:z136.l0 (k:Int) (txt n)=some (padded n k):=r.lfp
 have pl:=Qbk n k
 unfold z136.F
 rw [Qih hn]
 simp only [Zb]
 rw [e]
 simp only [Zb]
 have ew:wr .i64 (((padded n k).length:Int)-(k:Int))=(((padded n k).length-k:Nat):Int):=by rw [Qg (by omega) (by omega)];omega
 rw [bif_t (by omega),ew,if_pos (by omega),if_pos (by simp;omega),if_pos (by omega),if_pos (by simp;omega),Zi]
 unfold z136.j3 decTxt
 simp
theorem Qjf:∀{a:J1} (b:J1),Qu a->cutDot (a++46::b)=(a,some b)
 |[],b,_=>rfl
 |
  x::a,b,h=>by
  have hx:=h x (by simp)
  have ih:=Qjf (a:=a) b λy hy=>h y (by simp [hy])
  show cutDot (x::(a++46::b))=_
  unfold cutDot
  rw [if_neg (by rintro rfl;unfold digit at hx;simp at hx),ih]
theorem Qoi {n k:Nat} (hk:0<k/\k<=64) (hl:(txt n).length<=1000):mDec (decTxt n k)=((n:Int),k,0):=by
 have pl:=Qbk n k
 have pd:=Qk4 n k
 have hda:Qu ((padded n k).take ((padded n k).length-k)):=λb hb=>pd b (Z43 hb)
 have hdb:Qu ((padded n k).drop ((padded n k).length-k)):=λb hb=>pd b (Z59 hb)
 have la:((padded n k).take ((padded n k).length-k)).length=(padded n k).length-k:=by rw [Z11];omega
 have lb':((padded n k).drop ((padded n k).length-k)).length=k:=by rw [Z17];omega
 have hcat:(padded n k).take ((padded n k).length-k)++(padded n k).drop ((padded n k).length-k)=padded n k:=List.take_append_drop _ _
 have hlead:(decide (1<((padded n k).take ((padded n k).length-k)).length)&&decide ((((padded n k).take ((padded n k).length-k)).getD 0 0).toNat=48))=false:=by
  by_cases h1:1<((padded n k).take ((padded n k).length-k)).length
  ·rw [la] at h1
   have h2:k+1<(padded n k).length:=by omega
   have h0:k+1-(txt n).length=0:=by
    unfold padded at h2
    rw [Z2,Z38] at h2;omega
   have e:padded n k=txt n:=by unfold padded;rw [h0];rfl
   have hn:n≠0:=by
    rintro rfl
    rw [e] at h2
    have:(txt 0).length=1:=rfl
    omega
   obtain ⟨b,s,ht,hb⟩:=Qjh hn
   rw [e,ht]
   have:(((b::s).take ((b::s).length-k)).getD 0 0).toNat=b.toNat:=by
    rw [e,ht] at h2
    have:(b::s).length-k=((b::s).length-k-1)+1:=by omega
    rw [this,List.take_succ_cons];rfl
   rw [this,Zf hb,Bool.and_false]
  ·rw [Zf h1,Z54]
 have hlen:(decTxt n k).length=(padded n k).length+1:=by
  unfold decTxt;rw [Z2,Z8,la,lb'];omega
 have hneg:cutNeg (decTxt n k)=(decTxt n k,false):=by
  have hne:(padded n k).take ((padded n k).length-k)≠[]:=λh=>by rw [h] at la;simp at la;omega
  unfold decTxt
  cases hc:(padded n k).take ((padded n k).length-k) with
  |nil=>exact absurd hc hne
  |
   cons b t=>
   have hb:=hda b (by rw [hc];simp)
   unfold digit at hb
   unfold cutNeg
   simp only [List.cons_append]
   rw [if_neg (by rintro rfl;simp at hb)]
 have hpa:plainB ((padded n k).take ((padded n k).length-k))=true:=by
  unfold plainB;rw [Yn.2 hda,Zf (λh=>by rw [h] at la;simp at la;omega)];rfl
 have hpb:plainB ((padded n k).drop ((padded n k).length-k))=true:=by
  unfold plainB;rw [Yn.2 hdb,Zf (λh=>by rw [h] at lb';simp at lb';omega)];rfl
 unfold mDec
 rw [if_neg (by omega),hneg]
 have hcut:cutDot (decTxt n k)=((padded n k).take ((padded n k).length-k),some ((padded n k).drop ((padded n k).length-k))):=Qjf _ hda
 rw [hcut]
 unfold Y0
 simp only [Option.isSome_some,Z52,Z45,hpa,hpb,hlead,Zn,Bool.or_false,Z54]
 rw [if_neg (by simp),if_neg (by simp),if_neg (by omega),hcat,Qqq,lb',if_neg (by simp)]
abbrev D3:=Int×Int×Int
theorem Qjv {s:J0} {i:Nat} {x:Int}:(s.set i x).drop (i+1)=s.drop (i+1):=by
 apply List.ext_getElem?
 intro j
 rw [List.getElem?_drop,List.getElem?_drop,List.getElem?_set_ne (by omega)]
theorem Qc5 {s:J1} {i:Nat} (h:i<s.length):s.getD i 0=s[i]:=by simp [List.getD,h]
theorem Qj4 {s:J1} (hs:s.length<=1000000000):∀(f i:Nat),i+f=s.length ->
  ∃o,Runs (λrec x=>z123.l0P s rec some x) (i:Int) o/\(match o with | .inl _=>true | .inr q=>q)=digs (s.drop i)
 |
  0,i,hf=>by
  refine ⟨.inl (i:Int),.done λrec=>?_,?_⟩
  ·unfold z123.l0P
   rw [Qc (by omega)]
  ·rw [Z40 (by omega)];rfl
 |
  f+1,i,hf=>by
  have hi:i<s.length:=by omega
  rw [Z31 hi]
  have e:digs (s[i]::s.drop (i+1))=(isD s[i]&&digs (s.drop (i+1))):=rfl
  rw [e]
  by_cases h1:(s[i].toNat:Int)<48
  ·refine ⟨.inr false,.done λrec=>?_,?_⟩
   ·unfold z123.l0P
    rw [bif_t (by omega),if_pos (by omega),Zi,Qc5 hi,bif_t h1]
   ·have:isD s[i]=false:=by unfold isD;rw [Zf (show ¬48<=s[i].toNat by omega)];rfl
    rw [this];rfl
  ·by_cases h2:(s[i].toNat:Int)>57
   ·refine ⟨.inr false,.done λrec=>?_,?_⟩
    ·unfold z123.l0P
     rw [bif_t (by omega),if_pos (by omega),Zi,Qc5 hi,Qc h1,if_pos (by omega),bif_t h2]
    ·have:isD s[i]=false:=by unfold isD;rw [Zf (show ¬s[i].toNat<=57 by omega)];simp
     rw [this];rfl
   ·obtain ⟨o,r,ho⟩:=Qj4 hs f (i+1) (by omega)
    refine ⟨o,.step (λrec=>?_) r,?_⟩
    ·unfold z123.l0P
     rw [bif_t (by omega),if_pos (by omega),Zi,Qc5 hi,Qc h1,if_pos (by omega),Qc h2,Qg (by omega) (by omega)]
     rfl
    ·have:isD s[i]=true:=by unfold isD;rw [Zt (show 48<=s[i].toNat by omega),Zt (show s[i].toNat<=57 by omega)];rfl
     rw [ho,this];rfl
theorem Qsc {s:J1} (hs:s.length<=1000000000):z123.F s=some (numOK s):=by
 obtain ⟨o,r,ho⟩:=Qj4 hs s.length 0 (by omega)
 have e:z123.l0 s 0=some o:=r.lfp
 rw [Z65] at ho
 unfold z123.F numOK
 rw [e]
 simp only [Zb]
 by_cases h0:s=[]
 ·subst h0;rfl
 ·have hpos:=Z22.2 h0
  rw [Qc (by omega),Zf h0]
  by_cases h1:1<s.length
  ·rw [bif_t (by omega),if_pos (by omega),Zt h1]
   by_cases h2:(s.getD 0 0).toNat=48
   ·rw [bif_t (by omega),Zt h2];simp
   ·rw [Qc (by omega),Zf h2]
    simp only [Zo,Z52,Bool.and_true,Bool.and_false]
    cases o with
    |inl z=>exact congrArg some ho
    |inr q=>exact congrArg some ho
  ·rw [Qc (by omega),Zf h1]
   simp only [Zo,Z52,Bool.and_true,Z54]
   cases o with
   |inl z=>exact congrArg some ho
   |inr q=>exact congrArg some ho
theorem Qwg {s:J1} (hs:Qu s) {b:UInt8} {t:J1} (e:s=b::t) (hb:b.toNat≠48):0<tv 0 s:=by
 subst e
 have h1:=hs b (by simp)
 unfold digit at h1
 have h2:=Yf (s:=t) λx hx=>hs x (by simp [hx])
 have e:tv 0 (b::t)=((b.toNat:Int)-48)*(10^t.length:Nat)+tv 0 t:=by
  show tv (10*0+(b.toNat:Int)-48) t=_
  rw [Qak];simp
 have h3:0<10^t.length:=Nat.pow_pos (by decide)
 have h4:1*((10^t.length:Nat):Int)<=((b.toNat:Int)-48)*(10^t.length:Nat):=Int.mul_le_mul_of_nonneg_right (by omega) (by omega)
 rw [e];omega
theorem Qcs {s:J1} (h:numOK s=true):Qu s/\s≠[]/\(1<s.length->(s.getD 0 0).toNat≠48):=by
 unfold numOK at h
 simp only [Z4,Z53,decide_eq_false_iff_not,Bool.and_eq_false_iff] at h
 exact ⟨Yn.1 h.1.2,h.1.1,λh1 h2=>by rcases h.2 with h3|h3<;>omega⟩
theorem Qlz {s:J1} (h:numOK s=true):(tv 0 s).toNat=0↔s=[48]:=by
 obtain ⟨h1,h2,h3⟩:=Qcs h
 constructor
 ·intro h0
  cases s with
  |nil=>exact absurd rfl h2
  |
   cons b t=>
   by_cases hb:b.toNat=48
   ·have:t=[]:=by
     cases t with
     |nil=>rfl
     |cons c t'=>exact absurd hb (h3 (by simp))
    subst this
    rw [show b=48 from UInt8.toNat_inj.1 hb]
   ·have:=Qwg h1 rfl hb;omega
 ·rintro rfl;rfl
abbrev wr4 (w:Int×Int):J0×Bool×Int:=(dg w.1.natAbs,neg w.1,w.2)
theorem Qrq (s:J1) (hs:s.length<=1000000):z124.F s=some (wr4 (mWhole s)):=by
 have key:∀(plain:J1) (below:Bool),plain.length<=s.length->cutNeg s=(plain,below)->(below=true->s.length=plain.length+1/\s.drop 1=plain/\(s.getD 0 0).toNat=45)->(below=false->s=plain) ->
   z124.j3 plain (dg (Int.natAbs 0),neg 0) s=some (wr4 (mWhole s)):=λplain below hp hc hb hb'=>by
  have z0:∀e:Int,some (dg (Int.natAbs 0),neg 0,e)=some (wr4 (0,e)):=λe=>rfl
  unfold z124.j3 mWhole
  rw [hc]
  simp only
  by_cases h1:4096<plain.length
  ·have hm:mDigits plain=(0,7):=by unfold mDigits;rw [if_pos h1]
   rw [bif_t (by omega),hm,if_pos (by decide)]
  ·rw [Qc (by omega),Qsc (by omega)]
   simp only [Zb]
   cases hn:numOK plain with
   |
    false=>
    have hm:mDigits plain=(0,5):=by unfold mDigits;rw [if_neg h1,hn];rfl
    simp only [Zo,Zd]
    rw [hm,if_pos (by decide)]
   |
    true=>
    obtain ⟨d1,d2,d3⟩:=Qcs hn
    have hm:mDigits plain=((tv 0 plain).toNat,0):=by unfold mDigits;rw [if_neg h1,hn];rfl
    have hz:=Qlz hn
    obtain ⟨v,hv⟩:∃v:Nat,tv 0 plain=(v:Int):=⟨_,(Int.toNat_of_nonneg (Yf d1).1).symm⟩
    rw [hv,Zi] at hm hz
    simp only [Zn,Zc]
    rw [hm,if_neg (by simp)]
    simp only
    have hread:z122.F s=some (dg v,(below&&decide (0<v))):=by
     unfold z122.F
     have hpos:=Z22.2 d2
     rw [if_pos (by omega)]
     cases below with
     |
      true=>
      obtain ⟨g1,g2,g3⟩:=hb rfl
      rw [bif_t (by omega),if_pos (by omega),g2,Qf8 d1 (by omega),hv]
      simp only [Zb]
      rw [Qev];rfl
     |
      false=>
      have g:=hb' rfl
      have hne:¬(((s.getD 0 0).toNat:Int)=45):=by
       rw [g,Qc5 hpos]
       have:=d1 plain[0] (Z10 hpos)
       unfold digit at this;omega
      rw [Qc hne,g,Qf8 d1 (by omega),hv]
      simp only [Zb]
      rw [Qev];rfl
    by_cases h48:plain=[48]
    ·have h0:=hz.2 h48
     rw [bif_t h48]
     cases below with
     |
      true=>
      obtain ⟨g1,g2,g3⟩:=hb rfl
      rw [bif_t (by rw [h48] at g1;simp at g1;omega),h0]
      rfl
     |
      false=>
      have g:=hb' rfl
      rw [Qc (by rw [g,h48];simp),hread,h0]
      rfl
    ·have h0:v≠0:=λhh=>h48 (hz.1 hh)
     rw [Qc h48,hread]
     simp only [Zb]
     have e:(below&&decide (v=0))=false:=by rw [Zf h0,Bool.and_false]
     rw [e]
     simp only [Z16,if_false]
     cases below with
     |
      true=>
      have e1:(true&&decide (0<v))=neg (-(v:Int)):=by rw [Z52];exact decide_eq_decide.2 (by omega)
      rw [e1]
      show _=some (dg (-(v:Int)).natAbs,neg (-(v:Int)),0)
      rw [Int.natAbs_neg];rfl
     |
      false=>
      have e1:(false&&decide (0<v))=neg (v:Int):=by rw [Z54];symm;exact Zf (by omega)
      rw [e1];rfl
 unfold z124.F
 rw [Qa1 (by omega)]
 simp only [Zb]
 cases s with
 |
  nil=>
  rw [Qc (by simp)]
  exact key [] false (by simp) rfl (λh=>by simp at h) (λ_=>rfl)
 |
  cons b t=>
  rw [bif_t (by simp),if_pos (by simp)]
  by_cases h:b=45
  ·subst h
   rw [bif_t (by rfl),if_pos (by simp;omega)]
   exact key t true (by simp) rfl (λ_=>⟨by simp,rfl,rfl⟩) (λh=>by simp at h)
  ·have hb:¬((((b::t).getD 0 0).toNat:Int)=45):=λhh=>h (UInt8.toNat_inj.1 (by have e:(b::t).getD 0 0=b:=rfl;rw [e] at hh;show b.toNat=45;omega))
   rw [Qc hb]
   exact key (b::t) false (by simp) (by unfold cutNeg;simp [h]) (λh=>by simp at h) (λ_=>rfl)
theorem Qll (t:Nat) (ht:t<=1000000):∀(f i:Nat),i+f=t->Runs (λrec x=>z125.l0P (t:Int) rec some x) ((49:UInt8)::List.replicate i 48,(i:Int)) ((49:UInt8)::List.replicate t 48,(t:Int))
 |
  0,i,hf=>by
  have:i=t:=by omega
  subst this
  refine .done λrec=>?_
  unfold z125.l0P
  simp only
  rw [Qc (by omega)]
 |
  f+1,i,hf=>by
  refine .step (λrec=>?_) (Qll t ht f (i+1) (by omega))
  unfold z125.l0P
  simp only
  rw [bif_t (by omega),if_pos (by simp;omega),Qg (by omega) (by omega),List.replicate_succ']
  rfl
theorem Qjc:∀(t:Nat) (a:Int),tv a (List.replicate t 48)=a*(10^t:Nat)
 |0,a=>by simp [tv]
 |
  t+1,a=>by
  rw [List.replicate_succ]
  show tv (10*a+((48:UInt8).toNat:Int)-48) (List.replicate t 48)=_
  rw [Qjc t,Z42,Z30]
  have:((48:UInt8).toNat:Int)=48:=rfl
  rw [this]
  generalize ((10^t:Nat):Int)=p
  grind
theorem Qs0 {t:Nat} (ht:t<=1000000):z125.F (t:Int)=some (dg (10^t)):=by
 have e:z125.l0 (t:Int) ([49],(0:Int))=some ((49:UInt8)::List.replicate t 48,(t:Int)):=(Qll t ht t 0 (by omega)).lfp
 have hd:Qu ((49:UInt8)::List.replicate t 48):=λb hb=>by
  rcases Z67.1 hb with h|h
  ·subst h;unfold digit;decide
  ·rw [List.eq_of_mem_replicate h];unfold digit;decide
 have hv:tv 0 ((49:UInt8)::List.replicate t 48)=((10^t:Nat):Int):=by
  show tv 1 (List.replicate t 48)=_
  rw [Qjc];simp
 unfold z125.F
 rw [e]
 simp only [Zb]
 rw [Qf8 hd (by simp;omega),hv]
 rfl
theorem Qo4 (s:J1) (hs:s.length<=1000000):z135.F s=some (wr4 (mMoney s)):=by
 have hz:=Qka s
 unfold z135.F mMoney
 rw [Qa1 (by omega)]
 simp only [Zb]
 rw [Qrq s hs]
 simp only [Zb,wr4]
 generalize mWhole s=w at *
 by_cases h:w.2=0
 ·rw [Zt h,if_neg (by omega)]
  simp only [Zn,Zc]
  have h30:=Qs0 (t:=30) (by decide)
  rw [show ((30:Nat):Int)=30 from rfl] at h30
  rw [h30]
  simp only [Zb]
  rw [Qd7 (z:=10^30) (by decide) (.inr ⟨rfl,by decide⟩)]
  simp only [Zb]
  have l1:=Qde w.1.natAbs
  have l2:(dg (Int.natAbs (10^30))).length<=31:=Z46 (Qde _) (Q2 (by decide))
  rw [Qr4 (by omega)]
  simp only [Zb]
  by_cases h1:w.1<0
  ·rw [bif_t h1,if_pos (.inl h1)]
  ·rw [Qc h1]
   by_cases h2:10^30<w.1
   ·rw [bif_t (Qau.2 h2),if_pos (.inr h2)]
   ·rw [Qc (λh=>h2 (Qau.1 h)),if_neg (by omega)]
 ·rw [Zf h,if_pos h];rfl
set_option maxRecDepth 100000 in
theorem Qt4:∃tab:J1,tab.length=256 /\
  (∀x j,z17.j8 x j=if (0:Int)<=wr .u8 x/\wr .u8 x<(tab.length:Int) then some (wr .i64 (j+wr .i64 ((tab.getD (wr .u8 x).toNat 0).toNat:Int))) else none) /\
  (∀x j,z17.j10 x j=if (0:Int)<=wr .u8 x/\wr .u8 x<(tab.length:Int) then some (wr .i64 (j+wr .i64 ((tab.getD (wr .u8 x).toNat 0).toNat:Int))) else none) /\
  ∀x:Fin 256,0<x.1->1<=(tab.getD x.1 0).toNat/\(tab.getD x.1 0).toNat<=8/\2^((tab.getD x.1 0).toNat-1)<=x.1/\x.1<2^(tab.getD x.1 0).toNat:=
 ⟨_,rfl,λx j=>rfl,λx j=>rfl,by decide⟩
theorem Qdr {x:Nat} (h0:0<x) (h:x<256) {j:Nat} (hj:j<=1000):∃n,n<=7/\2^n<=x/\x<2^(n+1)/\z17.j8 x j=some ((j+n+1:Nat):Int)/\z17.j10 x j=some ((j+n+1:Nat):Int):=by
 obtain ⟨tab,hl,h1,h2,ht⟩:=Qt4
 obtain ⟨t1,t2,t3,t4⟩:=ht ⟨x,h⟩ h0
 simp only at t1 t2 t3 t4
 obtain ⟨n,hn⟩:∃n,(tab.getD x 0).toNat=n+1:=⟨_,(Nat.sub_add_cancel t1).symm⟩
 rw [hn] at t2 t3 t4
 have hw:wr .u8 (x:Int)=x:=J7 (by omega) (by omega)
 refine ⟨n,by omega,by simpa using t3,t4,?_,?_⟩
 ·rw [h1,hw,if_pos (by omega),Zi,hn,Qg (n:=((n+1:Nat):Int)) (by omega) (by omega),Qg (by omega) (by omega)]
  congr 1
 ·rw [h2,hw,if_pos (by omega),Zi,hn,Qg (n:=((n+1:Nat):Int)) (by omega) (by omega),Qg (by omega) (by omega)]
  congr 1
theorem Qan (n k:Nat):Int.fdiv (n:Int) (2^k)=((n/2^k:Nat):Int):=by
 rw [Int.fdiv_eq_ediv_of_nonneg _ (by exact_mod_cast Z60 (2^k))]
 push_cast;rfl
theorem Qcj {x n k:Nat} (h1:2^n<=x/2^k) (h2:x/2^k<2^(n+1)):2^(n+k)<=x/\x<2^(n+k+1):=by
 have hp:=Nat.pos_of_ne_zero (show 2^k≠0 by exact Nat.ne_of_gt (Nat.two_pow_pos k))
 have:=(Nat.le_div_iff_mul_le hp).1 h1
 have:=(Z82 hp).1 h2
 rw [Z93,show n+k+1=(n+1)+k by omega,Z93]
 omega
set_option maxRecDepth 100000 in
theorem Qku {x:Nat} (h0:0<x) (h:x<4294967296) {j:Nat} (hj:j<=100):∃n,n<=31/\2^n<=x/\x<2^(n+1)/\z17.j2 x j=some ((j+n+1:Nat):Int):=by
 unfold z17.j2
 rw [show min 16 64=16 from rfl,show min 8 64=8 from rfl,Qan,Qan,Qan]
 by_cases h1:65536<=x
 ·rw [bif_t (by omega),Qg (n:=(j:Int)+16) (by omega) (by omega),Qg (n:=(j:Int)+16+8) (by omega) (by omega)]
  have b1:0<x/2^16/\x/2^16<65536:=by omega
  by_cases h2:256<=x/2^16
  ·rw [bif_t (by omega)]
   obtain ⟨n,n1,n2,n3,n4,_⟩:=Qdr (x:=x/2^16/2^8) (by omega) (by omega) (j:=j+24) (by omega)
   obtain ⟨m2,m3⟩:=Qcj n2 n3
   obtain ⟨m2,m3⟩:=Qcj (n:=n+8) m2 m3
   refine ⟨n+8+16,by omega,m2,m3,?_⟩
   refine (congrArg (z17.j8 _) (show ((j:Int)+16+8)=((j+24:Nat):Int) by omega)).trans (n4.trans ?_)
   congr 2;omega
  ·rw [Qc (by omega)]
   obtain ⟨n,n1,n2,n3,n4,_⟩:=Qdr (x:=x/2^16) (by omega) (by omega) (j:=j+16) (by omega)
   obtain ⟨m2,m3⟩:=Qcj n2 n3
   refine ⟨n+16,by omega,m2,m3,?_⟩
   refine (congrArg (z17.j8 _) (show ((j:Int)+16)=((j+16:Nat):Int) by omega)).trans (n4.trans ?_)
   congr 2;omega
 ·rw [Qc (by omega)]
  by_cases h2:256<=x
  ·rw [bif_t (by omega),Qg (n:=(j:Int)+8) (by omega) (by omega)]
   obtain ⟨n,n1,n2,n3,_,n4⟩:=Qdr (x:=x/2^8) (by omega) (by omega) (j:=j+8) (by omega)
   obtain ⟨m2,m3⟩:=Qcj n2 n3
   refine ⟨n+8,by omega,m2,m3,?_⟩
   refine (congrArg (z17.j10 _) (show ((j:Int)+8)=((j+8:Nat):Int) by omega)).trans (n4.trans ?_)
   congr 2;omega
  ·rw [Qc (by omega)]
   obtain ⟨n,n1,n2,n3,_,n4⟩:=Qdr (x:=x) (by omega) (by omega) (j:=j) (by omega)
   exact ⟨n,by omega,n2,n3,n4⟩
theorem bits_Len64 {x:Nat} (h0:0<x) (h:x<18446744073709551616):∃n,n<=63/\2^n<=x/\x<2^(n+1)/\z17.F x=some ((n+1:Nat):Int):=by
 unfold z17.F
 rw [show min 32 64=32 from rfl,Qan]
 by_cases h1:4294967296<=x
 ·rw [bif_t (by omega)]
  obtain ⟨n,n1,n2,n3,n4⟩:=Qku (x:=x/2^32) (by omega) (by omega) (j:=32) (by omega)
  obtain ⟨m2,m3⟩:=Qcj n2 n3
  refine ⟨n+32,by omega,m2,m3,?_⟩
  refine n4.trans ?_
  congr 2;omega
 ·rw [Qc (by omega)]
  obtain ⟨n,n1,n2,n3,n4⟩:=Qku (x:=x) (by omega) (by omega) (j:=0) (by omega)
  refine ⟨n,by omega,n2,n3,?_⟩
  refine n4.trans ?_
  congr 2;omega
theorem Qqh {x:Nat} (h0:0<x) (h:x<18446744073709551616):∃s,s<=63/\9223372036854775808<=x*2^s/\x*2^s<18446744073709551616/\z18.F x=some ((s:Nat):Int):=by
 obtain ⟨n,n1,n2,n3,n4⟩:=bits_Len64 h0 h
 have e1:2^n*2^(63-n)=9223372036854775808:=by rw [<-Z93,show n+(63-n)=63 by omega]
 have e2:2^(n+1)*2^(63-n)=18446744073709551616:=by rw [<-Z93,show n+1+(63-n)=64 by omega]
 refine ⟨63-n,by omega,?_,?_,?_⟩
 ·rw [<-e1];exact Z13 _ n2
 ·rw [<-e2];exact Nat.mul_lt_mul_of_pos_right n3 (Nat.two_pow_pos _)
 ·unfold z18.F
  rw [n4]
  simp only [Zb]
  rw [Qg (by omega) (by omega)]
  congr 1;omega
end Go.Proofs.YtjfipepaaddlmaaGreatDoor.A
end
section
set_option linter.unusedSectionVars false
namespace Go.Proofs.YtjfipepaaddlmaaGreatDoor.A
open Go
structure Qcf (y1 y0 u u0:Nat) (q r:Nat):Prop where
 eq:q*y1+r=u
 ge:(u*4294967296+u0)/(y1*4294967296+y0)<=q
 le:q<=4294967297
 lt:r<4294967296
theorem Qnr (B:Nat) {y1 y0 u q r:Nat} (he:q*y1+r=u):q*(y1*B+y0)+r*B=u*B+q*y0:=by
 rw [<-he,Z28,Nat.mul_add,Z90]
 omega
theorem Qsh {B A A2 u u0 r:Nat} (h:A+r*B=u*B+A2) (hc:r*B+u0<A2):u*B+u0<A:=by omega
section
variable {y1 y0 u u0:Nat} (h1:2147483648<=y1) (h1':y1<4294967296) (h0:y0<4294967296) (hu:u<y1*4294967296+y0) (hu0:u0<4294967296)
include h1 h1' h0 hu hu0
theorem Quo:Qcf y1 y0 u u0 (u/y1) (u%y1):=by
 have hy:0<y1:=by omega
 refine ⟨by rw [Z47];exact Z71 u y1,?_,?_,?_⟩
 ·rw [Nat.le_div_iff_mul_le hy]
  have hd:=Nat.div_mul_le_self (u*4294967296+u0) (y1*4294967296+y0)
  generalize (u*4294967296+u0)/(y1*4294967296+y0)=Q at *
  rw [Nat.mul_add,<-Z90] at hd
  generalize Q*y1=A at *
  generalize Q*y0=B at *
  omega
 ·have:u/y1<4294967298:=by
   rw [Z82 hy];omega
  omega
 ·have:=Z91 u hy;omega
theorem Qn5:(u*4294967296+u0)/(y1*4294967296+y0)<4294967296:=by
 rw [Z82 (by omega)];omega
theorem Qq9 {q r:Nat} (h:Qcf y1 y0 u u0 q r) (hc:4294967296<=q\/r*4294967296+u0<q*y0):(u*4294967296+u0)/(y1*4294967296+y0)<q:=by
 rcases hc with hc|hc
 ·exact Z12 (Qn5 h1 h1' h0 hu hu0) hc
 ·have:=Qnr 4294967296 (y0:=y0) h.eq
  have hlt:u*4294967296+u0<q*(y1*4294967296+y0):=Qsh this hc
  exact (Z82 (show 0<y1*4294967296+y0 by omega)).2 hlt
theorem Qla {q r:Nat} (he:q*y1+r=u) (ge:(u*4294967296+u0)/(y1*4294967296+y0)<=q) (hc:q*y0<=r*4294967296+u0):q=(u*4294967296+u0)/(y1*4294967296+y0):=by
 refine Nat.le_antisymm ?_ ge
 rw [Nat.le_div_iff_mul_le (by omega)]
 have:=Qnr 4294967296 (y0:=y0) he
 omega
theorem Qmh {q r:Nat} (h:Qcf y1 y0 u u0 q r) (hc:(u*4294967296+u0)/(y1*4294967296+y0)<q):(q-1)*y1+(r+y1)=u/\(u*4294967296+u0)/(y1*4294967296+y0)<=q-1:=by
 generalize (u*4294967296+u0)/(y1*4294967296+y0)=Q at hc ⊢
 obtain ⟨k,rfl⟩:∃k,q=k+1:=⟨q-1,by omega⟩
 have:=h.eq
 rw [Z28] at this
 simp only [Nat.add_sub_cancel]
 omega
theorem Qqd {q r:Nat} (h:Qcf y1 y0 u u0 q r) (hc:(u*4294967296+u0)/(y1*4294967296+y0)<q) (hr:4294967296<=r+y1):q-1=(u*4294967296+u0)/(y1*4294967296+y0):=by
 obtain ⟨n1,n2⟩:=Qmh h1 h1' h0 hu hu0 h hc
 refine Qla h1 h1' h0 hu hu0 n1 n2 ?_
 have hq:=h.le
 have:(q-1)*y0<=4294967296*4294967295:=Nat.mul_le_mul (by omega) (by omega)
 omega
theorem Qke {F:(Int×Int->Option (Int×Int))->Int×Int->Option (Int×Int)} (mk:Int->Int->Int×Int)
  (hF:∀(q r:Nat),q<=4294967297->r<4294967296->∀rec,F rec (mk q r) =
   if 4294967296<=q\/r*4294967296+u0<q*y0 then (if 4294967296<=r+y1 then some (mk ((q-1:Nat):Int) ((r+y1:Nat):Int)) else rec (mk ((q-1:Nat):Int) ((r+y1:Nat):Int))) else some (mk q r)) :
  ∃r:Nat,lfp F (mk ((u/y1:Nat):Int) ((u%y1:Nat):Int))=some (mk (((u*4294967296+u0)/(y1*4294967296+y0):Nat):Int) r):=by
 have key:∀(f q r:Nat),q<f->Qcf y1 y0 u u0 q r->∃r':Nat,Runs F (mk q r) (mk (((u*4294967296+u0)/(y1*4294967296+y0):Nat):Int) r'):=by
  intro f
  induction f with
  |zero=>intro q r h;omega
  |
   succ f ih=>
   intro q r hq h
   by_cases hc:4294967296<=q\/r*4294967296+u0<q*y0
   ·have hlt:=Qq9 h1 h1' h0 hu hu0 h hc
    by_cases hr:4294967296<=r+y1
    ·refine ⟨r+y1,.done λrec=>?_⟩
     rw [hF q r h.le h.lt,if_pos hc,if_pos hr,Qqd h1 h1' h0 hu hu0 h hlt hr]
    ·obtain ⟨n1,n2⟩:=Qmh h1 h1' h0 hu hu0 h hlt
     have hle:=h.le
     have hq1:0<q:=Nat.lt_of_le_of_lt (Z60 _) hlt
     obtain ⟨r',hr'⟩:=ih (q-1) (r+y1) (by omega) ⟨n1,n2,by omega,by omega⟩
     exact ⟨r',.step (λrec=>by rw [hF q r h.le h.lt,if_pos hc,if_neg hr]) hr'⟩
   ·refine ⟨r,.done λrec=>?_⟩
    rw [hF q r h.le h.lt,if_neg hc,<-Qla h1 h1' h0 hu hu0 h.eq h.ge (by omega)]
 obtain ⟨r',hr'⟩:=key (u/y1+1) _ _ (by omega) (Quo h1 h1' h0 hu hu0)
 exact ⟨r',hr'.lfp⟩
theorem Qis {q r:Nat} (hq:q<=4294967297) (hr:r<4294967296) (h:¬4294967296<=q):(wr .u64 ((q:Int)*y0)>wr .u64 (wr .u64 ((4294967296:Int)*r)+u0))↔r*4294967296+u0<q*y0:=by
 have hm:q*y0<=4294967295*4294967295:=Nat.mul_le_mul (by omega) (by omega)
 rw [<-Z30 q y0,Qq (n:=((q*y0:Nat):Int)) (by omega) (by omega),Qq (n:=(4294967296:Int)*r) (by omega) (by omega),Qq (by omega) (by omega)]
 omega
theorem Qrz:∃r:Nat,z19.l0 y1 y0 u0 (((u/y1:Nat):Int),((u%y1:Nat):Int))=some ((((u*4294967296+u0)/(y1*4294967296+y0):Nat):Int),(r:Int)):=by
 refine Qke h1 h1' h0 hu hu0 (λq r=>(q,r)) (F:=λrec x=>z19.l0P y1 y0 u0 rec some x) λq r hq hr rec=>?_
 simp only [z19.l0P]
 rw [Qq (n:=(r:Int)+y1) (by omega) (by omega)]
 by_cases hq2:4294967296<=q
 ·rw [bif_t (by omega),if_pos (.inl hq2),Qq (n:=(q:Int)-1) (by omega) (by omega)]
  by_cases hr2:4294967296<=r+y1
  ·rw [bif_t (by omega),if_pos hr2];congr 2<;>omega
  ·rw [Qc (by omega),if_neg hr2];congr 2<;>omega
 ·rw [Qc (by omega)]
  have ht:=Qis h1 h1' h0 hu hu0 hq hr hq2
  by_cases hc:r*4294967296+u0<q*y0
  ·have hq0:0<q:=Nat.pos_of_ne_zero λh=>by subst h;omega
   rw [bif_t (ht.2 hc),if_pos (.inr hc),Qq (n:=(q:Int)-1) (by omega) (by omega)]
   by_cases hr2:4294967296<=r+y1
   ·rw [bif_t (by omega),if_pos hr2];congr 2<;>omega
   ·rw [Qc (by omega),if_neg hr2];congr 2<;>omega
  ·rw [Qc (λh=>hc (ht.1 h)),if_neg (by omega)]
theorem Qr6:∃r:Nat,z19.l2 y1 y0 u0 (((u%y1:Nat):Int),((u/y1:Nat):Int))=some ((r:Int),(((u*4294967296+u0)/(y1*4294967296+y0):Nat):Int)):=by
 refine Qke h1 h1' h0 hu hu0 (λq r=>(r,q)) (F:=λrec x=>z19.l2P y1 y0 u0 rec some x) λq r hq hr rec=>?_
 simp only [z19.l2P]
 rw [Qq (n:=(r:Int)+y1) (by omega) (by omega)]
 by_cases hq2:4294967296<=q
 ·rw [bif_t (by omega),if_pos (.inl hq2),Qq (n:=(q:Int)-1) (by omega) (by omega)]
  by_cases hr2:4294967296<=r+y1
  ·rw [bif_t (by omega),if_pos hr2];congr 2<;>omega
  ·rw [Qc (by omega),if_neg hr2];congr 2<;>omega
 ·rw [Qc (by omega)]
  have ht:=Qis h1 h1' h0 hu hu0 hq hr hq2
  by_cases hc:r*4294967296+u0<q*y0
  ·have hq0:0<q:=Nat.pos_of_ne_zero λh=>by subst h;omega
   rw [bif_t (ht.2 hc),if_pos (.inr hc),Qq (n:=(q:Int)-1) (by omega) (by omega)]
   by_cases hr2:4294967296<=r+y1
   ·rw [bif_t (by omega),if_pos hr2];congr 2<;>omega
   ·rw [Qc (by omega),if_neg hr2];congr 2<;>omega
  ·rw [Qc (λh=>hc (ht.1 h)),if_neg (by omega)]
end
end Go.Proofs.YtjfipepaaddlmaaGreatDoor.A
end
section
namespace Go.Proofs.YtjfipepaaddlmaaGreatDoor.A
open Go
theorem Qdw {n:Nat} (h:n<18446744073709551616):(BitVec.ofInt (IntKind.bits .u64) (n:Int)).toNat=n:=by
 show (BitVec.ofInt 64 (n:Int)).toNat=n
 rw [BitVec.toNat_ofInt]
 omega
theorem Qj5 {n:Nat} (h:n<18446744073709551616):wr .u64 ((BitVec.ofInt (IntKind.bits .u64) (n:Int) &&& BitVec.ofInt (IntKind.bits .u64) (4294967295:Int)).toNat:Int)=((n%4294967296:Nat):Int):=by
 rw [BitVec.toNat_and,Qdw h,show (4294967295:Int)=((4294967295:Nat):Int) from rfl,Qdw (by omega),show 4294967295=2^32-1 from rfl,Nat.and_two_pow_sub_one_eq_mod,Qq (by omega) (by omega)]
theorem Qpm {a b s:Nat} (hb:b<2^s) (h:a*2^s+b<18446744073709551616):wr .u64 ((BitVec.ofInt (IntKind.bits .u64) ((a*2^s:Nat):Int) ||| BitVec.ofInt (IntKind.bits .u64) (b:Int)).toNat:Int)=((a*2^s+b:Nat):Int):=by
 rw [BitVec.toNat_or,Qdw (by omega),Qdw (by omega),Z47,<-Nat.two_pow_add_eq_or_of_lt hb,Qq (by omega) (by rw [Z47] at h;omega)]
theorem Qrn {B V Y U u1 u0:Nat} (hV:V=(U*B+u1)*B+u0) (hY:0<Y) (h0:u0<B) :
  V/Y=(U*B+u1)/Y*B+((U*B+u1)%Y*B+u0)/Y/\V%Y=((U*B+u1)%Y*B+u0)%Y:=by
 have h1:=Z71 (U*B+u1) Y
 generalize hA:U*B+u1=A at *
 generalize A/Y=q at *
 generalize A%Y=r at *
 have e:V=(r*B+u0)+Y*(q*B):=by
  rw [hV,<-h1,Z28,Z90];omega
 rw [e,Nat.add_mul_div_left _ _ hY,Nat.add_mul_mod_self_left]
 exact ⟨by omega,rfl⟩
theorem Qsb {B V Y U u1 u0:Nat} (hV:V=(U*B+u1)*B+u0) (hY:0<Y) (h0:u0<B) (hU:U<Y) (h1:u1<B) :
  ∃q1 U2 q0 U3,(U*B+u1)/Y=q1/\(U2*B+u0)/Y=q0/\Y*q1+U2=U*B+u1/\U2<Y/\Y*q0+U3=U2*B+u0/\U3<Y/\q1<B/\q0<B/\V/Y=q1*B+q0/\V%Y=U3:=by
 obtain ⟨a,b⟩:=Qrn hV hY h0
 have l:∀{u v:Nat},u<Y->v<B->(u*B+v)/Y<B:=λ{u v} hu hv=>by
  rw [Z82 hY]
  have:=Z13 B (show u+1<=Y from hu)
  rw [Z28,Z84] at this
  rw [Z47 B Y];omega
 have hr:=Z91 (U*B+u1) hY
 exact ⟨_,_,_,_,rfl,rfl,Z71 _ _,hr,Z71 _ _,Z91 _ hY,l hU h1,l hr h0,a,b⟩
theorem Qqa {hi lo s:Nat} (hs:s<=64):(hi*18446744073709551616+lo)*2^s=(hi*2^s+lo/2^(64-s))*18446744073709551616+lo*2^s%18446744073709551616:=by
 have e:18446744073709551616=2^(64-s)*2^s:=by rw [<-Z93,show 64-s+s=64 by omega]
 have h:lo/2^(64-s)=lo*2^s/18446744073709551616:=by
  rw [e,Nat.mul_div_mul_right _ _ (Nat.two_pow_pos s)]
 rw [h,Z28,Z28,Nat.mul_right_comm,Z39]
 have:=Z71 (lo*2^s) 18446744073709551616
 omega
theorem bits_Div64 {hi lo y:Nat} (h:hi<y) (hlo:lo<18446744073709551616) (hy:y<18446744073709551616) :
  z19.F hi lo y=some ((((hi*18446744073709551616+lo)/y:Nat):Int),(((hi*18446744073709551616+lo)%y:Nat):Int)):=by
 rcases Z15 hi with h0|h0
 ·subst h0
  have:=Qj0 (a:=(lo:Int)) (b:=(y:Int)) (by omega) (by omega)
  rw [show ((0:Nat):Int)=0 from rfl,this,Nat.zero_mul,Z25]
  rfl
 obtain ⟨s,hs,s1,s2,hlead⟩:=Qqh (x:=y) (by omega) hy
 unfold z19.F
 rw [Qc (by omega),Qc (by omega),Qc (by omega),hlead]
 simp only [Zb]
 have hp:=Nat.two_pow_pos s
 have hV:=Qqa (hi:=hi) (lo:=lo) (s:=s) (by omega)
 have hlt:(hi*18446744073709551616+lo)*2^s<y*2^s*18446744073709551616:=by
  rw [Nat.mul_right_comm];exact Nat.mul_lt_mul_of_pos_right (by omega) hp
 have hb:lo/2^(64-s)<2^s:=by
  rw [Z82 (Nat.two_pow_pos _),<-Z93,show s+(64-s)=64 by omega];exact hlo
 have hqy:=Nat.mul_div_mul_right (hi*18446744073709551616+lo) y hp
 have hmy:=Nat.mul_mod_mul_right (2^s) (hi*18446744073709551616+lo) y
 have e1:wr .u64 (s:Int)=s:=Qq (by omega) (by omega)
 have e4:wr .u64 ((64:Int)-s)=((64-s:Nat):Int):=by rw [Qq (by omega) (by omega)];omega
 have e5:min (64-s) 64=64-s:=by omega
 have e3:min s 64=s:=by omega
 have eY:wr .u64 ((y:Int)*2^s)=((y*2^s:Nat):Int):=by
  rw [show (y:Int)*2^s=((y*2^s:Nat):Int) by push_cast;rfl,Qq (by omega) (by omega)]
 have eL:wr .u64 ((lo:Int)*2^s)=((lo*2^s%18446744073709551616:Nat):Int):=by
  rw [show (lo:Int)*2^s=((lo*2^s:Nat):Int) by push_cast;rfl,W7];rfl
 have hUY:hi*2^s+lo/2^(64-s)<y*2^s:=by
  have:(hi*2^s+lo/2^(64-s))*18446744073709551616<y*2^s*18446744073709551616:=by omega
  exact Nat.lt_of_mul_lt_mul_right this
 have hHi:=Nat.lt_of_le_of_lt (Nat.le_add_right (hi*2^s) (lo/2^(64-s))) (Nat.lt_trans hUY s2)
 have eH:wr .u64 ((hi:Int)*2^s)=((hi*2^s:Nat):Int):=by
  rw [show (hi:Int)*2^s=((hi*2^s:Nat):Int) by push_cast;rfl,Qq (by omega) (by omega)]
 have eO:=Qpm (a:=hi) (s:=s) hb (by omega)
 simp only [e1,e4,Zi,e3,e5,eY,eL,eH,Qan,eO,show min 32 64=32 from rfl]
 generalize hU:hi*2^s+lo/2^(64-s)=U at *
 generalize hYe:y*2^s=Y at *
 generalize hLe:lo*2^s%18446744073709551616=L at *
 have hL:L<18446744073709551616:=by rw [<-hLe];exact Z91 _ (by omega)
 have aY:=Qj5 s2;have aL:=Qj5 hL
 simp only [aY,aL,show (2:Nat)^32=4294967296 from rfl]
 rw [if_pos (by omega),if_pos (by omega),if_pos (by omega),if_pos (by omega)]
 generalize hy1:Y/4294967296=y1 at *
 generalize hy0:Y%4294967296=y0 at *
 generalize hu1:L/4294967296=u1 at *
 generalize hu0:L%4294967296=u0 at *
 have hYd:Y=y1*4294967296+y0:=by omega
 have hLd:L=u1*4294967296+u0:=by omega
 have b1:2147483648<=y1/\y1<4294967296:=by omega
 have b0:y0<4294967296:=by omega
 have b2:u1<4294967296:=by omega
 have b3:u0<4294967296:=by omega
 rw [if_neg (by omega)]
 have hYp:0<Y:=by omega
 obtain ⟨q1,U2,q0,U3,dq1,dq0,m1,m2,m3,m4,hq1,hq0,V1,V2⟩:=Qsb (B:=4294967296) (V:=U*18446744073709551616+L) (Y:=Y) (U:=U) (u1:=u1) (u0:=u0) (by omega) hYp b3 hUY b2
 have first:∀{u:Nat},u<18446744073709551616->wr .u64 (Int.tdiv (u:Int) (y1:Int))=((u/y1:Nat):Int)/\wr .u64 ((u:Int)-wr .u64 (wr .u64 (Int.tdiv (u:Int) (y1:Int))*(y1:Int)))=((u%y1:Nat):Int):=λ{u} hu=>by
  have h1:=Nat.div_le_self u y1
  have h2:=Z71 u y1
  have h3:Int.tdiv (u:Int) (y1:Int)=((u/y1:Nat):Int):=by rw [Qbf (by omega)];rfl
  rw [h3]
  generalize u/y1=q at *
  generalize u%y1=r at *
  rw [Qq (n:=(q:Int)) (by omega) (by omega)]
  refine ⟨rfl,?_⟩
  rw [Z47] at h2
  rw [show (q:Int)*(y1:Int)=((q*y1:Nat):Int) from rfl]
  generalize q*y1=P at *
  rw [Qq (n:=(P:Int)) (by omega) (by omega),Qq (by omega) (by omega)]
  omega
 obtain ⟨f1,f2⟩:=first (u:=U) (by omega)
 simp only [f2]
 rw [f1]
 obtain ⟨r1,d1⟩:=Qrz (y1:=y1) (y0:=y0) (u:=U) (u0:=u1) b1.1 b1.2 b0 (by omega) b2
 rw [d1,<-hYd,dq1]
 simp only [Zb]
 rw [if_neg (by omega)]
 have eU2:wr .u64 (wr .u64 (wr .u64 ((U:Int)*4294967296)+(u1:Int))-wr .u64 ((q1:Int)*(Y:Int)))=(U2:Int):=by
  rw [show (q1:Int)*(Y:Int)=((Y*q1:Nat):Int) by push_cast;exact Int.mul_comm _ _,W7,W7,W7,W7]
  generalize Y*q1=P at m1 ⊢
  clear d1 V1 V2 m3 m4 dq1 dq0 hV hlt hqy hmy
  omega
 simp only [eU2]
 obtain ⟨g1,g2⟩:=first (u:=U2) (by omega)
 simp only [g2]
 rw [g1]
 obtain ⟨r2,d2⟩:=Qr6 (y1:=y1) (y0:=y0) (u:=U2) (u0:=u0) b1.1 b1.2 b0 (by omega) b3
 rw [d2,<-hYd,dq0]
 simp only [Zb]
 rw [if_pos (by omega)]
 have eU3:wr .u64 (wr .u64 (wr .u64 ((U2:Int)*4294967296)+(u0:Int))-wr .u64 ((q0:Int)*(Y:Int)))=(U3:Int):=by
  rw [show (q0:Int)*(Y:Int)=((Y*q0:Nat):Int) by push_cast;exact Int.mul_comm _ _,W7,W7,W7,W7]
  generalize Y*q0=P at m3 ⊢
  clear d1 d2 V1 V2 m1 dq1 dq0 hV hlt hqy hmy
  omega
 rw [eU3,Qan,Qq (n:=(q1:Int)*4294967296) (by omega) (by omega),Qq (by omega) (by omega)]
 rw [hV,V1] at hqy
 rw [hV,V2] at hmy
 rw [<-hqy,hmy,Nat.mul_div_cancel _ hp]
 rfl
theorem Qkd {a:J0} {b N:Nat} (ha:inB LB a) (hb:0<b) (hb':b<18446744073709551616) (hl:a.length<=800000000) (hN:(N:Int)=valB LB a) :
  ∀
   (k:Nat),k<=a.length->∀(m:Nat) (q:J0),(m:Int)=valB LB (a.drop k)->q.length=a.length->inB LB q->valB LB (q.drop k)=((m/b:Nat):Int) ->
   ∃q',Runs (λrec x=>z20.l0P a b rec some x) (((m%b:Nat):Int),(k:Int)-1,q) (((N%b:Nat):Int),(-1:Int),q')/\q'.length=a.length/\inB LB q'/\valB LB q'=((N/b:Nat):Int)
 |
  0,hk,m,q,hm,hq,hi,hv=>by
  have:m=N:=by rw [Z65] at hm;omega
  subst this
  refine ⟨q,.done λrec=>?_,hq,hi,by rwa [Z65] at hv⟩
  unfold z20.l0P
  simp only
  rw [Qc (by omega)];rfl
 |
  k+1,hk,m,q,hm,hq,hi,hv=>by
  have hka:k<a.length:=by omega
  have hkq:k<q.length:=by omega
  have hd:=Wu (B:=LB) (by decide) ha k
  obtain ⟨d,hd'⟩:∃d:Nat,a.getD k 0=(d:Int):=⟨(a.getD k 0).toNat,by omega⟩
  have hd2:d<18446744073709551616:=by rw [hd'] at hd;exact_mod_cast hd.2
  obtain ⟨r,hr⟩:∃r,m%b=r:=⟨_,rfl⟩
  have hrb:r<b:=hr▸Z91 m hb
  obtain ⟨x,hx⟩:∃x,r*18446744073709551616+d=x:=⟨_,rfl⟩
  have hxb:x<b*18446744073709551616:=by omega
  obtain ⟨z,hz⟩:∃z,x/b=z:=⟨_,rfl⟩
  obtain ⟨w,hw⟩:∃w,x%b=w:=⟨_,rfl⟩
  obtain ⟨y,hy⟩:∃y,m/b=y:=⟨_,rfl⟩
  have hq1:z<18446744073709551616:=hz▸Nat.div_lt_of_lt_mul hxb
  have hmm:b*y+r=m:=by rw [<-hy,<-hr];exact Z71 m b
  have hm':((d+LB*m:Nat):Int)=valB LB (a.drop k):=by rw [Jj,hd',<-hm,Int.natCast_add,Z30]
  have e:d+LB*m=x+b*(LB*y):=by
   have h4:b*(LB*y)=LB*(b*y):=by rw [<-Z90,Z47 b LB,Z90]
   have h5:LB*m=LB*(b*y)+LB*r:=by rw [<-hmm,Nat.mul_add]
   rw [h4,h5,<-hx,Z47 r];show _=18446744073709551616*r+d+LB*(b*y)
   have:LB*r=18446744073709551616*r:=rfl
   omega
  have hdiv:(d+LB*m)/b=z+LB*y:=by rw [e,Nat.add_mul_div_left _ _ hb,hz]
  have hmod:(d+LB*m)%b=w:=by rw [e,Nat.add_mul_mod_self_left,hw]
  have hvq:valB LB ((q.set k (z:Int)).drop k)=(((d+LB*m)/b:Nat):Int):=by
   rw [Jj,Qjv,hv,hdiv,hy]
   have:(q.set k (z:Int)).getD k 0=(z:Int):=by simp [List.getD,hkq]
   rw [this,Int.natCast_add,Z30]
  obtain ⟨q',r1,r2,r3,r4⟩:=Qkd ha hb hb' hl hN k (by omega) (d+LB*m) (q.set k (z:Int)) hm' (by simp [hq]) (Qb1 hi (by show (0:Int)<=(z:Int)/\(z:Int)<((18446744073709551616:Nat):Int);omega)) hvq
  rw [hmod] at r1
  refine ⟨q',.step (λrec=>?_) r1,r2,r3,r4⟩
  have ek:((k+1:Nat):Int)-1=(k:Int):=by omega
  unfold z20.l0P
  simp only
  rw [ek,bif_t (by omega),if_pos (by omega),Zi,hd',hr,bits_Div64 hrb hd2 hb',hx,hz,hw]
  simp only [Zb]
  rw [if_pos (by omega),if_pos hkq,Qg (by omega) (by omega)]
theorem quot_by {a b:Nat} (hb:0<b) (hb':b<18446744073709551616) (ha:(lb a).length<=800000000):∃q,z20.F (lb a) (b:Int)=some (q,((a%b:Nat):Int))/\q.length=(lb a).length/\inB LB q/\valB LB q=((a/b:Nat):Int):=by
 obtain ⟨q',r1,r2,r3,r4⟩:=Qkd (a:=lb a) (b:=b) (N:=a) (Q4 bL a) hb hb' ha (by rw [Wc bL]) (lb a).length (Z5 _) 0 (List.replicate (lb a).length 0) (by rw [List.drop_length];rfl) (by simp) (Qdf (by decide) _) (by rw [Z40 (by simp)];simp [valB])
 rw [Nat.zero_mod] at r1
 have e:z20.l0 (lb a) (b:Int) ((0:Int),((lb a).length:Int)-1,List.replicate (lb a).length 0)=some (((a%b:Nat):Int),(-1:Int),q'):=r1.lfp
 refine ⟨q',?_,r2,r3,r4⟩
 unfold z20.F
 rw [if_pos (by omega),Zi,Qg (by omega) (by omega),e]
 rfl
theorem Qu9 {a b:Nat} (hb:0<b) (hb':b<18446744073709551616) (ha:(lb a).length<=800000000):Jb a b:=by
 rcases Z56 a b with h|h
 ·exact Ql3 h (by omega)
 ·have hl:(lb b).length<=1:=Ja bL (by simpa using hb')
  obtain ⟨q,q1,q2,q3,q4⟩:=quot_by hb hb' ha
  unfold Jb z25.F
  rw [W0]
  simp only [Zb]
  rw [Qc (by omega),Qdu (by omega)]
  simp only [Zb]
  have:¬cmpI (a:Int) b<0:=by unfold cmpI;rw [if_neg (by omega)];split<;>omega
  rw [Qc this,Qb3 (by show List.length _<=_;omega),Qb3 (by show List.length _<=_;omega)]
  simp only [Zb]
  rw [Qdt hb hb',Z19,bif_t (by omega),if_pos (by omega),show [(b:Int)].getD 0 0=b from rfl,q1]
  simp only [Zb]
  rw [Qjb q3 (by show List.length _<=_;omega),q4]
  simp only [Zb]
  have hm:=Z91 a hb
  rw [W9 (by omega)]
  rfl
inductive Rem (len:Nat):Nat->Nat->List Int->Prop
 |stop (j:Nat) (h:len<=j):Rem len 0 j []
 |step (n j:Nat) (ds:List Int) (h:0<n\/j<len) (hr:Rem len (n/10) (j+1) ds):Rem len n j (((n%10:Nat):Int)::ds)
def asc (d:Int):Int:=48+d
theorem Qri {s:J0} {i:Nat} {x:Int} (h:i<s.length):(s.set i x).drop i=x::s.drop (i+1):=by
 rw [Z31 (by simpa using h),Qjv]
 simp
theorem Qwe {len:Nat} (hlen:len<=20) {n j:Nat} {ds:J0} (h:Rem len n j ds):n<18446744073709551616->j+ds.length<=20->∀s:J0,s.length=20 ->
  ∃s',Runs (λrec x=>z26.l0P (len:Int) rec some x) ((n:Int),((20-j:Nat):Int),s) ((0:Int),((20-j-ds.length:Nat):Int),s')/\s'.length=20/\s'.drop (20-j-ds.length)=ds.reverse.map asc++s.drop (20-j):=by
 induction h with
 |
  stop j h=>
  intro _ hj s hs
  simp only [Z21,Z80] at hj
  refine ⟨s,.done λrec=>?_,hs,by simp⟩
  unfold z26.l0P
  simp only [Z21,Nat.sub_zero]
  rw [Qc (by omega),Qg (by omega) (by omega),Qc (by omega)]
  rfl
 |
  step n j ds h hr ih=>
  intro hn hj s hs
  simp only [Z8] at hj
  have hi:20-(j+1)<s.length:=by omega
  obtain ⟨s',r1,r2,r3⟩:=ih (by omega) (by omega) (s.set (20-(j+1)) (asc ((n%10:Nat):Int))) (by simpa using hs)
  refine ⟨s',?_,r2,?_⟩
  ·rw [Z8,show 20-j-(ds.length+1)=20-(j+1)-ds.length by omega]
   refine .step (λrec=>?_) r1
   have e1:wr .i64 (((20-j:Nat):Int)-1)=((20-(j+1):Nat):Int):=by rw [Qg (by omega) (by omega)];omega
   have e2:wr .u64 (Int.tdiv (n:Int) 10)=((n/10:Nat):Int):=by rw [Qbf (by omega),Qq (by omega) (by omega)];rfl
   have e3:wr .u8 (wr .u64 (48+Int.tmod (n:Int) 10))=asc ((n%10:Nat):Int):=by
    rw [Qbo (by omega),Qq (by omega) (by omega),J7 (by omega) (by omega)];rfl
   unfold z26.l0P
   simp only [e1,e2,e3]
   rcases Z15 n with h0|h0
   ·have hjl:j<len:=h.resolve_left (by omega)
    rw [Qc (by omega),Qg (by omega) (by omega),bif_t (by omega),if_pos (by omega),Zi,if_pos hi]
   ·rw [bif_t (by omega),if_pos (by omega),Zi,if_pos hi]
  ·rw [Z8,show 20-j-(ds.length+1)=20-(j+1)-ds.length by omega,r3,Qri hi,show 20-(j+1)+1=20-j by omega]
   simp
theorem Qrd {ds:J0} (h:inB 10 ds):(ds.map asc).map (λn=>UInt8.ofNat n.toNat)=ds.map ch:=by
 rw [List.map_map]
 refine Z78 λd hd=>?_
 have:=h d hd
 show UInt8.ofNat (48+d).toNat=UInt8.ofNat (48+d.toNat)
 rw [show (48+d).toNat=48+d.toNat by omega]
theorem Rem.inB {len n j:Nat} {ds:J0} (h:Rem len n j ds):inB 10 ds:=by
 induction h with
 |stop=>exact Jv _
 |step n j ds h hr ih=>exact Ym.2 ⟨by omega,ih⟩
theorem Qvt {B:Nat} {l:J0} (h:inB B l):inB B l.reverse:=λx hx=>h x (by simpa using hx)
theorem Qon {len n:Nat} {ds:J0} (hlen:len<=20) (hn:n<18446744073709551616) (h:Rem len n 0 ds) (hd:ds.length<=20):z26.F (n:Int) (len:Int)=some (ds.reverse.map ch):=by
 obtain ⟨s',r1,r2,r3⟩:=Qwe hlen h hn (by omega) (List.replicate 20 0) (by simp)
 have e:z26.l0 (len:Int) ((n:Int),(20:Int),List.replicate 20 (0:Int))=some ((0:Int),((20-0-ds.length:Nat):Int),s'):=r1.lfp
 unfold z26.F
 rw [e]
 simp only [Zb]
 have hl:(s'.drop (20-0-ds.length)).length=ds.length:=by rw [Z17];omega
 rw [if_pos r2,if_pos (by omega),Zi,Z23 (by rw [hl];omega),r3]
 simp only [Nat.sub_zero,List.drop_replicate,Nat.sub_self,List.replicate_zero,Z35]
 rw [Qrd (Qvt h.inB)]
def lsd:Nat->Nat->J0
 |0,_=>[]
 |k+1,n=>((n%10:Nat):Int)::lsd k (n/10)
theorem Qd3:∀(k n:Nat),(lsd k n).length=k
 |0,_=>rfl
 |k+1,n=>by simp [lsd,Qd3 k]
theorem Qjn {len:Nat}:∀(k n j:Nat),j+k=len->n<10^k->Rem len n j (lsd k n)
 |
  0,n,j,hj,hn=>by
  have:n=0:=by simpa using hn
  subst this;exact .stop j (by omega)
 |k+1,n,j,hj,hn=>.step n j _ (.inr (by omega)) (Qjn k (n/10) (j+1) (by omega) (by rw [Z42] at hn;omega))
theorem Qpx {len:Nat} (n:Nat):∀j,(len<=j\/0<n/\len<=j+1)->Rem len n j (toB 10 n):=by
 induction n using Nat.strongRecOn with
 |
  _ n ih=>
  intro j hj
  rcases Z15 n with h0|h0
  ·subst h0;rw [toB_zero];exact .stop j (by omega)
  ·rw [Wv b10 h0]
   exact .step n j _ (.inl h0) (ih _ (Z87 h0 (by decide)) (j+1) (.inl (by omega)))
theorem Qhv:∀(k low q:Nat),0<q->low<10^k->toB 10 (low+10^k*q)=lsd k low++toB 10 q
 |
  0,low,q,hq,hl=>by
  have:low=0:=by simpa using hl
  subst this;simp [lsd]
 |
  k+1,low,q,hq,hl=>by
  have hp:0<10^k:=Nat.pow_pos (by decide)
  have hpq:0<10^k*q:=Nat.mul_pos hp hq
  have e:low+10^(k+1)*q=low+10*(10^k*q):=by rw [Z42,Z47 (10^k),Z90]
  rw [e,Wv b10 (by omega),lsd]
  rw [Nat.add_mul_mod_self_left,Nat.add_mul_div_left _ _ (by decide),Qhv k (low/10) q hq (by rw [Z42] at hl;omega)]
  rfl
inductive Groups:Nat->List (List UInt8)->Prop
 |zero:Groups 0 []
 |last (n:Nat) (h0:0<n) (h:n<10^18):Groups n [(toB 10 n).reverse.map ch]
 |more (low q:Nat) (gs:List (List UInt8)) (hl:low<10^18) (h0:0<q) (hg:Groups q gs):Groups (low+10^18*q) (((lsd 18 low).reverse.map ch)::gs)
theorem Groups.text {n:Nat} {gs:List J1} (h:Groups n gs):gs.reverse.flatten=(toB 10 n).reverse.map ch:=by
 induction h with
 |zero=>rw [toB_zero];rfl
 |last n h0 h=>simp
 |
  more low q gs hl h0 hg ih=>
  rw [List.reverse_cons,Z76,ih,Qhv 18 low q h0 hl,List.reverse_append,Z63]
  simp
theorem Groups.pos {n:Nat} {gs:List J1} (h:Groups n gs):∀g∈gs,1<=g.length:=by
 induction h with
 |zero=>intro g hg;simp at hg
 |
  last n h0 h=>
  intro g hg
  simp only [List.mem_singleton] at hg;subst hg
  rw [Wv b10 h0];simp
 |
  more low q gs hl h0 hg ih=>
  intro g hg
  rcases Z67.1 hg with rfl|hg
  ·simp [Qd3]
  ·exact ih g hg
theorem Qk5:∀{gs:List J1},(∀g∈gs,1<=g.length)->gs.length<=gs.flatten.length
 |[],_=>by simp
 |
  g::gs,h=>by
  have:=h g (by simp)
  have:=Qk5 λg' h'=>h g' (List.mem_cons_of_mem _ h')
  simp only [Z8,Z48,Z2];omega
theorem Groups.len {n:Nat} {gs:List J1} (h:Groups n gs):gs.length<=sz n/\gs.flatten.length=sz n:=by
 have ht:=congrArg List.length h.text
 have e:gs.reverse.flatten.length=gs.flatten.length:=by
  simp only [List.length_flatten,List.map_reverse,List.sum_reverse]
 rw [e] at ht
 have ht:gs.flatten.length=sz n:=by rw [ht];unfold sz;simp
 exact ⟨by rw [<-ht];exact Qk5 h.pos,ht⟩
theorem Qo1 (l:J0) (hl:l.length<=1):z27.l2 l (((l.length:Nat):Int)) ((0:Int),(0:Int))=some (l.getD 0 0,(l.length:Int)):=by
 match l,hl with
 |
  [],_=>
  refine (Runs.done λrec=>?_:Runs (λrec x=>z27.l2P [] _ rec some x) _ _).lfp
  unfold z27.l2P
  simp only [Z21]
  rw [Qc (by omega)];rfl
 |
  [x],_=>
  refine (Runs.step (y:=(x,(1:Int))) (λrec=>?_) (Runs.done λrec=>?_):Runs (λrec x'=>z27.l2P [x] _ rec some x') _ _).lfp
  ·unfold z27.l2P
   simp only [Z19]
   rw [bif_t (by omega),if_pos (by omega),Qg (by omega) (by omega)];rfl
  ·unfold z27.l2P
   simp only [Z19]
   rw [Qc (by omega)];rfl
theorem Qsi {n:Nat} (h:n<18446744073709551616):(lb n).getD 0 0=(n:Int)/\(lb n).length<=1:=by
 rcases Z15 n with rfl|h0
 ·rw [lb_zero];simp
 ·rw [Qdt h0 h];simp
theorem Qmj {low:Nat} {len:Nat} {ds:J0} (hlen:len<=20) (hl:low<18446744073709551616) (hr:Rem len low 0 ds) (hd:ds.length<=20) {gs:List J1} (hg:gs.length<=800000000) {rec done:(J0×List J1)->Option (J0×List J1)} {y:Int} {r:J0×J0×Int} :
  z27.j1010a rec done ((low:Int),y) (len:Int) gs r=rec (r.1,gs++[ds.reverse.map ch]):=by
 unfold z27.j1010a
 rw [Qon hlen hl hr hd]
 simp only [Zb,Z19]
 rw [if_pos (by omega)]
theorem Qqk:∀(n:Nat),sz n<=100000000->∀gs:List J1,gs.length+sz n<=700000000->∃l,Groups n l/\Runs (λrec x=>z27.l0P rec some x) (lb n,gs) ([],gs++l):=by
 intro n
 induction n using Nat.strongRecOn with
 |
  _ n ih=>
  intro hs gs hg
  obtain ⟨U,hU⟩:∃U,U=1000000000000000000:=⟨_,rfl⟩
  have hU10:10^18=U:=by rw [hU]
  rcases Z15 n with h0|h0
  ·subst h0
   refine ⟨[],.zero,.done λrec=>?_⟩
   unfold z27.l0P
   simp only [W0,Zb]
   rw [lb_zero,Z35];rfl
  ·have hUp:0<U:=by omega
   have hdm:=Z71 n U
   have hml:=Z91 n hUp
   have hdl:n/U<=n:=Nat.div_le_self _ _
   have hD:Jb n U:=Qu9 hUp (by omega) (by have:=Q7 n;omega)
   have hqlt:n/U<n:=Z87 h0 (by omega)
   obtain ⟨q,hq⟩:∃q,n/U=q:=⟨_,rfl⟩
   obtain ⟨low,hlow⟩:∃low,n%U=low:=⟨_,rfl⟩
   unfold Jb at hD
   rw [hq] at hdm hdl hD hqlt;rw [hlow] at hdm hml hD
   have hsq:sz q<=sz n:=Qgi hdl
   obtain ⟨g1,g2⟩:=Qsi (n:=low) (by omega)
   have hof:z15.F [(1000000000000000000:Int)]=some (lb U):=by rw [W9 (by omega),hU];rfl
   have hl2:=Qo1 (lb low) g2
   rw [g1] at hl2
   have body:∀{rec done:(J0×List J1)->Option (J0×List J1)},z27.l0P rec done (lb n,gs) =
     (bif decide (q=0) then z27.j1010a rec done ((low:Int),((lb low).length:Int)) 1 gs (lb q,lb low,0) else z27.j1010a rec done ((low:Int),((lb low).length:Int)) 18 gs (lb q,lb low,0)):=λ{rec done}=>by
    unfold z27.l0P
    simp only [W0,Zb]
    rw [Zf (by omega),Zo,Zd,hof]
    simp only [Zb]
    rw [hD]
    simp only [Zb]
    rw [Qb3 (by show List.length _<=_;omega)]
    simp only [Zb]
    rw [hl2]
    simp only [Zb,W0]
   rcases Z15 q with hq0|hq0
   ·subst hq0
    have hn:n=low:=by omega
    subst hn
    have hsz:sz n<=18:=Q2 (by rw [hU10];exact hml)
    refine ⟨[(toB 10 n).reverse.map ch],.last n h0 (by rw [hU10];exact hml),.step (y:=([],gs++[(toB 10 n).reverse.map ch])) (λrec=>?_) (.done λrec=>?_)⟩
    ·rw [body,bif_t rfl]
     refine (Qmj (len:=1) (by omega) (by omega) (Qpx n 0 (.inr ⟨h0,by omega⟩)) (by show sz n<=20;omega) (by omega)).trans ?_
     rw [lb_zero]
    ·unfold z27.l0P
     rw [<-lb_zero]
     simp only [W0,Zb]
     rw [lb_zero];rfl
   ·obtain ⟨l,l1,l2⟩:=ih q hqlt (by omega) (gs++[(lsd 18 low).reverse.map ch]) (by
     have h1:sz q<sz n:=by
      have:=congrArg List.length (Qhv 18 low q hq0 (by rw [hU10];exact hml))
      rw [Z2,Qd3,hU10,show low+U*q=n by omega] at this
      unfold sz;omega
     simp only [Z2,Z19];omega)
    have hgn:Groups n (((lsd 18 low).reverse.map ch)::l):=by
     have:=Groups.more low q l (by rw [hU10];exact hml) hq0 l1
     rwa [hU10,show low+U*q=n by omega] at this
    refine ⟨_,hgn,.step (y:=(lb q,gs++[(lsd 18 low).reverse.map ch])) (λrec=>?_) (by rw [show gs++((lsd 18 low).reverse.map ch)::l=(gs++[(lsd 18 low).reverse.map ch])++l by simp];exact l2)⟩
    rw [body,Qc (by omega)]
    exact Qmj (len:=18) (by omega) (by omega) (Qjn 18 low 0 (by omega) (by rw [hU10];exact hml)) (by rw [Qd3];omega) (by omega)
def byts (s:J1):J0:=s.map λc=>(c.toNat:Int)
theorem Qwc (a b:J1):byts (a++b)=byts a++byts b:=by simp [byts]
theorem Qvw (s:J1):(byts s).all Yw=true:=by
 rw [Z14]
 intro x hx
 obtain ⟨c,_,rfl⟩:=List.mem_map.1 hx
 have:=c.toNat_lt
 simp [Yw];omega
theorem Qqs (s:J1):(byts s).map (λn=>UInt8.ofNat n.toNat)=s:=by
 unfold byts
 rw [List.map_map]
 conv=>rhs;rw [<-List.map_id s]
 exact Z78 λc _=>by simp
theorem Qej (s:J1):(byts s).length=s.length:=by simp [byts]
theorem Qk2 {gs:List J1} (hg:gs.length<=800000000) (hs:gs.flatten.length<=100000000):∀(k:Nat),k<=gs.length->∀acc:J1,acc.length+(gs.take k).flatten.length<=100000000 ->
  ∃i,Runs (λrec x=>z27.l4P gs rec some x) ((k:Int)-1,byts acc) (i,byts (acc++(gs.take k).reverse.flatten))
 |
  0,hk,acc,ha=>⟨-1,by
  refine .done λrec=>?_
  unfold z27.l4P
  simp only
  rw [Qc (by omega)];simp⟩
 |
  k+1,hk,acc,ha=>by
  have hk':k<gs.length:=by omega
  have hget:gs.getD k []=gs[k]:=by simp [List.getD,hk']
  have htk:gs.take (k+1)=gs.take k++[gs[k]]:=by rw [List.take_add_one,Z1 hk'];rfl
  have hfl:(gs.take (k+1)).flatten.length=(gs.take k).flatten.length+gs[k].length:=by rw [htk,Z76,Z2,List.flatten_singleton]
  obtain ⟨i,hi⟩:=Qk2 hg hs k (by omega) (acc++gs[k]) (by rw [Z2];omega)
  refine ⟨i,.step (λrec=>?_) (by rw [htk,List.reverse_append,List.reverse_singleton,Z76,List.flatten_singleton,<-Z70];exact hi)⟩
  unfold z27.l4P
  simp only
  rw [show ((k+1:Nat):Int)-1=(k:Int) by omega,bif_t (by omega),if_pos (by omega),Zi,if_pos hk',hget]
  change (if ((byts acc).length+(byts gs[k]).length)*1<=140737488355328 then _ else none)=_
  rw [Qej,Qej,if_pos (by omega),Qg (by omega) (by omega),Qwc]
  rfl
theorem digits_Print {n:Nat} (hs:sz n<=100000000):z27.F (lb n)=some (txt n):=by
 unfold z27.F
 rw [W0]
 simp only [Zb]
 rcases Z15 n with h0|h0
 ·subst h0;rfl
 rw [Qc (by omega)]
 obtain ⟨gs,g1,g2⟩:=Qqk n hs [] (by simp only [Z21];omega)
 have e0:z27.l0 (lb n,[])=some ([],gs):=g2.lfp
 obtain ⟨l1,l2⟩:=g1.len
 have ht:=g1.text
 have hn:0<gs.length:=by
  cases gs with
  |nil=>exfalso;cases g1;omega
  |cons=>simp
 rw [e0]
 simp only [Zb]
 obtain ⟨k,hk⟩:∃k,gs.length=k+1:=⟨gs.length-1,by omega⟩
 have hk':k<gs.length:=by omega
 have hget:gs.getD k []=gs[k]:=by simp [List.getD,hk']
 have htk:gs=gs.take k++[gs[k]]:=by
  have:=List.take_add_one (l:=gs) (i:=k)
  rw [Z1 hk',Z23 (by omega)] at this;exact this
 have hfl:gs.flatten.length=(gs.take k).flatten.length+gs[k].length:=by
  conv=>lhs;rw [htk]
  rw [Z76,Z2,List.flatten_singleton]
 rw [hk,Qg (n:=((k+1:Nat):Int)-1) (by omega) (by omega),show ((k+1:Nat):Int)-1=(k:Int) by omega,bif_t (by omega),if_pos (by omega),Zi,if_pos (by omega),hget]
 change (if (0+(byts gs[k]).length)*1<=140737488355328 then ((z27.l4 gs (wr .i64 ((k:Int)-1),[]++byts gs[k])).bind _) else none)=_
 rw [Qej,if_pos (by omega),Qg (by omega) (by omega),Z85]
 obtain ⟨i,hi⟩:=Qk2 (gs:=gs) (by omega) (by omega) k (by omega) gs[k] (by omega)
 have e4:z27.l4 gs ((k:Int)-1,byts gs[k])=some (i,byts (gs[k]++(gs.take k).reverse.flatten)):=hi.lfp
 have hall:gs[k]++(gs.take k).reverse.flatten=gs.reverse.flatten:=by
  conv=>rhs;rw [htk]
  rw [List.reverse_append,List.reverse_singleton,Z76,List.flatten_singleton]
 rw [e4,hall]
 simp only [Zb]
 have hlen:gs.reverse.flatten.length=sz n:=by rw [ht];unfold sz;simp
 have hszp:0<sz n:=by omega
 rw [Qej,if_pos (by omega),if_pos ⟨trivial,by omega,Qvw _⟩,Qqs,ht]
 unfold txt
 rw [if_neg (by omega)]
def itxt (z:Int):J1:=if z<0 then 45::txt z.natAbs else txt z.natAbs
theorem Qfy (n:Nat):(txt n).length<=sz n+1:=by
 unfold txt;split
 ·simp
 ·unfold sz;simp
theorem Qv4 (z:Int):(itxt z).length<=sz z.natAbs+2:=by
 have:=Qfy z.natAbs
 unfold itxt;split
 ·simp only [Z8];omega
 ·omega
theorem Qld {z:Int} (hs:sz z.natAbs<=100000000):z28.F (lb z.natAbs) (neg z)=some (itxt z):=by
 have:=Qfy z.natAbs
 unfold z28.F itxt
 by_cases h:z<0
 ·rw [bif_t h,digits_Print hs,if_pos h]
  simp only [Zb]
  rw [if_pos (by simp only [Z19];omega)];rfl
 ·rw [Qc h,digits_Print hs,if_neg h];rfl
theorem Qi8 {z:Int} (hs:sz z.natAbs<=100000000):z108.F (dg z.natAbs) (neg z)=some (itxt z):=by
 have h1:=Qfy z.natAbs
 have h2:=Qde z.natAbs
 exact Qtz (by omega) (by omega)
def ltr (b:UInt8):Bool:=decide (97<=b.toNat)&&decide (b.toNat<=122)
def dgt (b:UInt8):Bool:=decide (48<=b.toNat)&&decide (b.toNat<=57)
def wrd (b:UInt8):Bool:=ltr b||dgt b||decide (b.toNat=45)
def nmr (b:UInt8):Bool:=dgt b||decide (b.toNat=45)||decide (b.toNat=46)
def bln (b:UInt8):Bool:=decide (b.toNat=32)||decide (b.toNat=9)||decide (b.toNat=10)||decide (b.toNat=13)
def sgn (b:UInt8):Bool:=decide (b.toNat=123)||decide (b.toNat=125)||decide (b.toNat=61)||decide (b.toNat=59)||decide (b.toNat=44)
def skp:Bool->J1->J1
 |_,[]=>[]
 |true,b::t=>if b.toNat=10 then skp false t else skp true t
 |false,b::t=>if b.toNat=35 then skp true t else if bln b then skp false t else b::t
theorem W2:∀(r:Bool) (s:J1),(skp r s).length<=s.length
 |_,[]=>by simp [skp]
 |
  true,b::t=>by
  have h1:=W2 false t;have h2:=W2 true t
  unfold skp;split<;>simp<;>omega
 |
  false,b::t=>by
  have h1:=W2 false t;have h2:=W2 true t
  unfold skp;split
  ·simp;omega
  ·split<;>simp<;>omega
theorem Ql4:∀(b:Bool) (l:J1),l.drop (l.length-(skp b l).length)=skp b l:=by
 intro b l
 induction l generalizing b with
 |nil=>simp [skp]
 |
  cons c t iht=>
  have drop1:∀b',(c::t).drop ((c::t).length-(skp b' t).length)=t.drop (t.length-(skp b' t).length):=λb'=>by
   have:=W2 b' t
   rw [show (c::t).length-(skp b' t).length=(t.length-(skp b' t).length)+1 by simp;omega];rfl
  cases b with
  |
   true=>
   rw [skp];split
   ·rw [drop1];exact iht false
   ·rw [drop1];exact iht true
  |
   false=>
   rw [skp];split
   ·rw [drop1];exact iht true
   ·split
    ·rw [drop1];exact iht false
    ·simp
def dtd (s:J1):Bool:=decide (s.length=10)&&(List.range 10).all λi=>if i=4\/i=7 then decide ((s.getD i 0).toNat=45) else dgt (s.getD i 0)
def tokOf (s:J1):Int×J1×Int:=
 if ltr (s.getD 0 0) then (0,s.takeWhile wrd,0)
 else if dgt (s.getD 0 0)||decide ((s.getD 0 0).toNat=45) then
  if dtd (s.takeWhile nmr) then (2,s.takeWhile nmr,0) else if (mDec (s.takeWhile nmr)).2.2=0 then (1,s.takeWhile nmr,0) else (0,[],5)
 else if sgn (s.getD 0 0) then (3,s.take 1,0) else (0,[],4)
theorem Qjg {p:UInt8->Bool} {b:UInt8} {t:J1} (h:p b=true):1<=((b::t).takeWhile p).length/\((b::t).takeWhile p).length<=(b::t).length:=by
 refine ⟨by rw [List.takeWhile_cons_of_pos h];simp,?_⟩
 exact (List.takeWhile_prefix p).length_le
theorem Qdl {s:J1} (h:s≠[]) (he:(tokOf s).2.2=0):1<=(tokOf s).2.1.length/\(tokOf s).2.1.length<=s.length:=by
 cases s with
 |nil=>exact (h rfl).elim
 |
  cons b t=>
  unfold tokOf at he ⊢
  simp only [List.getD_cons_zero] at he ⊢
  by_cases h1:ltr b=true
  ·rw [if_pos h1];exact Qjg (by simp [wrd,h1])
  ·rw [if_neg h1] at he ⊢
   by_cases h2:(dgt b||decide (b.toNat=45))=true
   ·rw [if_pos h2] at he ⊢
    have hp:=Qjg (p:=nmr) (b:=b) (t:=t) (by simp only [nmr,h2,Bool.true_or])
    by_cases h3:dtd (List.takeWhile nmr (b::t))=true
    ·rw [if_pos h3];exact hp
    ·rw [if_neg h3] at he ⊢
     by_cases h4:(mDec (List.takeWhile nmr (b::t))).2.2=0
     ·rw [if_pos h4];exact hp
     ·rw [if_neg h4] at he;simp at he
   ·rw [if_neg h2] at he ⊢
    by_cases h3:sgn b=true
    ·rw [if_pos h3];simp
    ·rw [if_neg h3] at he;simp at he
structure Tk where
 k:Int
 s:List UInt8
 p:Int
def Tk.v (t:Tk):List V:=[.int .i64 t.k,.str t.s,.int .i64 t.p]
def lx (N:Nat) (r:J1):List Tk×Int×Int:=
 if h:r=[] then ([],0,0) else
 if h2:(tokOf r).2.2=0 then
  let m:=lx N (skp false (r.drop (tokOf r).2.1.length))
  if m.2.2=0 then (⟨(tokOf r).1,(tokOf r).2.1,(N:Int)-r.length⟩::m.1,0,0) else ([],m.2.1,m.2.2)
 else ([],(N:Int)-r.length,(tokOf r).2.2)
termination_by r.length
decreasing_by
 have h3:=Qdl h h2
 have h4:=W2 false (r.drop (tokOf r).2.1.length)
 rw [Z17] at h4
 omega
theorem lx_nil (N:Nat):lx N []=([],0,0):=by rw [lx];rfl
theorem Qb5 {N:Nat} {r:J1} (h:r≠[]) (h2:(tokOf r).2.2≠0):lx N r=([],(N:Int)-r.length,(tokOf r).2.2):=by
 rw [lx,dif_neg h,dif_neg h2]
theorem Qbq {N:Nat} {r:J1} (h:r≠[]) (h2:(tokOf r).2.2=0):lx N r =
  if (lx N (skp false (r.drop (tokOf r).2.1.length))).2.2=0 then (⟨(tokOf r).1,(tokOf r).2.1,(N:Int)-r.length⟩::(lx N (skp false (r.drop (tokOf r).2.1.length))).1,0,0)
  else ([],(lx N (skp false (r.drop (tokOf r).2.1.length))).2.1,(lx N (skp false (r.drop (tokOf r).2.1.length))).2.2):=by
 rw [lx,dif_neg h,dif_pos h2]
def lexOf (s:J1):List Tk×Int×Int:=lx s.length (skp false s)
theorem Qli (s:J1) (i:Nat) (h:i<s.length):(ByteArray.get! ⟨s.toArray⟩ i)=s.getD i 0:=by
 have h2:i<s.toArray.size:=by simpa using h
 show s.toArray[i]! = _
 rw [getElem!_pos s.toArray i h2]
 simp [Zl,h]
theorem dec_low {s:J1} {i:Nat} (h:i<s.length) (hb:(s.getD i 0).toNat<128):Utf8.decode ⟨s.toArray⟩ i=((s.getD i 0).toNat,1):=by
 unfold Utf8.decode
 simp only [Z80,Qli s i h]
 rw [if_pos hb]
theorem Qpo {s:J1} {i:Nat} (h:i<s.length) (hb:128<=(s.getD i 0).toNat):128<=(Utf8.decode ⟨s.toArray⟩ i).1:=by
 unfold Utf8.decode
 simp only [Z80,Qli s i h]
 rw [if_neg (by omega)]
 repeat' split
 all_goals first|(simp only [Utf8.runeError];omega)|(simp only [Z4,decide_eq_true_eq] at *;omega)|(simp only;omega)
theorem lex_letter (n:Int):z87.F n=some (decide (97<=n/\n<=122)):=by
 unfold z87.F
 by_cases h:n>=97
 ·rw [bif_t h];congr 1;exact decide_eq_decide.2 (by omega)
 ·rw [Qc h];congr 1;symm;exact Zf (by omega)
theorem lex_digit (n:Int):z88.F n=some (decide (48<=n/\n<=57)):=by
 unfold z88.F
 by_cases h:n>=48
 ·rw [bif_t h];congr 1;exact decide_eq_decide.2 (by omega)
 ·rw [Qc h];congr 1;symm;exact Zf (by omega)
theorem lex_wordly (n:Int):z89.F n=some (decide ((97<=n/\n<=122)\/(48<=n/\n<=57)\/n=45)):=by
 unfold z89.F
 rw [lex_letter]
 simp only [Zb]
 by_cases h:97<=n/\n<=122
 ·rw [bif_t h];congr 1;symm;exact Zt (.inl h)
 ·rw [Qc h,lex_digit]
  simp only [Zb]
  by_cases h2:48<=n/\n<=57
  ·rw [bif_t h2];congr 1;symm;exact Zt (.inr (.inl h2))
  ·rw [Qc h2];congr 1;exact decide_eq_decide.2 (by omega)
theorem lex_numeric (n:Int):z90.F n=some (decide ((48<=n/\n<=57)\/n=45\/n=46)):=by
 unfold z90.F
 rw [lex_digit]
 simp only [Zb]
 by_cases h:48<=n/\n<=57
 ·rw [bif_t h];congr 1;symm;exact Zt (.inl h)
 ·rw [Qc h]
  by_cases h2:n=45
  ·rw [bif_t h2];congr 1;symm;exact Zt (.inr (.inl h2))
  ·rw [Qc h2];congr 1;exact decide_eq_decide.2 (by omega)
theorem wrd_iff (b:UInt8):wrd b=decide ((97<=(b.toNat:Int)/\(b.toNat:Int)<=122)\/(48<=(b.toNat:Int)/\(b.toNat:Int)<=57)\/(b.toNat:Int)=45):=by
 rw [Z66];simp only [wrd,ltr,dgt,Z64,Z4,decide_eq_true_eq];omega
theorem nmr_iff (b:UInt8):nmr b=decide ((48<=(b.toNat:Int)/\(b.toNat:Int)<=57)\/(b.toNat:Int)=45\/(b.toNat:Int)=46):=by
 rw [Z66];simp only [nmr,dgt,Z64,Z4,decide_eq_true_eq];omega
def Jn (G:Int->Option Bool) (s:J1) {R:Type} (rec:Nat->Option R) (done:((J1×Nat)⊕Nat)->Option R):Nat->Option R:=λi=>
 if i<s.length then (G ((Utf8.decode ⟨s.toArray⟩ i).1:Int)).bind λr=>
  bif (!r) then (if (0:Int)<=((i:Nat):Int)/\((i:Nat):Int)<=((s).length:Int) then done (.inl (s.take (((i:Nat):Int)).toNat,i+(Utf8.decode ⟨s.toArray⟩ i).2)) else none)
  else rec (i+(Utf8.decode ⟨s.toArray⟩ i).2)
 else done (.inr i)
theorem Qlp {s:J1} {i:Nat} (h:i<s.length):s.drop i=s.getD i 0::s.drop (i+1):=by
 rw [Z31 h,Zl,Z1 h];rfl
theorem scan_runs {G:Int->Option Bool} {p:UInt8->Bool} {s:J1} (hG:∀i,i<s.length->G ((Utf8.decode ⟨s.toArray⟩ i).1:Int)=some (p (s.getD i 0))/\(p (s.getD i 0)=true->(Utf8.decode ⟨s.toArray⟩ i).2=1)) :
  ∀(f i:Nat),i+f=s.length->(∃q,Runs (λrec x=>Jn G s rec some x) i (.inl (s.take (i+((s.drop i).takeWhile p).length),q))/\i+((s.drop i).takeWhile p).length<s.length)\/(Runs (λrec x=>Jn G s rec some x) i (.inr s.length)/\i+((s.drop i).takeWhile p).length=s.length)
 |
  0,i,h=>by
  refine .inr ⟨.done λrec=>?_,?_⟩
  ·unfold Jn;rw [if_neg (by omega),show i=s.length by omega]
  ·rw [Z62 (by omega)];simp;omega
 |
  f+1,i,h=>by
  have hi:i<s.length:=by omega
  obtain ⟨h1,h2⟩:=hG i hi
  rw [Qlp hi]
  cases hp:p (s.getD i 0) with
  |
   false=>
   refine .inl ⟨i+(Utf8.decode ⟨s.toArray⟩ i).2,.done λrec=>?_,?_⟩
   ·unfold Jn
    rw [if_pos hi,h1,hp]
    simp only [Zb,Zo,Zd]
    rw [if_pos (by omega),List.takeWhile_cons_of_neg (by rw [hp];simp)]
    rfl
   ·rw [List.takeWhile_cons_of_neg (by rw [hp];simp)];simpa using hi
  |
   true=>
   have hw:=h2 hp
   have hst:∀rec:Nat->Option ((J1×Nat)⊕Nat),Jn G s rec some i=rec (i+1):=λrec=>by
    unfold Jn
    rw [if_pos hi,h1,hp,hw];rfl
   have hl:i+(List.takeWhile p (s.getD i 0::s.drop (i+1))).length=(i+1)+(List.takeWhile p (s.drop (i+1))).length:=by
    rw [List.takeWhile_cons_of_pos hp,Z8];omega
   rw [hl]
   rcases scan_runs hG f (i+1) (by omega) with ⟨q,r,hlt⟩|⟨r,he⟩
   ·exact .inl ⟨q,.step hst r,hlt⟩
   ·exact .inr ⟨.step hst r,he⟩
theorem Qkm (p:UInt8->Bool) (s:J1):s.take (s.takeWhile p).length=s.takeWhile p:=
 (List.prefix_iff_eq_take.1 (List.takeWhile_prefix p)).symm
theorem scan_at {G:Int->Option Bool} {p:UInt8->Bool} (s:J1) (hG:∀n:Nat,n<128->∀b:UInt8,b.toNat=n->G (n:Int)=some (p b)) (hH:∀n:Nat,128<=n->G (n:Int)=some false) (hp:∀b:UInt8,128<=b.toNat->p b=false) :
  (∃q,lfp (λrec x=>Jn G s rec some x) 0=some (.inl (s.takeWhile p,q))/\(s.takeWhile p).length<s.length)\/(lfp (λrec x=>Jn G s rec some x) 0=some (.inr s.length)/\s.takeWhile p=s):=by
 have h:=scan_runs (G:=G) (p:=p) (s:=s) (λi hi=>by
  by_cases hb:(s.getD i 0).toNat<128
  ·rw [dec_low hi hb]
   exact ⟨hG _ hb _ rfl,λ_=>rfl⟩
  ·have hb':128<=(s.getD i 0).toNat:=by omega
   rw [hp _ hb',hH _ (Qpo hi hb')]
   exact ⟨rfl,λh=>by simp at h⟩) s.length 0 (by omega)
 rw [Z65,Z25] at h
 rcases h with ⟨q,r,hlt⟩|⟨r,he⟩
 ·exact .inl ⟨q,by rw [r.lfp,Qkm],hlt⟩
 ·refine .inr ⟨r.lfp,?_⟩
  have:=Qkm p s
  rw [he,Z57] at this;exact this.symm
theorem token_l0 (s:J1):(∃q,z95.l0 s s 0=some (.inl (s.takeWhile wrd,q)))\/(z95.l0 s s 0=some (.inr s.length)/\s.takeWhile wrd=s):=by
 rcases scan_at (G:=z89.F) (p:=wrd) s (λn hn b hb=>by rw [lex_wordly,wrd_iff,hb]) (λn hn=>by rw [lex_wordly];congr 1;exact Zf (by omega)) (λb hb=>by rw [wrd_iff];exact Zf (by omega)) with ⟨q,h,_⟩|h
 ·exact .inl ⟨q,h⟩
 ·exact .inr h
theorem token_l0a (s:J1):(∃q,z95.l0a s s 0=some (.inl (s.takeWhile nmr,q)))\/(z95.l0a s s 0=some (.inr s.length)/\s.takeWhile nmr=s):=by
 rcases scan_at (G:=z90.F) (p:=nmr) s (λn hn b hb=>by rw [lex_numeric,nmr_iff,hb]) (λn hn=>by rw [lex_numeric];congr 1;exact Zf (by omega)) (λb hb=>by rw [nmr_iff];exact Zf (by omega)) with ⟨q,h,_⟩|h
 ·exact .inl ⟨q,h⟩
 ·exact .inr h
abbrev shp:J1:=[48,48,48,48,45,48,48,45,48,48]
theorem Qnw {i:Nat} (h:i<10):Utf8.decode ⟨shp.toArray⟩ i=(if i=4\/i=7 then 45 else 48,1):=by
 have:i=0\/i=1\/i=2\/i=3\/i=4\/i=5\/i=6\/i=7\/i=8\/i=9:=by omega
 rcases this with rfl|rfl|rfl|rfl|rfl|rfl|rfl|rfl|rfl|rfl<;>exact dec_low (by decide) (by decide)
abbrev okD (s:J1) (i:Nat):Bool:=if i=4\/i=7 then decide ((s.getD i 0).toNat=45) else dgt (s.getD i 0)
theorem Qfz (b:UInt8):wr .i32 (b.toNat:Int)=b.toNat:=Qii (by omega) (by have:=b.toNat_lt;omega)
theorem Qhw (b:UInt8):dgt b=decide (48<=(b.toNat:Int)/\(b.toNat:Int)<=57):=by
 rw [Z66];simp only [dgt,Z4,decide_eq_true_eq];omega
theorem dated_loop {s:J1} (hl:s.length=10):∀(f i:Nat),i+f=10->(∃q,Runs (λrec x=>z91.l0P s shp rec some x) i (.inl (false,q))/\∃j,i<=j/\j<10/\okD s j=false)\/(Runs (λrec x=>z91.l0P s shp rec some x) i (.inr 10)/\∀j,i<=j->j<10->okD s j=true)
 |
  0,i,h=>by
  refine .inr ⟨.done λrec=>?_,λj h1 h2=>by omega⟩
  unfold z91.l0P
  rw [if_neg (by show ¬i<10;omega),show i=10 by omega]
 |
  f+1,i,h=>by
  have hi:i<10:=by omega
  have hst:∀rec:Nat->Option ((Bool×Nat)⊕Nat),z91.l0P s shp rec some i=if okD s i=true then rec (i+1) else some (.inl (false,i+1)):=λrec=>by
   unfold z91.l0P
   rw [if_pos (show i<shp.length from hi),Qnw hi]
   rw [lex_digit]
   simp only [Zb,Zi]
   rw [if_pos (by omega),Qfz,lex_digit]
   simp only [Zb,okD]
   have hil:i<s.length:=by omega
   obtain ⟨c,hc⟩:∃c,s.getD i 0=c:=⟨_,rfl⟩
   simp only [hc]
   have e:wr .u8 45=45:=by decide
   by_cases h47:i=4\/i=7
   ·simp only [if_pos h47]
    by_cases h45:c.toNat=45
    ·rw [h45,if_pos (by omega)];simp [e]
    ·have h45':¬((45:Int)=(c.toNat:Int)):=by omega
     by_cases hd:48<=(c.toNat:Int)/\(c.toNat:Int)<=57
     ·simp [hd,h45]
     ·rw [Zf hd,if_pos (by omega)]
      simp [h45,e,h45']
   ·simp only [if_neg h47,Qhw]
    by_cases hd:48<=(c.toNat:Int)/\(c.toNat:Int)<=57
    ·rw [Zt hd];simp
    ·rw [Zf hd];simp
  cases ho:okD s i with
  |
   false=>
   refine .inl ⟨i+1,.done λrec=>?_,i,Z5 _,hi,ho⟩
   rw [hst,ho];rfl
  |
   true=>
   have hst':∀rec:Nat->Option ((Bool×Nat)⊕Nat),z91.l0P s shp rec some i=rec (i+1):=λrec=>by rw [hst,ho];rfl
   rcases dated_loop hl f (i+1) (by omega) with ⟨q,r,j,h1,h2,h3⟩|⟨r,hall⟩
   ·exact .inl ⟨q,.step hst' r,j,by omega,h2,h3⟩
   ·refine .inr ⟨.step hst' r,λj h1 h2=>?_⟩
    by_cases e:j=i
    ·subst e;exact ho
    ·exact hall j (by omega) h2
theorem lex_dated (s:J1):z91.F s=some (dtd s):=by
 unfold z91.F dtd
 by_cases hl:s.length=10
 ·rw [Zt (show (s.length:Int)=10 by omega),Zt hl]
  simp only [Zn,Zc,Z52]
  rcases dated_loop hl 10 0 rfl with ⟨q,r,j,_,h2,h3⟩|⟨r,hall⟩
  ·have e:z91.l0 s shp 0=some (.inl (false,q)):=r.lfp
   rw [e]
   simp only [Zb]
   congr 1;symm
   rw [Bool.eq_false_iff]
   intro h
   have:=Z14.1 h j (by simpa using h2)
   rw [show okD s j=true from this] at h3;simp at h3
  ·have e:z91.l0 s shp 0=some (.inr 10):=r.lfp
   rw [e]
   simp only [Zb]
   congr 1;symm
   exact Z14.2 λj hj=>hall j (Z60 _) (by simpa using hj)
 ·rw [Zf (show ¬(s.length:Int)=10 by omega),Zf hl];rfl
theorem Qwi {n:Nat} (h:128<=n) (h2:n<256):∃a b:UInt8,(Utf8.encode (n:Int)).data.toList=[a,b]/\128<=b.toNat:=by
 unfold Utf8.encode
 have hv:Utf8.valid (n:Int)=true:=by unfold Utf8.valid;rw [Z64];left;simp only [Z4,decide_eq_true_eq];omega
 simp only [hv,if_true,Zi]
 rw [if_neg (by omega),if_pos (by omega)]
 refine ⟨_,_,rfl,?_⟩
 rw [UInt8.toNat_ofNat'];omega
theorem Qsr {b:UInt8} (h:128<=b.toNat):sgn b=false:=by
 have hn:∀k:Nat,k<128->decide (b.toNat=k)=false:=λk hk=>Zf (by omega)
 unfold sgn
 rw [hn 123 (by decide),hn 125 (by decide),hn 61 (by decide),hn 59 (by decide),hn 44 (by decide)];rfl
theorem Qwb (b:UInt8):z94.F [123,125,61,59,44] (b.toNat:Int)=some (sgn b):=by
 unfold z94.F z93.F
 have hb:=b.toNat_lt
 rw [bif_t (by omega)]
 unfold z93.j1
 by_cases h:(b.toNat:Int)<128
 ·rw [bif_t h]
  have e:z2.F [123,125,61,59,44] (wr .u8 (b.toNat:Int))=some (byteIdx [123,125,61,59,44] b):=by
   rw [J7 (by omega) (by omega)]
   unfold z2.F
   have:((b.toNat:Int).toNat).toUInt8=b:=by simp
   rw [this]
  unfold z85.F
  rw [e]
  simp only [Zb]
  congr 1
  have hn:byteIdx ([]:J1) b = -1:=rfl
  have key:∀(c:UInt8) (t:J1),(byteIdx (c::t) b>=0↔c=b\/byteIdx t b>=0):=λc t=>by
   rw [Js]
   by_cases h1:c=b
   ·simp [h1]
   ·rw [if_neg h1];simp only [h1,false_or];split<;>omega
  rw [Z66,decide_eq_true_iff,key,key,key,key,key,hn]
  simp only [sgn,Z64,decide_eq_true_eq,<-UInt8.toNat_inj]
  constructor
  ·rintro (h|h|h|h|h|h)
   ·rw [<-h];decide
   ·rw [<-h];decide
   ·rw [<-h];decide
   ·rw [<-h];decide
   ·rw [<-h];decide
   ·omega
  ·rintro ((((h|h)|h)|h)|h)
   ·exact .inl h.symm
   ·exact .inr (.inl h.symm)
   ·exact .inr (.inr (.inl h.symm))
   ·exact .inr (.inr (.inr (.inl h.symm)))
   ·exact .inr (.inr (.inr (.inr (.inl h.symm))))
 ·have hbb:128<=b.toNat:=by omega
  rw [Qc h,Qc (by omega)]
  have hv:z92.F (b.toNat:Int)=some true:=by
   unfold z92.F z92.j1
   rw [bif_t (by omega),bif_t (by omega)]
  rw [hv]
  obtain ⟨a1,a2,he,ha⟩:=Qwi (n:=b.toNat) (by omega) hb
  simp only [Zb,Zn,Zc,he]
  have e1:wr .i64 ((([a1,a2]:J1).length:Int)-1)=1:=by show wr .i64 (((2:Nat):Int)-1)=1;decide
  simp only [e1]
  have e2:wr .i64 ((1:Int)+1)=2:=by decide
  have h2:¬((125:Int)=(a2.toNat:Int)):=by omega
  have e3:z85.F (List.drop (Int.toNat 2) [123,125,61,59,44]) (a2.toNat:Int)=some (-1):=by
   unfold z85.F z2.F
   have:((a2.toNat:Int).toNat).toUInt8=a2:=by simp
   rw [this]
   have ne:∀c:UInt8,c.toNat<128->¬c=a2:=λc hc e=>by subst e;omega
   show some (byteIdx [61,59,44] a2)=some (-1)
   rw [Js,if_neg (ne _ (by decide)),Js,if_neg (ne _ (by decide)),Js,if_neg (ne _ (by decide))];rfl
  have e4:(([123,125,61,59,44]:J1).getD (Int.toNat 1) 0).toNat=125:=rfl
  have e5:(([a1,a2]:J1).getD (Int.toNat 1) 0).toNat=a2.toNat:=rfl
  rw [bif_t (by decide),if_pos (by decide),if_pos (by simp),e4,e5,show (((125:Nat):Int))=125 from rfl,Zf h2]
  simp only [Zo,Zd,e2]
  rw [if_pos (by decide),if_pos (by simp),e3]
  simp only [Zb]
  rw [bif_t (by decide),Zb,Qsr hbb];rfl
theorem lex_token {s:J1} (h:s≠[]):z95.F s=some ((tokOf s).1,(tokOf s).2.1,0,(tokOf s).2.2):=by
 have hl:=Z22.2 h
 have h5:∀t:J1,((z91.F t).bind λr10=>(bif r10 then (some ((2:Int),t,(0:Int),(0:Int))) else ((z50.F t).bind λr11=>(bif (!decide (r11.2.2.2=(0:Int))) then (some ((0:Int),([]:J1),(0:Int),(5:Int))) else (some ((1:Int),t,(0:Int),(0:Int))))))) =
   some (if dtd t then (2,t,0,0) else if (mDec t).2.2=0 then (1,t,0,0) else (0,[],0,5)):=λt=>by
  rw [lex_dated]
  simp only [Zb]
  cases dtd t with
  |true=>rfl
  |
   false=>
   rw [dec_Parse]
   simp only [Zb,Zc]
   by_cases h0:(mDec t).2.2=0
   ·rw [Zt h0,if_pos h0];rfl
   ·rw [Zf h0,if_neg h0];rfl
 have hnum:z95.j6 true s=some (if dtd (s.takeWhile nmr) then (2,s.takeWhile nmr,0,0) else if (mDec (s.takeWhile nmr)).2.2=0 then (1,s.takeWhile nmr,0,0) else (0,[],0,5)):=by
  unfold z95.j6
  simp only [Zd]
  rcases token_l0a s with ⟨q,e⟩|⟨e,he⟩
  ·rw [e];simp only [Zb];exact h5 _
  ·rw [e];simp only [Zb];rw [he];exact h5 s
 unfold z95.F tokOf
 rw [if_pos (by omega),Qfz,lex_letter]
 simp only [Zb]
 generalize hb:s.getD 0 0=b
 have e1:decide (97<=(b.toNat:Int)/\(b.toNat:Int)<=122)=ltr b:=by
  rw [Z66];simp only [ltr,Z4,decide_eq_true_eq];omega
 rw [e1]
 cases h1:ltr b with
 |
  true=>
  simp only [Zd,if_true]
  rcases token_l0 s with ⟨q,e⟩|⟨e,he⟩
  ·rw [e];rfl
  ·rw [e];simp only [Zb];rw [he]
 |
  false=>
  rw [lex_digit]
  simp only [Zb,Zc,Z16,if_false]
  rw [<-Qhw]
  have fin:z95.j6 true s=some ((if dtd (s.takeWhile nmr) then ((2:Int),s.takeWhile nmr,(0:Int)) else if (mDec (s.takeWhile nmr)).2.2=0 then (1,s.takeWhile nmr,0) else (0,[],5)).1,(if dtd (s.takeWhile nmr) then ((2:Int),s.takeWhile nmr,(0:Int)) else if (mDec (s.takeWhile nmr)).2.2=0 then (1,s.takeWhile nmr,0) else (0,[],5)).2.1,0,(if dtd (s.takeWhile nmr) then ((2:Int),s.takeWhile nmr,(0:Int)) else if (mDec (s.takeWhile nmr)).2.2=0 then (1,s.takeWhile nmr,0) else (0,[],5)).2.2):=by
   rw [hnum]
   split
   ·rfl
   ·split<;>rfl
  cases h2:dgt b with
  |true=>simp only [Zd,Bool.true_or,if_true];exact fin
  |
   false=>
   simp only [Zc,Z89]
   by_cases h3:b.toNat=45
   ·rw [Zt (show (b.toNat:Int)=45 by omega),Zt h3]
    simp only [if_true];exact fin
   ·rw [Zf (show ¬(b.toNat:Int)=45 by omega),Zf h3]
    simp only [Z16,if_false]
    unfold z95.j6
    simp only [Zc]
    rw [hb,Qfz,Qwb]
    simp only [Zb]
    cases sgn b with
    |true=>simp only [Zd,if_true];rw [if_pos (by omega)]
    |false=>simp only [Zc,Z16,if_false]
theorem Qew (b:UInt8):([32,9,10,13]:J1).contains b=bln b:=by
 rw [Z66]
 simp only [List.contains_cons,List.contains_nil,Bool.or_false,Z64,beq_iff_eq,bln,decide_eq_true_eq,<-UInt8.toNat_inj]
 simp only [show (32:UInt8).toNat=32 from rfl,show (9:UInt8).toNat=9 from rfl,show (10:UInt8).toNat=10 from rfl,show (13:UInt8).toNat=13 from rfl]
 omega
theorem Qkg:∀l:J1,skp false (trimL l [32,9,10,13])=skp false l
 |[]=>rfl
 |
  b::t=>by
  by_cases hb:bln b=true
  ·have e:trimL (b::t) [32,9,10,13]=trimL t [32,9,10,13]:=by unfold trimL;exact List.dropWhile_cons_of_pos (by rw [Qew];exact hb)
   rw [e,Qkg t]
   have h35:¬b.toNat=35:=λe=>by simp [bln,e] at hb
   conv=>rhs;rw [skp]
   rw [if_neg h35,if_pos hb]
  ·have e:trimL (b::t) [32,9,10,13]=b::t:=by unfold trimL;exact List.dropWhile_cons_of_neg (by rw [Qew];exact hb)
   rw [e]
theorem Qq4 {l:J1} {b:UInt8} {t:J1} (h:trimL l [32,9,10,13]=b::t):bln b=false:=by
 have:=List.head?_dropWhile_not (λc=>([32,9,10,13]:J1).contains c) l
 unfold trimL at h
 rw [h] at this
 simpa [<-Qew] using this
theorem Qpv (l:J1):(trimL l [32,9,10,13]).length<=l.length:=(List.dropWhile_suffix _).length_le
theorem Qfw:∀(t:J1) (c:UInt8),byteIdx t c<t.length/\-1<=byteIdx t c
 |[],c=>by simp [byteIdx]
 |
  b::t,c=>by
  have ih:=Qfw t c
  rw [Js,Z8]
  split
  ·omega
  ·split<;>omega
theorem Qjd:∀t:J1,skp true t=if byteIdx t 10<0 then [] else skp false (t.drop (byteIdx t 10).toNat)
 |[]=>rfl
 |
  b::t=>by
  have hlt:=Qfw t 10
  rw [Js,skp]
  by_cases h:b=10
  ·subst h
   rw [if_pos rfl,if_pos (show UInt8.toNat 10=10 from rfl),if_neg (by decide)]
   show skp false t=skp false (10::t)
   conv=>rhs;rw [skp]
   rw [if_neg (by decide),if_pos (by decide)]
  ·rw [if_neg h,if_neg (show ¬b.toNat=10 from λe=>h (UInt8.toNat_inj.1 e)),Qjd t]
   by_cases h2:byteIdx t 10<0
   ·rw [if_pos h2,if_pos h2,if_pos (by decide)]
   ·rw [if_neg h2,if_neg h2,if_neg (by omega)]
    have:(byteIdx t 10+1).toNat=(byteIdx t 10).toNat+1:=by omega
    rw [this];rfl
theorem Qef (r:J1):z84.F r [35]=some (decide (r.getD 0 0=35)):=by
 unfold z84.F z31.F
 cases r with
 |nil=>rfl
 |
  cons b t=>
  rw [bif_t (by simp only [Z8,Z21];omega),if_pos (by simp only [Z8,Z21];omega)]
  simp only [Zb,List.getD_cons_zero]
  congr 1
  exact decide_eq_decide.2 (by simp)
theorem Qh3 {s:J1} (hs:s.length<=4611686018427387904):∀(n:Nat) (l:J1),l.length<=n->l.length<=s.length->Runs (λrec x=>z86.l0P s rec some x) l (((s.length-(skp false l).length:Nat):Int))
 |
  n,l,hn,hls=>by
  have htl:=Qpv l
  have ht:z4.F l [32,9,10,13]=some (trimL l [32,9,10,13]):=by unfold z4.F;rw [if_pos ⟨by decide,by decide⟩]
  have hsk:=Qkg l
  cases hr:trimL l [32,9,10,13] with
  |
   nil=>
   refine .done λrec=>?_
   unfold z86.l0P
   rw [ht,hr]
   simp only [Zb]
   rw [Qef]
   simp only [Zb]
   rw [show (!decide (([]:J1).getD 0 0=35))=true from rfl]
   simp only [Zd]
   rw [<-hsk,hr,Qg (by simp only [Z21];omega) (by simp only [Z21];omega)]
   rfl
  |
   cons b t=>
   have hb:=Qq4 hr
   rw [hr] at hsk htl
   have hlen:(b::t).length=t.length+1:=rfl
   by_cases h35:b=35
   ·subst h35
    have hi:=Qfw t 10
    have e1:skp false (35::t)=skp true t:=by rw [skp];rfl
    have e2:byteIdx (35::t) 10=if byteIdx t 10<0 then -1 else byteIdx t 10+1:=by rw [Js,if_neg (by decide)]
    have e3:z85.F (35::t) 10=some (byteIdx (35::t) 10):=rfl
    rw [<-hsk,e1,Qjd]
    by_cases hneg:byteIdx t 10<0
    ·refine .done λrec=>?_
     unfold z86.l0P
     rw [ht,hr]
     simp only [Zb]
     rw [Qef]
     simp only [Zb]
     rw [show (!decide ((35::t:J1).getD 0 0=35))=false from rfl]
     simp only [Zc]
     rw [e3]
     simp only [Zb]
     rw [e2,if_pos hneg,bif_t (by decide),if_pos hneg]
     simp
    ·rw [if_neg hneg]
     match n,hn with
     |0,hn=>simp at htl;omega
     |
      n+1,hn=>
      have hd:(t.drop (byteIdx t 10).toNat).length<=t.length:=by rw [Z17];omega
      refine .step (λrec=>?_) (Qh3 hs n (t.drop (byteIdx t 10).toNat) (by omega) (by omega))
      unfold z86.l0P
      rw [ht,hr]
      simp only [Zb]
      rw [Qef]
      simp only [Zb]
      rw [show (!decide ((35::t:J1).getD 0 0=35))=false from rfl]
      simp only [Zc]
      rw [e3]
      simp only [Zb]
      rw [e2,if_neg hneg,Qc (by omega),if_pos (by simp only [Z8];omega)]
      have:(byteIdx t 10+1).toNat=(byteIdx t 10).toNat+1:=by omega
      rw [this];rfl
   ·refine .done λrec=>?_
    unfold z86.l0P
    rw [ht,hr]
    simp only [Zb]
    rw [Qef]
    simp only [Zb,List.getD_cons_zero]
    rw [Zf h35]
    simp only [Zo,Zd]
    have e1:skp false (b::t)=b::t:=by rw [skp,if_neg (show ¬b.toNat=35 from λe=>h35 (UInt8.toNat_inj.1 e)),if_neg (by rw [hb];simp)]
    rw [<-hsk,e1,Qg (by omega) (by omega)]
    congr 1;omega
theorem lex_between {s:J1} (hs:s.length<=4611686018427387904):z86.F s=some (((s.length-(skp false s).length:Nat):Int)):=by
 unfold z86.F
 have e:z86.l0 s s=some _:=(Qh3 hs s.length s (Z5 _) (Z5 _)).lfp
 rw [e];rfl
theorem Qpz {s:J1} (hs:s.length<=1048576):∀(n:Nat) (r:J1) (acc:J2),r.length<=n->r.length<=s.length->s.drop (s.length-r.length)=r->acc.length+r.length<=s.length ->
  ∃x,z96.l0 s ((s.length:Int)-r.length,acc)=some x/\(if (lx s.length r).2.2=0 then x=.inl ((s.length:Int),acc++(lx s.length r).1.map Tk.v) else ∃a,x=.inr ([],(lx s.length r).2.1,(lx s.length r).2.2,a))
 |
  n,r,acc,hn,hrs,hd,hacc=>by
  suffices h:∃x,Runs (λrec y=>z96.l0P s rec some y) ((s.length:Int)-r.length,acc) x/\(if (lx s.length r).2.2=0 then x=.inl ((s.length:Int),acc++(lx s.length r).1.map Tk.v) else ∃a,x=.inr ([],(lx s.length r).2.1,(lx s.length r).2.2,a)) by
   obtain ⟨x,h1,h2⟩:=h
   exact ⟨x,h1.lfp,h2⟩
  revert n
  have key:∀(n:Nat) (r:J1) (acc:J2),r.length<=n->r.length<=s.length->s.drop (s.length-r.length)=r->acc.length+r.length<=s.length ->
    ∃x,Runs (λrec y=>z96.l0P s rec some y) ((s.length:Int)-r.length,acc) x/\(if (lx s.length r).2.2=0 then x=.inl ((s.length:Int),acc++(lx s.length r).1.map Tk.v) else ∃a,x=.inr ([],(lx s.length r).2.1,(lx s.length r).2.2,a)):=by
   intro n
   induction n with
   |
    zero=>
    intro r acc hn hrs hd hacc
    have:r=[]:=Z6 (by omega)
    subst this
    refine ⟨.inl ((s.length:Int),acc),.done λrec=>?_,?_⟩
    ·unfold z96.l0P
     simp only
     rw [Qc (by simp)];simp
    ·rw [lx_nil];simp
   |
    succ n ih=>
    intro r acc hn hrs hd hacc
    by_cases hr:r=[]
    ·subst hr
     refine ⟨.inl ((s.length:Int),acc),.done λrec=>?_,?_⟩
     ·unfold z96.l0P
      simp only
      rw [Qc (by simp)];simp
     ·rw [lx_nil];simp
    have hpos:=Z22.2 hr
    have hat:((s.length:Int)-r.length).toNat=s.length-r.length:=by omega
    have htok:z95.F (s.drop ((s.length:Int)-r.length).toNat)=some ((tokOf r).1,(tokOf r).2.1,0,(tokOf r).2.2):=by rw [hat,hd,lex_token hr]
    by_cases he:(tokOf r).2.2=0
    ·obtain ⟨l1,l2⟩:=Qdl hr he
     have hu:s.drop (s.length-r.length+(tokOf r).2.1.length)=r.drop (tokOf r).2.1.length:=by rw [<-Z92,hd]
     generalize hu':r.drop (tokOf r).2.1.length=u at *
     have hul:u.length=r.length-(tokOf r).2.1.length:=by rw [<-hu',Z17]
     have hsl:=W2 false u
     have hbt:=lex_between (s:=u) (by omega)
     have hd2:s.drop (s.length-(skp false u).length)=skp false u:=by
      have hul2:u.length=s.length-(s.length-r.length+(tokOf r).2.1.length):=by rw [<-hu,Z17]
      calc s.drop (s.length-(skp false u).length)=(s.drop (s.length-r.length+(tokOf r).2.1.length)).drop (u.length-(skp false u).length):=by rw [Z92];congr 1;omega
       _=u.drop (u.length-(skp false u).length):=by rw [hu]
       _=skp false u:=Ql4 false u
     obtain ⟨x,hx,hx2⟩:=ih (skp false u) (acc++[[.int .i64 (tokOf r).1,.str (tokOf r).2.1,.int .i64 ((s.length:Int)-r.length)]]) (by omega) (by omega) hd2 (by simp;omega)
     refine ⟨x,.step (λrec=>?_) hx,?_⟩
     ·unfold z96.l0P
      simp only
      rw [bif_t (by omega),if_pos (by omega),htok]
      simp only [Zb]
      rw [Zt he]
      simp only [Zn,Zc]
      rw [if_pos (by simp;omega)]
      have ew:wr .i64 ((s.length:Int)-r.length+(tokOf r).2.1.length)=((s.length-r.length+(tokOf r).2.1.length:Nat):Int):=by
       rw [Qg (by omega) (by omega)];omega
      rw [ew,if_pos (by omega),Zi,hu,hbt]
      simp only [Zb]
      rw [Qg (by omega) (by omega)]
      congr 2
      omega
     ·rw [Qbq hr he,hu']
      by_cases hm:(lx s.length (skp false u)).2.2=0
      ·rw [if_pos hm] at hx2 ⊢
       rw [if_pos rfl,hx2]
       simp [Tk.v]
      ·rw [if_neg hm] at hx2 ⊢
       rw [if_neg hm]
       exact hx2
    ·refine ⟨.inr ([],(s.length:Int)-r.length,(tokOf r).2.2,acc),.done λrec=>?_,?_⟩
     ·unfold z96.l0P
      simp only
      rw [bif_t (by omega),if_pos (by omega),htok]
      simp only [Zb]
      rw [Zf he];rfl
     ·rw [Qb5 hr he,if_neg he];exact ⟨acc,rfl⟩
  intro n hn
  exact key n r acc hn hrs hd hacc
theorem lex_Lex (s:J1):z96.F s=some (if 1048576<s.length then ([],0,7) else ((lexOf s).1.map Tk.v,(lexOf s).2.1,(lexOf s).2.2)):=by
 unfold z96.F
 by_cases hs:1048576<s.length
 ·rw [bif_t (by omega),if_pos hs]
 ·rw [Qc (by omega),if_neg hs,lex_between (by omega)]
  simp only [Zb]
  have hsl:=W2 false s
  have hsuf:=Ql4 false s
  obtain ⟨x,h1,h2⟩:=Qpz (s:=s) (by omega) s.length (skp false s) [] (by omega) (by omega) hsuf (by simp;omega)
  have e:((s.length-(skp false s).length:Nat):Int)=(s.length:Int)-(skp false s).length:=by omega
  rw [e,h1]
  unfold lexOf
  by_cases hm:(lx s.length (skp false s)).2.2=0
  ·rw [if_pos hm] at h2
   rw [h2,hm]
   have:(lx s.length (skp false s)).2.1=0:=by
    have key:∀(n:Nat) (r:J1),r.length<=n->(lx s.length r).2.2=0->(lx s.length r).2.1=0:=by
     intro n r _ h
     by_cases hr:r=[]
     ·subst hr;rw [lx_nil]
     ·by_cases he:(tokOf r).2.2=0
      ·rw [Qbq hr he] at h ⊢
       split at h
       ·rename_i h3;rw [if_pos h3]
       ·rename_i h3;exact (h3 h).elim
      ·rw [Qb5 hr he] at h;exact (he h).elim
    exact key _ _ (Z5 _) hm
   rw [this];simp
  ·rw [if_neg hm] at h2
   obtain ⟨a,rfl⟩:=h2
   have:(lx s.length (skp false s)).1=[]:=by
    by_cases hr:skp false s=[]
    ·rw [hr,lx_nil] at hm;exact (hm rfl).elim
    ·by_cases he:(tokOf (skp false s)).2.2=0
     ·rw [Qbq hr he] at hm ⊢
      split
      ·rename_i h3;rw [if_pos h3] at hm;exact (hm rfl).elim
      ·rfl
     ·rw [Qb5 hr he]
   rw [this];rfl
theorem Qts (r:J1):((tokOf r).1=2->(tokOf r).2.2=0->dtd (tokOf r).2.1=true)/\((tokOf r).1=1->(mDec (tokOf r).2.1).2.2=0):=by
 unfold tokOf
 split
 ·exact ⟨λh=>by simp at h,λh=>by simp at h⟩
 ·split
  ·split
   ·rename_i h;exact ⟨λ_ _=>h,λh=>by simp at h⟩
   ·split
    ·rename_i h;exact ⟨λh=>by simp at h,λ_=>h⟩
    ·exact ⟨λh=>by simp at h,λh=>by simp at h⟩
  ·split
   ·exact ⟨λh=>by simp at h,λh=>by simp at h⟩
   ·exact ⟨λh=>by simp at h,λh=>by simp at h⟩
theorem Qsj (N:Nat):∀(n:Nat) (r:J1),r.length<=n->r.length<=N->(lx N r).1.length<=r.length/\∀t∈(lx N r).1,(t.k=2->dtd t.s=true)/\t.s.length<=r.length/\0<=t.p/\t.p<=N:=by
 intro n
 induction n with
 |
  zero=>
  intro r hn _
  have:r=[]:=Z6 (by omega)
  subst this
  rw [lx_nil];exact ⟨Z5 _,λt h=>by simp at h⟩
 |
  succ n ih=>
  intro r hn hN
  by_cases hr:r=[]
  ·subst hr;rw [lx_nil];exact ⟨Z5 _,λt h=>by simp at h⟩
  by_cases he:(tokOf r).2.2=0
  ·obtain ⟨l1,l2⟩:=Qdl hr he
   have h4:=W2 false (r.drop (tokOf r).2.1.length)
   rw [Z17] at h4
   rw [Qbq hr he]
   obtain ⟨i1,i2⟩:=ih (skp false (r.drop (tokOf r).2.1.length)) (by omega) (by omega)
   split
   ·refine ⟨by simp only [Z8];omega,λt ht=>?_⟩
    rcases Z67.1 ht with rfl|ht
    ·exact ⟨λh=>(Qts r).1 h he,l2,by show (0:Int)<=(N:Int)-r.length;omega,by show (N:Int)-r.length<=N;omega⟩
    ·obtain ⟨j1,j2,j3⟩:=i2 t ht
     exact ⟨j1,by omega,j3⟩
   ·exact ⟨Z60 _,λt h=>by simp at h⟩
  ·rw [Qb5 hr he];exact ⟨Z60 _,λt h=>by simp at h⟩
abbrev D9:=Int×Int×Int×Int
def mDate (s:J1):D9:=
 if right (tv 0 (s.take 4)) (tv 0 ((s.drop 5).take 2)) (tv 0 (s.drop 8)) then (tv 0 (s.take 4),tv 0 ((s.drop 5).take 2),tv 0 (s.drop 8),0) else (0,0,0,11)
theorem Qkb {s:J1} (hl:s.length<=6) (hs:∀i,i<s.length->dgt (s.getD i 0)=true):∀(f i:Nat) (n:Int),i+f=s.length->0<=n->n<(10^i:Nat)->Runs (λrec x=>z81.l0P s (s.length:Int) rec some x) (n,(i:Int)) (.inl (tv n (s.drop i),(s.length:Int)))
 |
  0,i,n,h,h1,h2=>by
  refine .done λrec=>?_
  unfold z81.l0P
  simp only
  rw [Qc (by omega),Z62 (by omega),show (i:Int)=(s.length:Int) by omega];rfl
 |
  f+1,i,n,h,h1,h2=>by
  have hi:i<s.length:=by omega
  have hd:=hs i hi
  have hb:48<=(s.getD i 0).toNat/\(s.getD i 0).toNat<=57:=by simpa [dgt] using hd
  have hp:(10^(i+1):Nat)=10*10^i:=by rw [Z42];omega
  have hp2:(10^i:Nat)<=10^6:=Z61 (by decide) (by omega)
  have hp3:(10^6:Nat)=1000000:=by decide
  rw [Qlp hi,tv]
  refine .step (λrec=>?_) (Qkb hl hs f (i+1) (10*n+((s.getD i 0).toNat:Int)-48) (by omega) (by omega) (by rw [hp];omega))
  unfold z81.l0P
  simp only
  have hc:(0:Int)<=(i:Int)/\(i:Int)<(s.length:Int):=by omega
  rw [bif_t (by omega),if_pos hc,Zi,Qc (by omega),if_pos hc,Qc (by omega),if_pos hc]
  rw [J7 (by omega) (by omega),Qg (n:=((s.getD i 0).toNat:Int)-48) (by omega) (by omega),Qg (n:=10*n) (by omega) (by omega),Qg (by omega) (by omega),Qg (by omega) (by omega)]
  congr 2
  omega
theorem date_number {s:J1} (hl:s.length<=6) (hs:∀i,i<s.length->dgt (s.getD i 0)=true):z81.F s=some (tv 0 s,true):=by
 have e:z81.l0 s (s.length:Int) (0,0)=some (.inl (tv 0 s,(s.length:Int))):=(Qkb hl hs s.length 0 0 (by omega) (by omega) (by simp)).lfp
 unfold z81.F
 rw [e];rfl
theorem Qbc {s:J1} (h:dtd s=true):s.length=10/\∀i,i<10->okD s i=true:=by
 unfold dtd at h
 rw [Z4,decide_eq_true_eq] at h
 exact ⟨h.1,λi hi=>Z14.1 h.2 i (by simpa using hi)⟩
theorem Qhj {s:J1} (h:dtd s=true) {i:Nat} (hi:i<10) (h4:i≠4) (h7:i≠7):dgt (s.getD i 0)=true:=by
 have:=(Qbc h).2 i hi
 unfold okD at this
 rwa [if_neg (by omega)] at this
theorem Qbt {s:J1} (h:dtd s=true) {i:Nat} (hi:i=4\/i=7):(s.getD i 0).toNat=45:=by
 have:=(Qbc h).2 i (by omega)
 unfold okD at this
 rw [if_pos hi] at this
 simpa using this
theorem date_Parse {s:J1} (h:dtd s=true):z82.F s=some (mDate s):=by
 obtain ⟨hl,_⟩:=Qbc h
 have g1:∀i,i<(s.take 4).length->dgt ((s.take 4).getD i 0)=true:=λi hi=>by
  rw [Z11] at hi
  have:(s.take 4).getD i 0=s.getD i 0:=by
   rw [Zl,Zl,Z49];rw [if_pos (by omega)]
  rw [this];exact Qhj h (by omega) (by omega) (by omega)
 have g2:∀i,i<((s.drop 5).take 2).length->dgt (((s.drop 5).take 2).getD i 0)=true:=λi hi=>by
  rw [Z11] at hi
  have:((s.drop 5).take 2).getD i 0=s.getD (5+i) 0:=by
   rw [Zl,Zl,Z49,if_pos (by omega),List.getElem?_drop]
  rw [this];exact Qhj h (by omega) (by omega) (by omega)
 have g3:∀i,i<(s.drop 8).length->dgt ((s.drop 8).getD i 0)=true:=λi hi=>by
  rw [Z17] at hi
  have:(s.drop 8).getD i 0=s.getD (8+i) 0:=by
   rw [Zl,Zl,List.getElem?_drop]
  rw [this];exact Qhj h (by omega) (by omega) (by omega)
 have n1:=date_number (s:=s.take 4) (by rw [Z11];omega) g1
 have n2:=date_number (s:=(s.drop 5).take 2) (by rw [Z11];omega) g2
 have n3:=date_number (s:=s.drop 8) (by rw [Z17];omega) g3
 unfold z82.F
 rw [Zt (show (s.length:Int)=10 by omega)]
 simp only [Zn,Zc]
 have h4:=Qbt h (.inl rfl)
 have h7:=Qbt h (.inr rfl)
 rw [if_pos (by omega),Zt (show ((s.getD 4 0).toNat:Int)=45 by omega)]
 simp only [Zn,Zc]
 rw [if_pos (by omega),Zt (show ((s.getD 7 0).toNat:Int)=45 by omega)]
 unfold z82.j1
 rw [if_pos (by omega),n1,Zb,if_pos (by omega),show (7:Nat)-5=2 from rfl,n2,Zb,if_pos (by omega),n3,Zb]
 simp only [Zn,Zc]
 unfold z82.j5 mDate
 rw [date_Check,Zb]
 split<;>rfl
def kPay:J1:=[112,97,121]
def kPre:J1:=[112,114,101,112,97,121]
def Qol:J1:=[114,101,115,101,116]
def Qrr:J1:=[112,97,115,115]
def kDue:J1:=[100,117,101]
def We:List J1:=[kPay,kPre,Qol,Qrr]
def idxW:List J1->J1->Int->Int
 |[],_,_=>-1
 |w::t,s,i=>if s=w then i else idxW t s (i+1)
def kindOf (s:J1):Int:=idxW We s 0
def iend:Int⊕Int->Int | .inl _=>-1 | .inr q=>q
theorem Qh1 {L:List J1} (hL:L.length<=1000000) (s:J1):∀(f i:Nat),i+f=L.length->∃x,Runs (λrec x=>z75.l0P L s (L.length:Int) rec some x) (i:Int) x/\iend x=idxW (L.drop i) s i
 |
  0,i,h=>by
  refine ⟨.inl (i:Int),.done λrec=>?_,?_⟩
  ·unfold z75.l0P
   rw [Qc (by omega)]
  ·rw [Z62 (by omega)];rfl
 |
  f+1,i,h=>by
  have hi:i<L.length:=by omega
  have hg:L.getD i []=L[i]:=by rw [Zl,Z1 hi];rfl
  have hst:∀rec:Int->Option (Int⊕Int),z75.l0P L s (L.length:Int) rec some (i:Int)=if s=L[i] then some (.inr (i:Int)) else rec ((i+1:Nat):Int):=λrec=>by
   unfold z75.l0P
   rw [bif_t (by omega),if_pos (by omega),Zi,hg,Qg (by omega) (by omega)]
   by_cases hs:s=L[i]
   ·rw [if_pos hs,Zt hs];rfl
   ·rw [if_neg hs,Zf hs];rfl
  rw [Z31 hi,idxW]
  by_cases hs:s=L[i]
  ·exact ⟨.inr (i:Int),.done λrec=>by rw [hst,if_pos hs],by rw [if_pos hs];rfl⟩
  ·obtain ⟨x,r,hx⟩:=Qh1 hL s f (i+1) (by omega)
   exact ⟨x,.step (λrec=>by rw [hst,if_neg hs]) r,by rw [if_neg hs,hx];rfl⟩
theorem Qs6 (s:J1):z75.F We s=some (kindOf s):=by
 obtain ⟨x,r,hx⟩:=Qh1 (L:=We) (by decide) s We.length 0 (by omega)
 have e:z75.l0 We s ((We.length:Nat):Int) 0=some x:=r.lfp
 unfold z75.F
 rw [e]
 have:iend x=kindOf s:=hx
 rw [<-this]
 cases x<;>rfl
theorem Qu0 (s:J1):-1<=kindOf s/\kindOf s<=3:=by
 unfold kindOf We idxW idxW idxW idxW idxW
 repeat' split
 all_goals omega
def Jf (v:J1):Int:=if (mMoney v).2≠0 then (mMoney v).2 else if (mMoney v).1=0 then 19 else 0
def mVal (k:Int) (v:J1):Int:=
 if k=3 then (if v=[] then 0 else 4) else if k=2 then (Ju v).2 else if k=0/\v=kDue then 0 else Jf v
theorem script_money (v:J1):z48.F v=some (Jf v):=by
 unfold z48.F Jf
 rw [terms_Money,Zb]
 by_cases h:(mMoney v).2=0
 ·simp only [h,decide_true,Zd,ne_eq,not_true_eq_false,if_false]
  rw [Qar,Zb]
  by_cases h0:(mMoney v).1=0
  ·rw [if_pos h0,bif_t (Qmb.2 h0)]
  ·rw [if_neg h0,Qc (λe=>h0 (Qmb.1 e))]
 ·rw [if_pos h,Qc h]
theorem script_value {k:Int} (hk:0<=k/\k<=3) (y m d:Int) (v:J1):z70.F k y m d v=some (mVal k v):=by
 unfold z70.F mVal
 by_cases h0:k=0
 ·rw [bif_t h0,if_neg (by omega),if_neg (by omega)]
  by_cases hv:v=kDue
  ·rw [if_pos ⟨h0,hv⟩];exact bif_t hv
  ·rw [if_neg (λh=>hv h.2)]
   refine (Qc hv).trans ?_
   rw [script_money];rfl
 ·rw [Qc h0,if_neg (show ¬(k=0/\v=kDue) from λh=>h0 h.1)]
  by_cases h1:k=1
  ·rw [bif_t h1,if_neg (by omega),if_neg (by omega),script_money];rfl
  ·rw [Qc h1]
   by_cases h2:k=2
   ·rw [bif_t h2,if_neg (by omega),if_pos h2,terms_Rate];rfl
   ·rw [Qc h2,if_pos (show k=3 by omega)]
    by_cases hv:v=[]
    ·rw [if_pos hv,Zt hv];rfl
    ·rw [if_neg hv,Zf hv];rfl
def mWorth (k:Int) (t:Tk):Int×J1:=
 if t.k=0/\k=0 then (if t.s=kDue then (0,kDue) else (14,[]))
 else if t.k≠1 then (4,[])
 else if k=2 then (mVal 2 t.s,t.s)
 else if (mDec t.s).2.2≠0 then ((mDec t.s).2.2,[])
 else if (mDec t.s).2.1≠2 then (10,[])
 else (mVal k (itxt (mDec t.s).1),itxt (mDec t.s).1)
theorem dump_Cents (s:J1):z71.F s=some (if (mDec s).2.2≠0 then ([],false,(mDec s).2.2) else if (mDec s).2.1≠2 then ([],false,10) else (lb (mDec s).1.natAbs,neg (mDec s).1,0)):=by
 unfold z71.F
 rw [dec_Parse,Zb]
 by_cases h:(mDec s).2.2=0
 ·rw [if_neg (λhh=>hh h),Zt (show (decR (mDec s)).2.2.2=0 from h)]
  simp only [Zn,Zc]
  unfold z53.F z54.F
  simp only [Zb]
  by_cases h2:(mDec s).2.1=2
  ·rw [if_neg (λhh=>hh h2),Zt (show (decR (mDec s)).2.2.1=2 from by show ((mDec s).2.1:Int)=2;omega)];rfl
  ·rw [if_pos h2,Zf (show ¬(decR (mDec s)).2.2.1=2 from by show ¬((mDec s).2.1:Int)=2;omega)];rfl
 ·rw [if_pos h,Zf (show ¬(decR (mDec s)).2.2.2=0 from h)];rfl
def hd (N:Int):List Tk->Tk
 |[]=>⟨-1,[],N⟩
 |t::_=>t
theorem Qee (l:List Tk) (N p:Int):∃z,z7.F (l.map Tk.v) N p=some ((hd N l).k,(hd N l).s,z,l.tail.map Tk.v,N,(hd N l).p):=by
 unfold z7.F
 cases l with
 |nil=>exact ⟨0,rfl⟩
 |
  cons t u=>
  refine ⟨t.p,?_⟩
  have hl:((((t::u).map Tk.v).length:Nat):Int)=(u.length:Int)+1:=by simp
  rw [Qc (by rw [hl];omega),if_pos (by rw [hl];omega)]
  show (if (0:Int)<=1/\(1:Int)<=_ then _ else none)=_
  rw [if_pos (by rw [hl];omega)];rfl
theorem Qph {k:Int} (hk:0<=k/\k<3) (y m d N p:Int) (l:List Tk):∃w,z72.F (l.map Tk.v) N p k y m d []=some ((mWorth k (hd N l)).1,l.tail.map Tk.v,N,(hd N l).p,k,y,m,d,w)/\((mWorth k (hd N l)).1=0->w=(mWorth k (hd N l)).2):=by
 obtain ⟨z,hz⟩:=Qee l N p
 have hb:=(Qiw (hd N l).s).2
 unfold z72.F
 rw [hz,Zb]
 generalize hd N l=t at *
 generalize l.tail.map Tk.v=u
 have rest:¬(t.k=0/\k=0)->∃w,z72.j3 false (t.k,t.s,z,u,N,t.p) k y m d []=some ((mWorth k t).1,u,N,t.p,k,y,m,d,w)/\((mWorth k t).1=0->w=(mWorth k t).2):=λhn=>by
  unfold z72.j3 mWorth
  simp only [if_neg hn,Zc]
  by_cases h1:t.k=1
  ·rw [Zt h1]
   simp only [if_neg (show ¬(t.k≠1) from λh=>h h1),Zn,Zc]
   by_cases h2:k=2
   ·rw [bif_t h2,script_value (by omega)]
    simp only [if_pos h2]
    subst h2
    exact ⟨t.s,rfl,λ_=>rfl⟩
   ·rw [Qc h2,dump_Cents,Zb]
    simp only [if_neg h2]
    by_cases h3:(mDec t.s).2.2=0
    ·simp only [if_neg (show ¬((mDec t.s).2.2≠0) from λh=>h h3)]
     by_cases h4:(mDec t.s).2.1=2
     ·simp only [if_neg (show ¬((mDec t.s).2.1≠2) from λh=>h h4)]
      simp only [decide_true,Zn,Zc]
      rw [Qld (by omega),Zb,script_value (by omega)]
      exact ⟨_,rfl,λ_=>rfl⟩
     ·simp only [if_pos h4]
      exact ⟨[],rfl,λh=>by simp at h⟩
    ·simp only [if_pos h3]
     rw [Zf h3]
     exact ⟨[],rfl,λh=>(h3 h).elim⟩
  ·rw [Zf h1]
   simp only [if_pos h1]
   exact ⟨[],rfl,λh=>by simp at h⟩
 by_cases h0:t.k=0
 ·simp only [Zt h0,Zd]
  by_cases hk0:k=0
  ·simp only [Zt hk0,Zd]
   unfold z72.j2 mWorth
   simp only [if_pos (show t.k=0/\k=0 from ⟨h0,hk0⟩)]
   by_cases hd:t.s=kDue
   ·simp only [if_pos hd]
    rw [Zt (show t.s=[100,117,101] from hd)]
    simp only [Zn,Zc,Zt h0,Zt hk0,Zd]
    exact ⟨kDue,rfl,λ_=>rfl⟩
   ·simp only [if_neg hd]
    rw [Zf (show ¬t.s=[100,117,101] from hd)]
    exact ⟨[],rfl,λh=>by simp at h⟩
  ·simp only [Zf hk0,Zc]
   unfold z72.j2
   simp only [Zf hk0,Zc,Zt h0,Zd]
   exact rest (λh=>hk0 h.2)
 ·simp only [Zf h0,Zc]
  unfold z72.j2
  simp only [Zc,Zf h0]
  exact rest (λh=>h0 h.1)
structure Evt where
 k:Int
 y:Int
 m:Int
 d:Int
 v:List UInt8
deriving DecidableEq
def Evt.r (e:Evt):List V:=[.int .i64 e.k,.int .i64 e.y,.int .i64 e.m,.int .i64 e.d,.str e.v]
def mFin (N:Int) (e:Evt) (l:List Tk):(Int×Int)⊕(Evt×List Tk):=
 if (hd N l).k=3/\(hd N l).s=[59] then .inr (e,l.tail) else .inl (4,(hd N l).p)
def mEvent (N:Int) (l:List Tk) (y m d:Int):(Int×Int)⊕(Evt×List Tk):=
 if (hd N l).k≠0 then .inl (4,(hd N l).p)
 else if kindOf (hd N l).s<0 then .inl (14,(hd N l).p)
 else if (hd N l.tail).k≠2 then .inl (4,(hd N l.tail).p)
 else if (mDate (hd N l.tail).s).2.2.2≠0 then .inl ((mDate (hd N l.tail).s).2.2.2,(hd N l.tail).p)
 else if dcmp (mDate (hd N l.tail).s).1 (mDate (hd N l.tail).s).2.1 (mDate (hd N l.tail).s).2.2.1 y m d<0 then .inl (12,(hd N l.tail).p)
 else if kindOf (hd N l).s=3 then mFin N ⟨kindOf (hd N l).s,(mDate (hd N l.tail).s).1,(mDate (hd N l.tail).s).2.1,(mDate (hd N l.tail).s).2.2.1,[]⟩ l.tail.tail
 else if (mWorth (kindOf (hd N l).s) (hd N l.tail.tail)).1≠0 then .inl ((mWorth (kindOf (hd N l).s) (hd N l.tail.tail)).1,(hd N l.tail.tail).p)
 else mFin N ⟨kindOf (hd N l).s,(mDate (hd N l.tail).s).1,(mDate (hd N l.tail).s).2.1,(mDate (hd N l.tail).s).2.2.1,(mWorth (kindOf (hd N l).s) (hd N l.tail.tail)).2⟩ l.tail.tail.tail
def J8 (N:Int):Nat->List Tk->Int->Int->Int->List Evt->List Evt×Int×Int
 |0,_,_,_,_,acc=>(acc,0,0)
 |
  n+1,l,y,m,d,acc=>if l=[] then (acc,0,0) else
  match mEvent N l y m d with
  |.inl e=>([],e.2,e.1)
  |.inr r=>J8 N n r.2 r.1.y r.1.m r.1.d (acc++[r.1])
def Qai (s:J1):List Evt×Int×Int:=
 if (lexOf s).2.2≠0 then ([],(lexOf s).2.1,(lexOf s).2.2) else J8 (s.length:Int) (lexOf s).1.length (lexOf s).1 0 0 0 []
def Qlg (R:Int×Int×Int×Int×J1×Int×J2×Int×Int) (N:Int):(Int×Int)⊕(Evt×List Tk)->Prop
 |.inl e=>R.2.2.2.2.2.1=e.1/\e.1≠0/\R.2.2.2.2.2.2.2.2=e.2
 |.inr r=>∃q,R=(r.1.k,r.1.y,r.1.m,r.1.d,r.1.v,0,r.2.map Tk.v,N,q)
theorem Qna (l:List Tk) (N p k y m d:Int) (v:J1):∃R,z83.j15 (l.map Tk.v) N p k y m d v=some R/\Qlg R N (mFin N ⟨k,y,m,d,v⟩ l):=by
 obtain ⟨z,hz⟩:=Qee l N p
 unfold z83.j15 mFin
 rw [hz,Zb]
 by_cases h3:(hd N l).k=3
 ·by_cases h4:(hd N l).s=[59]
  ·rw [if_pos ⟨h3,h4⟩,Zt h3,Zt h4]
   exact ⟨_,rfl,_,rfl⟩
  ·rw [if_neg (λh=>h4 h.2),Zt h3,Zf h4]
   exact ⟨_,rfl,rfl,(by simp),rfl⟩
 ·rw [if_neg (λh=>h3 h.1),Zf h3]
  exact ⟨_,rfl,rfl,(by simp),rfl⟩
theorem Qwj {l:List Tk} (hl:∀t∈l,t.k=2->dtd t.s=true) (N:Int) (h:(hd N l).k=2):dtd (hd N l).s=true:=by
 cases l with
 |nil=>simp [hd] at h
 |cons t u=>exact hl t (by simp) h
theorem Qid {l:List Tk} (hl:∀t∈l,t.k=2->dtd t.s=true) (N p y m d:Int):∃R,z83.F (l.map Tk.v) N p y m d=some R/\Qlg R N (mEvent N l y m d):=by
 obtain ⟨z0,e0⟩:=Qee l N p
 obtain ⟨z1,e1⟩:=Qee l.tail N (hd N l).p
 have hl1:∀t∈l.tail,t.k=2->dtd t.s=true:=λt ht=>hl t (List.mem_of_mem_tail ht)
 unfold z83.F mEvent
 rw [e0,Zb]
 by_cases h0:(hd N l).k=0
 ·rw [if_neg (λh=>h h0),Zt h0]
  simp only [Zn,Zc]
  rw [show z76.F=some We from rfl,Zb,Qs6,Zb]
  have hk:=Qu0 (hd N l).s
  generalize kindOf (hd N l).s=k at *
  by_cases h1:k<0
  ·rw [if_pos h1,bif_t h1]
   exact ⟨_,rfl,rfl,(by simp),rfl⟩
  ·rw [if_neg h1,Qc h1,e1,Zb]
   by_cases h2:(hd N l.tail).k=2
   ·rw [if_neg (λh=>h h2),Zt h2]
    simp only [Zn,Zc]
    rw [date_Parse (Qwj hl1 N h2),Zb]
    generalize mDate (hd N l.tail).s=D at *
    by_cases h3:D.2.2.2=0
    ·rw [if_neg (λh=>h h3),Zt h3]
     simp only [Zn,Zc]
     rw [date_Cmp,Zb]
     by_cases h4:dcmp D.1 D.2.1 D.2.2.1 y m d<0
     ·rw [if_pos h4,bif_t h4]
      exact ⟨_,rfl,rfl,(by simp),rfl⟩
     ·rw [if_neg h4,Qc h4]
      by_cases h5:k=3
      ·rw [if_pos h5,Zt h5]
       exact Qna l.tail.tail N _ k D.1 D.2.1 D.2.2.1 []
      ·rw [if_neg h5,Zf h5]
       simp only [Zo,Zd]
       obtain ⟨w,e2,hw⟩:=Qph (k:=k) (by omega) D.1 D.2.1 D.2.2.1 N (hd N l.tail).p l.tail.tail
       rw [e2,Zb]
       by_cases h6:(mWorth k (hd N l.tail.tail)).1=0
       ·rw [if_neg (λh=>h h6),Zt h6,hw h6]
        exact Qna l.tail.tail.tail N _ k D.1 D.2.1 D.2.2.1 _
       ·rw [if_pos h6,Zf h6]
        exact ⟨_,rfl,rfl,h6,rfl⟩
    ·rw [if_pos h3,Zf h3]
     exact ⟨_,rfl,rfl,h3,rfl⟩
   ·rw [if_pos h2,Zf h2]
    exact ⟨_,rfl,rfl,(by simp),rfl⟩
 ·rw [if_pos h0,Zf h0]
  exact ⟨_,rfl,rfl,(by simp),rfl⟩
theorem Qh9 {N:Int} {e:Evt} {l:List Tk} {r:Evt×List Tk} (h:mFin N e l=.inr r):r.1=e/\r.2=l.tail/\l≠[]:=by
 unfold mFin at h
 split at h
 ·rename_i hc
  refine ⟨by cases h;rfl,by cases h;rfl,λhn=>?_⟩
  subst hn;simp [hd] at hc
 ·simp at h
theorem Qi4 {N:Int} {l:List Tk} {y m d:Int} {r:Evt×List Tk} (h:mEvent N l y m d=.inr r):l≠[]/\r.2.length+3<=l.length/\∃k,k<=l.length/\r.2=l.drop k:=by
 unfold mEvent at h
 split at h
 ·simp at h
 ·rename_i h0
  have hl:l≠[]:=λhn=>by subst hn;simp [hd] at h0
  have hpos:=Z22.2 hl
  split at h
  ·simp at h
  split at h
  ·simp at h
  rename_i h2
  have hl1:l.tail≠[]:=λhn=>by rw [hn] at h2;simp [hd] at h2
  have hpos1:=Z22.2 hl1
  rw [List.length_tail] at hpos1
  split at h
  ·simp at h
  split at h
  ·simp at h
  split at h
  ·obtain ⟨_,h5,h6⟩:=Qh9 h
   have hpos2:=Z22.2 h6
   simp only [List.length_tail] at hpos2
   have e:r.2=l.drop 3:=by rw [h5];simp only [<-List.drop_one,Z92]
   exact ⟨hl,by rw [e,Z17];omega,3,by omega,e⟩
  ·split at h
   ·simp at h
   ·obtain ⟨_,h5,h6⟩:=Qh9 h
    have hpos2:=Z22.2 h6
    simp only [List.length_tail] at hpos2
    have e:r.2=l.drop 4:=by rw [h5];simp only [<-List.drop_one,Z92]
    exact ⟨hl,by rw [e,Z17];omega,4,by omega,e⟩
abbrev PS:=J2×Int×Int×J2×Int×Int×Int
abbrev PT:=J2×Int×Int×J2×Int×Int×J2×Int×Int×Int
def outP:PS⊕PT->J2×Int×Int
 |.inl p=>(p.2.2.2.1,0,0)
 |.inr q=>(q.1,q.2.1,q.2.2.1)
def encM (r:List Evt×Int×Int):J2×Int×Int:=(r.1.map Evt.r,r.2.1,r.2.2)
theorem Qot (N:Int):∀(n:Nat) (l:List Tk) (p y m d:Int) (acc:List Evt),l.length<=n->(∀t∈l,t.k=2->dtd t.s=true)->acc.length+l.length<=9999 ->
  ∃x,Runs (λrec x=>z97.l0P rec some x) (l.map Tk.v,N,p,acc.map Evt.r,y,m,d) x/\outP x=encM (J8 N n l y m d acc):=by
 intro n
 induction n with
 |
  zero=>
  intro l p y m d acc hn hl ha
  have:l=[]:=Z6 (by omega)
  subst this
  refine ⟨.inl ([],N,p,acc.map Evt.r,y,m,d),.done λrec=>?_,?_⟩
  ·unfold z97.l0P
   simp only [Z86]
   rw [Qc (by simp)]
  ·rfl
 |
  succ n ih=>
  intro l p y m d acc hn hl ha
  by_cases hnil:l=[]
  ·subst hnil
   refine ⟨.inl ([],N,p,acc.map Evt.r,y,m,d),.done λrec=>?_,?_⟩
   ·unfold z97.l0P
    simp only [Z86]
    rw [Qc (by simp)]
   ·rw [J8,if_pos rfl];rfl
  ·have hpos:=Z22.2 hnil
   obtain ⟨R,hR,ho⟩:=Qid hl N p y m d
   have hst:∀rec:PS->Option (PS⊕PT),z97.l0P rec some (l.map Tk.v,N,p,acc.map Evt.r,y,m,d)=(bif (!decide (R.2.2.2.2.2.1=(0:Int))) then (some (.inr ([],R.2.2.2.2.2.2.2.2,R.2.2.2.2.2.1,R.2.2.2.2.2.2.1,R.2.2.2.2.2.2.2.1,R.2.2.2.2.2.2.2.2,acc.map Evt.r,y,m,d))) else (rec (R.2.2.2.2.2.2.1,R.2.2.2.2.2.2.2.1,R.2.2.2.2.2.2.2.2,(acc.map Evt.r++([[(.int .i64 R.1),(.int .i64 R.2.1),(.int .i64 R.2.2.1),(.int .i64 R.2.2.2.1),(.str R.2.2.2.2.1)]]:J2)),R.2.1,R.2.2.1,R.2.2.2.1))):=λrec=>by
    unfold z97.l0P
    simp only
    have l1:(l.map Tk.v).length=l.length:=by simp
    have l2:(acc.map Evt.r).length=acc.length:=by simp
    rw [l1,l2,bif_t (by omega),Qc (by omega),hR,Zb,if_pos (by show (acc.length+1)*48<=_;omega)]
   cases he:mEvent N l y m d with
   |
    inl e=>
    rw [he] at ho
    obtain ⟨h1,h2,h3⟩:=ho
    refine ⟨.inr ([],R.2.2.2.2.2.2.2.2,R.2.2.2.2.2.1,R.2.2.2.2.2.2.1,R.2.2.2.2.2.2.2.1,R.2.2.2.2.2.2.2.2,acc.map Evt.r,y,m,d),.done λrec=>?_,?_⟩
    ·rw [hst,Zf (by rw [h1];exact h2)];rfl
    ·rw [J8,if_neg hnil,he]
     show (([]:J2),R.2.2.2.2.2.2.2.2,R.2.2.2.2.2.1)=([],e.2,e.1)
     rw [h1,h3]
   |
    inr r=>
    rw [he] at ho
    obtain ⟨q,hq⟩:=ho
    obtain ⟨h1,h2,k,_,h3⟩:=Qi4 he
    obtain ⟨x,hx,hx2⟩:=ih r.2 q r.1.y r.1.m r.1.d (acc++[r.1]) (by omega) (λt ht=>hl t (by rw [h3] at ht;exact Z59 ht)) (by simp;omega)
    refine ⟨x,.step (λrec=>?_) hx,?_⟩
    ·rw [hst,hq]
     simp only [Z63,List.map_cons,Z86];rfl
    ·rw [J8,if_neg hnil,he];exact hx2
theorem Qg7 (s:J1):(lexOf s).1.length<=s.length/\∀t∈(lexOf s).1,(t.k=2->dtd t.s=true)/\t.s.length<=s.length/\0<=t.p/\t.p<=s.length:=by
 have h:=W2 false s
 obtain ⟨h1,h2⟩:=Qsj s.length (skp false s).length (skp false s) (Z5 _) h
 exact ⟨by unfold lexOf;omega,λt ht=>by obtain ⟨a,b,c⟩:=h2 t ht;exact ⟨a,by omega,c⟩⟩
theorem Qtt {s:J1} (hs:s.length<=1048576) (hk:(lexOf s).1.length<=9999):z97.F s=some (encM (Qai s)):=by
 obtain ⟨h1,h2⟩:=Qg7 s
 unfold z97.F Qai
 rw [lex_Lex,if_neg (by omega),Zb]
 by_cases he:(lexOf s).2.2=0
 ·rw [if_neg (λh=>h he)]
  simp only [he,decide_true,Zn,Zc]
  obtain ⟨x,r,hx⟩:=Qot (s.length:Int) (lexOf s).1.length (lexOf s).1 0 0 0 0 [] (Z5 _) (λt ht=>(h2 t ht).1) (by simp;omega)
  have e:z97.l0 ((lexOf s).1.map Tk.v,(s.length:Int),0,[],0,0,0)=some x:=r.lfp
  rw [e,<-hx]
  cases x<;>rfl
 ·rw [if_pos he]
  simp only [he,decide_false,Zo,Zd]
  rfl
theorem script_Parse {s:J1} (hs:s.length<=9999):z97.F s=some (encM (Qai s)):=
 Qtt (by omega) (by have:=(Qg7 s).1;omega)
theorem aK {R:Type} (t:Tk) (K:Int->Option R):V.asInt .i64 ((Tk.v t).getD 0 .undef) K=K t.k:=rfl
theorem aS {R:Type} (t:Tk) (K:J1->Option R):V.asStr ((Tk.v t).getD 1 .undef) K=K t.s:=rfl
theorem aP {R:Type} (t:Tk) (K:Int->Option R):V.asInt .i64 ((Tk.v t).getD 2 .undef) K=K t.p:=rfl
def cd (v:Int):UInt8:=UInt8.ofNat (48+v%10).toNat
theorem Y2 {v:Int} (hv:0<=v):((cd v).toNat:Int)=48+v%10:=by
 unfold cd
 rw [UInt8.toNat_ofNat']
 omega
def dtxt (y m d:Int):J1:=[cd (y/10/10/10),cd (y/10/10),cd (y/10),cd y,45,cd (m/10),cd m,45,cd (d/10),cd d]
theorem Jk {n:Int} (hn:0<=n/\n<1000000) {b1 b2 i:Nat} (hi:i<b2) {L:J0} (hL:b1+i<L.length) (hb:i<100000) (rec:(Int×Int×J0)->Option (Int×Int×J0)) :
  z100.l0P b1 b2 rec some (n,(i:Int),L)=rec (n/10,(i:Int)-1,L.set (b1+i) (48+n%10)):=by
 have e1:Int.tdiv n 10=n/10:=Int.tdiv_eq_ediv_of_nonneg hn.1
 have e2:Int.tmod n 10=n%10:=Z34 hn.1
 unfold z100.l0P
 simp only
 rw [bif_t (by omega),if_pos (by omega),Zi,if_pos hL,e1,e2,Qg (n:=n/10) (by omega) (by omega),Qg (n:=(i:Int)-1) (by omega) (by omega),Qg (n:=48+n%10) (by omega) (by omega),J7 (by omega) (by omega)]
theorem Qf6 {n:Int} {b1 b2:Nat} {L:J0}:Runs (λrec x=>z100.l0P b1 b2 rec some x) (n,(-1:Int),L) (n,-1,L):=.done λrec=>by
 unfold z100.l0P
 simp only
 rw [Qc (by decide)]
theorem date_Print {y m d:Int} (h:right y m d):z100.F y m d=some (dtxt y m d,0):=by
 obtain ⟨hy,hm1,hm2,hd1,hd2⟩:=Yt h
 have r1:z100.l0 0 4 (y,3,[48,48,48,48,45,48,48,45,48,48])=some (y/10/10/10/10,-1,[48+y/10/10/10%10,48+y/10/10%10,48+y/10%10,48+y%10,45,48,48,45,48,48]):=by
  refine Runs.lfp ?_
  refine .step (Jk (b1:=0) (b2:=4) (i:=3) (by omega) (by decide) (by decide) (by decide)) ?_
  refine .step (Jk (b1:=0) (b2:=4) (i:=2) (by omega) (by decide) (show 2<10 by decide) (by decide)) ?_
  refine .step (Jk (b1:=0) (b2:=4) (i:=1) (by omega) (by decide) (show 1<10 by decide) (by decide)) ?_
  refine .step (Jk (b1:=0) (b2:=4) (i:=0) (by omega) (by decide) (show 0<10 by decide) (by decide)) ?_
  exact Qf6
 have r2:∀(a b c e:Int),z100.l0 5 (7-5) (m,wr .i64 ((((7-5):Nat):Int)-(1:Int)),[a,b,c,e,45,48,48,45,48,48])=some (m/10/10,-1,[a,b,c,e,45,48+m/10%10,48+m%10,45,48,48]):=λa b c e=>by
  rw [show wr .i64 ((((7-5):Nat):Int)-(1:Int))=1 by decide]
  refine Runs.lfp ?_
  refine .step (Jk (b1:=5) (b2:=2) (i:=1) (by omega) (by decide) (show 6<10 by decide) (by decide)) ?_
  refine .step (Jk (b1:=5) (b2:=2) (i:=0) (by omega) (by decide) (show 5<10 by decide) (by decide)) ?_
  exact Qf6
 have r3:∀(a b c e f g:Int),z100.l0 8 ([a,b,c,e,45,f,g,45,48,48].length-8) (d,wr .i64 ((((([a,b,c,e,45,f,g,45,48,48]:J0).length-8):Nat):Int)-(1:Int)),[a,b,c,e,45,f,g,45,48,48])=some (d/10/10,-1,[a,b,c,e,45,f,g,45,48+d/10%10,48+d%10]):=λa b c e f g=>by
  show z100.l0 8 2 (d,wr .i64 (((2:Nat):Int)-1),_)=_
  rw [show wr .i64 (((2:Nat):Int)-(1:Int))=1 by decide]
  refine Runs.lfp ?_
  refine .step (Jk (b1:=8) (b2:=2) (i:=1) (by omega) (by decide) (show 9<10 by decide) (by decide)) ?_
  refine .step (Jk (b1:=8) (b2:=2) (i:=0) (by omega) (by decide) (show 8<10 by decide) (by decide)) ?_
  exact Qf6
 unfold z100.F
 rw [date_Check,if_pos h,Zb]
 rw [show (!decide ((0:Int)=0))=false from rfl]
 simp only [Zc]
 rw [if_pos (by decide),r1,Zb]
 simp only
 rw [if_pos (by simp only [Z8,Z21];decide),r2,Zb]
 simp only
 rw [if_pos (by simp only [Z8,Z21];decide),r3,Zb]
 rfl
def Q1 (k:Int):J1:=We.getD k.toNat []
def vtxt (e:Evt):J1:=if e.k=2\/e.v=kDue then e.v else decTxt (mWhole e.v).1.natAbs 2
def etxt (e:Evt):J1:=Q1 e.k++32::dtxt e.y e.m e.d++(if e.k=3 then [] else 32::vtxt e)++[59,10]
structure EvtOK (e:Evt):Prop where
 k:0<=e.k/\e.k<=3
 d:right e.y e.m e.d
 v:mVal e.k e.v=0
 l:e.v.length<=4096
def Seq:Int->Int->Int->List Evt->Prop
 |_,_,_,[]=>True
 |y,m,d,e::t=>¬dcmp e.y e.m e.d y m d<0/\EvtOK e/\Seq e.y e.m e.d t
theorem Qbs {v:J1} (h:Jf v=0):(mWhole v).2=0/\0<(mWhole v).1/\(mWhole v).1<=10^30:=by
 have e:mMoney v=if (mWhole v).2≠0 then (0,(mWhole v).2) else if (mWhole v).1<0\/10^30<(mWhole v).1 then (0,19) else ((mWhole v).1,0):=rfl
 unfold Jf at h
 by_cases h1:(mWhole v).2=0
 ·rw [if_neg (λhh=>hh h1)] at e
  by_cases h2:(mWhole v).1<0\/10^30<(mWhole v).1
  ·rw [if_pos h2] at e;rw [e] at h;simp at h
  ·rw [if_neg h2] at e
   rw [e] at h
   by_cases h3:(mWhole v).1=0
   ·simp [h3] at h
   ·exact ⟨h1,by omega,by omega⟩
 ·rw [if_pos h1] at e
  rw [e] at h
  simp [h1] at h
theorem EvtOK.paid {e:Evt} (h:EvtOK e) (h2:¬(e.k=2\/e.v=kDue)) (h3:e.k≠3):Jf e.v=0:=by
 have:=h.v
 unfold mVal at this
 rw [if_neg h3,if_neg (λhh=>h2 (.inl hh)),if_neg (λhh=>h2 (.inr hh.2))] at this
 exact this
theorem Qpw (c:Nat):Lib.repeatL [48] c=List.replicate c 48:=by
 induction c with
 |zero=>rfl
 |succ c ih=>show 48::Lib.repeatL [48] c=_;rw [ih];rfl
theorem dump_Point {n:Nat} (hn:n<=10^30):z102.F (lb (Int.natAbs (n:Int))) (neg (n:Int))=some (decTxt n 2):=by
 have hl:(txt n).length<=31:=Jg (by omega) (by decide)
 have hsz:sz n<=100000000:=Z46 (Q2 (k:=31) (by omega)) (by decide)
 have hp:=Qbk n 2
 unfold z102.F z52.F z51.F
 rw [Qc (by decide),Zb,show decide ((2:Int)>64)=false from rfl]
 simp only [Zc,Zb]
 have hit:itxt (n:Int)=txt n:=by unfold itxt;rw [if_neg (by omega)];rfl
 have hcut:cutNeg (txt n)=(txt n,false):=Qg1 (Qal n)
 have key:z101.F (lb (Int.natAbs (n:Int))) (neg (n:Int)) 2=some (decTxt n 2):=by
  unfold z101.F
  rw [Qld (by exact hsz),Zb,Qfh,Zb,hit,hcut]
  simp only
  have e1:wr .i64 ((2:Int)+1)=3:=by decide
  rw [e1,Qg (n:=3-((txt n).length:Int)) (by omega) (by omega)]
  have e2:z5.F [48] (if 3-((txt n).length:Int)>0 then 3-((txt n).length:Int) else 0)=some (List.replicate (2+1-(txt n).length) 48):=by
   unfold z5.F
   have:(if 3-((txt n).length:Int)>0 then 3-((txt n).length:Int) else 0)=((2+1-(txt n).length:Nat):Int):=by split<;>omega
   rw [this,if_pos (by simp only [Z19];omega),Zi,Qpw]
  rw [e2,Zb,show List.replicate (2+1-(txt n).length) 48++txt n=padded n 2 from rfl]
  have e3:wr .i64 (((padded n 2).length:Int)-2)=(((padded n 2).length-2:Nat):Int):=by rw [Qg (by omega) (by omega)];omega
  rw [e3,Zi]
  have lt:((padded n 2).take ((padded n 2).length-2)).length<=100:=by rw [Z11];omega
  have ld:((padded n 2).drop ((padded n 2).length-2)).length<=100:=by rw [Z17];omega
  rw [if_pos (by rw [Z38];omega),bif_t (by decide),if_pos (by omega),if_pos (by simp only [Z19];omega),if_pos (by omega),if_pos (by rw [Z2];simp only [Z19];omega)]
  unfold z101.j4
  simp only [Zc,Z70]
  rfl
 rw [key];rfl
theorem Qf3 {e:Evt} (h:EvtOK e) (h3:e.k≠3):(vtxt e).length<=4096:=by
 unfold vtxt
 split
 ·exact h.l
 ·rename_i h2
  obtain ⟨_,p1,p2⟩:=Qbs (h.paid h2 h3)
  have hl:(txt (mWhole e.v).1.natAbs).length<=31:=Jg (by omega) (by decide)
  have hp:=Qbk (mWhole e.v).1.natAbs 2
  unfold decTxt
  rw [Z2,Z8,Z11,Z17]
  omega
theorem Qbd {k:Int} (hk:0<=k/\k<=3):(Q1 k).length<=6:=by
 have:k=0\/k=1\/k=2\/k=3:=by omega
 rcases this with rfl|rfl|rfl|rfl<;>decide
theorem Qdh {e:Evt} (h:EvtOK e):0<(etxt e).length/\(etxt e).length<=5000:=by
 have h1:=Qbd h.k
 have h2:(dtxt e.y e.m e.d).length=10:=rfl
 unfold etxt
 by_cases h3:e.k=3
 ·rw [if_pos h3];simp only [Z2,Z8,Z21];omega
 ·have:=Qf3 h h3
  rw [if_neg h3];simp only [Z2,Z8,Z21];omega
theorem Qr0 (a b:J1):Lib.join [a,b] [32]=a++32::b:=by
 unfold Lib.join;simp [List.intercalate]
theorem Qs4 (a b c:J1):Lib.join [a,b,c] [32]=a++32::b++32::c:=by
 unfold Lib.join;simp [List.intercalate]
theorem script_text {e:Evt} (h:EvtOK e):z103.F e.k e.y e.m e.d e.v=some (etxt e):=by
 have hk:=h.k
 have h1:=Qbd h.k
 have h2:(dtxt e.y e.m e.d).length=10:=rfl
 have hw:We.getD e.k.toNat []=Q1 e.k:=rfl
 have last:∀V:J1,V.length<=4096->(if (([We.getD e.k.toNat [],dtxt e.y e.m e.d]:List J1).length+([V]:List J1).length)*16<=140737488355328 then ((z6.F ([We.getD e.k.toNat [],dtxt e.y e.m e.d]++[V]) ([32]:J1)).bind λr7=>(if r7.length+([59,10]:J1).length<=9223372036854775807 then (some (r7++([59,10]:J1))) else none)) else none)=some (Q1 e.k++32::dtxt e.y e.m e.d++32::V++[59,10]):=λV hV=>by
  rw [if_pos (by show (2+1)*16<=_;decide),hw]
  unfold z6.F
  rw [show [Q1 e.k,dtxt e.y e.m e.d]++[V]=[Q1 e.k,dtxt e.y e.m e.d,V] from rfl,Qs4]
  rw [if_pos ⟨by show 3<=_;decide,by simp only [Z2,Z8];omega⟩,Zb,if_pos (by simp only [Z2,Z8,Z21];omega)]
 unfold z103.F
 rw [date_Print h.d,Zb,show z76.F=some We from rfl,Zb,if_pos (by show 0<=e.k/\e.k<((4:Nat):Int);omega)]
 simp only
 unfold etxt
 by_cases h3:e.k=3
 ·rw [bif_t h3,if_pos h3,hw]
  unfold z6.F
  rw [Qr0,if_pos ⟨by show 2<=_;decide,by simp only [Z2,Z8];omega⟩,Zb,if_pos (by simp only [Z2,Z8,Z21];omega)]
  simp
 ·rw [Qc h3,if_neg h3]
  have hv:=Qf3 h h3
  unfold vtxt at hv ⊢
  by_cases h4:e.k=2
  ·rw [bif_t h4]
   rw [if_pos (show e.k=2\/e.v=kDue from .inl h4)] at hv ⊢
   unfold z103.j3
   simp only [Zd]
   exact last _ hv
  ·rw [Qc h4]
   unfold z103.j3
   by_cases h5:e.v=kDue
   ·rw [Zt (show e.v=[100,117,101] from h5)]
    rw [if_pos (show e.k=2\/e.v=kDue from .inr h5)] at hv ⊢
    simp only [Zd]
    exact last _ hv
   ·rw [Zf (show ¬e.v=[100,117,101] from h5)]
    have h6:¬(e.k=2\/e.v=kDue):=λhh=>hh.elim h4 h5
    rw [if_neg h6] at hv ⊢
    simp only [Zc]
    obtain ⟨p0,p1,p2⟩:=Qbs (h.paid h6 h3)
    have hn:((mWhole e.v).1.natAbs:Int)=(mWhole e.v).1:=by omega
    rw [whole_Parse,Zb]
    have hp:=dump_Point (n:=(mWhole e.v).1.natAbs) (by omega)
    rw [hn] at hp
    rw [hp,Zb]
    exact last _ hv
theorem script_wrong {e:Evt} (h:EvtOK e) {y m d:Int} (hs:¬dcmp e.y e.m e.d y m d<0):z98.F e.k e.y e.m e.d e.v y m d=some 0:=by
 have hk:=h.k
 unfold z98.F
 rw [Qc (by omega),Zf (by omega)]
 unfold z98.j1
 simp only [Zc]
 rw [date_Check,if_pos h.d,Zb,show (!decide ((0:Int)=0))=false from rfl]
 simp only [Zc]
 rw [date_Cmp,Zb,Qc hs,script_value hk,h.v];rfl
theorem eK {R:Type} (t:Evt) (K:Int->Option R):V.asInt .i64 ((Evt.r t).getD 0 .undef) K=K t.k:=rfl
theorem eY {R:Type} (t:Evt) (K:Int->Option R):V.asInt .i64 ((Evt.r t).getD 1 .undef) K=K t.y:=rfl
theorem eM {R:Type} (t:Evt) (K:Int->Option R):V.asInt .i64 ((Evt.r t).getD 2 .undef) K=K t.m:=rfl
theorem eD {R:Type} (t:Evt) (K:Int->Option R):V.asInt .i64 ((Evt.r t).getD 3 .undef) K=K t.d:=rfl
theorem eV {R:Type} (t:Evt) (K:J1->Option R):V.asStr ((Evt.r t).getD 4 .undef) K=K t.v:=rfl
theorem Qbm {L:List Evt} {i:Nat} (h:i<L.length):(L.map Evt.r).getD i []=Evt.r L[i]:=by
 rw [Zl,Z75,Z1 h];rfl
theorem Qm3 {L:List Evt} (hL:L.length<=10000):∀(f i:Nat) (y m d:Int),i+f=L.length->Seq y m d (L.drop i)->∃x,Runs (λrec x=>z99.l0P (L.map Evt.r) (L.length:Int) rec some x) ((i:Int),y,m,d) (.inl x)
 |
  0,i,y,m,d,h,_=>by
  refine ⟨((i:Int),y,m,d),.done λrec=>?_⟩
  unfold z99.l0P
  simp only
  rw [Qc (by omega)]
 |
  f+1,i,y,m,d,h,hs=>by
  have hi:i<L.length:=by omega
  rw [Z31 hi] at hs
  obtain ⟨s1,s2,s3⟩:=hs
  obtain ⟨x,hx⟩:=Qm3 hL f (i+1) _ _ _ (by omega) s3
  refine ⟨x,.step (λrec=>?_) hx⟩
  have l2:(L.map Evt.r).length=L.length:=by simp
  unfold z99.l0P
  simp only
  rw [bif_t (by omega),if_pos (by omega),Zi,Qbm hi]
  simp only [eK,eY,eM,eD,eV]
  rw [script_wrong s2 s1,Zb,Qg (by omega) (by omega)];rfl
theorem script_Check {L:List Evt} (hL:L.length<=10000) (hs:Seq 0 0 0 L):z99.F (L.map Evt.r)=some (0,0):=by
 have l2:(L.map Evt.r).length=L.length:=by simp
 obtain ⟨x,hx⟩:=Qm3 hL L.length 0 0 0 0 (by omega) hs
 have e:z99.l0 (L.map Evt.r) (L.length:Int) (0,0,0,0)=some (.inl x):=hx.lfp
 unfold z99.F
 rw [l2,Qc (by omega),e];rfl
def stxt (L:List Evt):J1:=(L.map etxt).flatten
theorem Qbx (e:Evt) (t:List Evt):stxt (e::t)=etxt e++stxt t:=by simp [stxt]
def Wn (s:J1):J0:=s.map λc=>(c.toNat:Int)
theorem Qtj (s:J1):(Wn s).map (λn=>UInt8.ofNat n.toNat)=s:=by
 unfold Wn
 rw [List.map_map]
 refine (Z78 λb _=>?_).trans (List.map_id s)
 show UInt8.ofNat ((b.toNat:Int)).toNat=b
 simp
theorem Qn7 (s:J1):(Wn s).all Yw=true:=by
 unfold Wn
 rw [Z14]
 intro n hn
 obtain ⟨b,_,rfl⟩:=List.mem_map.1 hn
 have:=b.toNat_lt
 simp only [Yw,Z4,decide_eq_true_eq]
 omega
theorem Qbg:∀{L:List Evt} {y m d:Int},Seq y m d L->∀e∈L,EvtOK e
 |[],_,_,_,_,e,he=>by simp at he
 |
  a::t,_,_,_,h,e,he=>by
  rcases Z67.1 he with rfl|he
  ·exact h.2.1
  ·exact Qbg h.2.2 e he
theorem Qln {L:List Evt} (hL:L.length<=10000) (hok:∀e∈L,EvtOK e):∀(f i:Nat) (T:J1),i+f=L.length->T.length<=5000*i->Runs (λrec x=>z104.l0P (L.map Evt.r) (L.length:Int) rec some x) ((i:Int),Wn T) ((L.length:Int),Wn (T++stxt (L.drop i)))
 |
  0,i,T,h,hT=>by
  refine .done λrec=>?_
  unfold z104.l0P
  simp only
  rw [Qc (by omega),Z62 (by omega),show (i:Int)=(L.length:Int) by omega]
  simp [stxt]
 |
  f+1,i,T,h,hT=>by
  have hi:i<L.length:=by omega
  have ho:=hok L[i] (Z10 hi)
  have hl:=Qdh ho
  have l2:(L.map Evt.r).length=L.length:=by simp
  have ih:=Qln hL hok f (i+1) (T++etxt L[i]) (by omega) (by rw [Z2];omega)
  have e:T++etxt L[i]++stxt (L.drop (i+1))=T++stxt (L.drop i):=by
   rw [Z31 hi,Qbx,Z70]
  rw [e] at ih
  refine .step (λrec=>?_) ih
  unfold z104.l0P
  simp only
  rw [bif_t (by omega),if_pos (by omega),Zi,Qbm hi]
  simp only [eK,eY,eM,eD,eV]
  rw [script_text ho,Zb,if_pos (by unfold Wn;rw [Z29,Z29];omega),Qg (by omega) (by omega)]
  unfold Wn
  rw [Z63];rfl
theorem script_Print_nil:z104.F ([]:J2)=some ([],0):=by
 unfold z104.F
 have h:=script_Check (L:=[]) (by decide) trivial
 rw [Z86] at h
 rw [h,Zb,show (!decide ((0:Int)=0))=false from rfl]
 simp only [Zc]
 rw [Qc (by decide)];rfl
theorem script_Print {L:List Evt} (hL:L.length<=10000) (hne:L≠[]) (hs:Seq 0 0 0 L):z104.F (L.map Evt.r)=some (stxt L,0):=by
 have hpos:=Z22.2 hne
 have hok:=Qbg hs
 have ho:=hok L[0] (Z10 hpos)
 have hl:=Qdh ho
 have l2:(L.map Evt.r).length=L.length:=by simp
 have r:=Qln hL hok (L.length-1) 1 (etxt L[0]) (by omega) (by omega)
 have e1:etxt L[0]++stxt (L.drop 1)=stxt L:=by
  conv=>rhs;rw [<-Z65 (l:=L),Z31 hpos,Qbx]
 rw [e1] at r
 have e:z104.l0 (L.map Evt.r) (L.length:Int) (1,Wn (etxt L[0]))=some ((L.length:Int),Wn (stxt L)):=r.lfp
 have hsl:0<(Wn (stxt L)).length:=by unfold Wn;rw [Z29,<-e1,Z2];omega
 unfold z104.F
 rw [script_Check hL hs,Zb,show (!decide ((0:Int)=0))=false from rfl]
 simp only [Zc]
 rw [l2,bif_t (by omega),if_pos (by omega),Qbm hpos]
 simp only [eK,eY,eM,eD,eV]
 rw [script_text ho,Zb]
 change (if (([]:J0).length+(Wn (etxt L[0])).length)*1<=140737488355328 then ((z104.l0 (L.map Evt.r) (L.length:Int) (1,[]++Wn (etxt L[0]))).bind _) else none)=_
 rw [if_pos (by unfold Wn;rw [Z29];simp only [Z21];omega),Z85,e,Zb]
 simp only
 rw [if_pos hsl,if_pos ⟨trivial,hsl,Qn7 _⟩,Qtj]
def lxF (N:Nat):Nat->J1->List Tk×Int×Int
 |0,_=>([],0,0)
 |
  f+1,r=>if r=[] then ([],0,0) else
  if (tokOf r).2.2=0 then
   if (lxF N f (skp false (r.drop (tokOf r).2.1.length))).2.2=0 then (⟨(tokOf r).1,(tokOf r).2.1,(N:Int)-r.length⟩::(lxF N f (skp false (r.drop (tokOf r).2.1.length))).1,0,0) else ([],(lxF N f (skp false (r.drop (tokOf r).2.1.length))).2.1,(lxF N f (skp false (r.drop (tokOf r).2.1.length))).2.2)
  else ([],(N:Int)-r.length,(tokOf r).2.2)
theorem Qop (N:Nat):∀(f:Nat) (r:J1),r.length<=f->lxF N f r=lx N r:=by
 intro f
 induction f with
 |
  zero=>
  intro r h
  have:r=[]:=Z6 (by omega)
  subst this
  rw [lx_nil];rfl
 |
  succ f ih=>
  intro r h
  rw [lxF]
  by_cases hr:r=[]
  ·rw [if_pos hr,hr,lx_nil]
  ·rw [if_neg hr]
   by_cases he:(tokOf r).2.2=0
   ·obtain ⟨l1,l2⟩:=Qdl hr he
    have h4:=W2 false (r.drop (tokOf r).2.1.length)
    rw [Z17] at h4
    rw [if_pos he,Qbq hr he,ih _ (by omega)]
   ·rw [if_neg he,Qb5 hr he]
def Qit (s:J1):List Evt×Int×Int:=
 if (lxF s.length s.length (skp false s)).2.2≠0 then ([],(lxF s.length s.length (skp false s)).2.1,(lxF s.length s.length (skp false s)).2.2) else J8 (s.length:Int) (lxF s.length s.length (skp false s)).1.length (lxF s.length s.length (skp false s)).1 0 0 0 []
theorem Ql6 (s:J1):Qit s=Qai s:=by
 unfold Qit Qai lexOf
 rw [Qop _ _ _ (W2 false s)]
def wkA:J1:=[112,97,121,32,50,48,50,52,45,48,50,45,48,49,32,100,117,101,59,32,114,101,115,101,116,32,50,48,50,52,45,48,51,45,49,53,32,53,46,53,59]
def wkB:J1:=[112,97,115,115,32,50,48,50,52,45,48,50,45,48,49,59,32,112,97,115,115,32,50,48,50,52,45,48,49,45,48,49,59]
def wkL:List Evt:=[⟨0,2024,2,1,kDue⟩,⟨2,2024,3,15,[53,46,53]⟩]
theorem wk1:Qai wkA=(wkL,0,0):=by rw [<-Ql6];decide +kernel
theorem wk2:Qai wkB=([],22,12):=by rw [<-Ql6];decide +kernel
theorem Qrk:Seq 0 0 0 wkL:=by
 refine ⟨by decide +kernel,⟨by decide,by decide +kernel,by decide +kernel,by decide⟩,by decide +kernel,⟨by decide,by decide +kernel,by decide +kernel,by decide⟩,trivial⟩
theorem wkT:stxt wkL=[112,97,121,32,50,48,50,52,45,48,50,45,48,49,32,100,117,101,59,10,114,101,115,101,116,32,50,48,50,52,45,48,51,45,49,53,32,53,46,53,59,10]:=by decide +kernel
theorem Qk8:z105.F=some true:=by
 unfold z105.F
 have e1:z97.F wkA=some (encM (wkL,0,0)):=by rw [script_Parse (by decide),wk1]
 have e2:z97.F wkB=some (encM ([],22,12)):=by rw [script_Parse (by decide),wk2]
 have e3:z104.F (wkL.map Evt.r)=some (stxt wkL,0):=script_Print (by decide) (by decide) Qrk
 change ((z97.F wkA).bind _)=_
 rw [e1,Zb]
 change ((z104.F (wkL.map Evt.r)).bind _)=_
 rw [e3,Zb]
 change ((z97.F wkB).bind _)=_
 rw [e2,Zb,wkT]
 rfl
theorem Qm2 (L:List Evt) (hL:L.length<=1000000):∀(f i:Nat),i+f=L.length->∃x,Runs (λrec x=>z106.l0P (L.map Evt.r) (L.map Evt.r) (L.length:Int) rec some x) (i:Int) (.inl x)
 |
  0,i,h=>by
  refine ⟨(i:Int),.done λrec=>?_⟩
  unfold z106.l0P
  rw [Qc (by omega)]
 |
  f+1,i,h=>by
  have hi:i<L.length:=by omega
  obtain ⟨x,hx⟩:=Qm2 L hL f (i+1) (by omega)
  refine ⟨x,.step (λrec=>?_) hx⟩
  have l2:(L.map Evt.r).length=L.length:=by simp
  have c:(0:Int)<=(i:Int)/\(i:Int)<((L.map Evt.r).length:Int):=by omega
  unfold z106.l0P
  rw [bif_t (by omega),if_pos c,Zi,Qbm hi]
  simp only [eK,eY,eM,eD,eV,if_pos c,decide_true,Bool.and_self,Zn,Zc]
  rw [Qg (by omega) (by omega)];rfl
theorem Qsz (L:List Evt) (hL:L.length<=1000000):z106.F (L.map Evt.r) (L.map Evt.r)=some true:=by
 have l2:(L.map Evt.r).length=L.length:=by simp
 obtain ⟨x,hx⟩:=Qm2 L hL L.length 0 (by omega)
 have e:z106.l0 (L.map Evt.r) (L.map Evt.r) (L.length:Int) 0=some (.inl x):=hx.lfp
 unfold z106.F
 rw [l2,Zt (show ((L.length:Nat):Int)=(L.length:Nat) from rfl),e];rfl
structure NumTok (v:List UInt8):Prop where
 hd:∃b t,v=b::t/\ltr b=false/\(dgt b||decide (b.toNat=45))=true
 all:∀x∈v,nmr x=true
 dtd:dtd v=false
 dec:(mDec v).2.2=0
structure Can (e:Evt):Prop where
 rate:e.k=2->NumTok e.v
 paid:e.k<2->(e.v=kDue/\e.k=0)\/∃n:Nat,0<n/\n<=10^30/\e.v=txt n
 len:e.v.length<=800
theorem Qf2 {p:UInt8->Bool} {c:UInt8} (hc:p c=false) (R:J1):∀(T:J1),(∀x∈T,p x=true)->(T++c::R).takeWhile p=T
 |[],_=>List.takeWhile_cons_of_neg (by rw [hc];simp)
 |
  b::t,h=>by
  rw [List.cons_append,List.takeWhile_cons_of_pos (h b (by simp)),Qf2 hc R t λx hx=>h x (by simp [hx])]
theorem Qds {b:UInt8} {t:J1} (hb:ltr b=true) (h:∀x∈b::t,wrd x=true) {c:UInt8} (hc:wrd c=false) (R:J1):tokOf (b::t++c::R)=(0,b::t,0):=by
 unfold tokOf
 rw [show (b::t++c::R).getD 0 0=b from rfl,if_pos hb,Qf2 hc R (b::t) h]
theorem Qi2 {b:UInt8} {t:J1} (hb:ltr b=false) (hd:(dgt b||decide (b.toNat=45))=true) (h:∀x∈b::t,nmr x=true) {c:UInt8} (hc:nmr c=false) (R:J1) :
  tokOf (b::t++c::R)=if dtd (b::t) then (2,b::t,0) else if (mDec (b::t)).2.2=0 then (1,b::t,0) else (0,[],5):=by
 unfold tokOf
 rw [show (b::t++c::R).getD 0 0=b from rfl,if_neg (by rw [hb];simp),if_pos hd,Qf2 hc R (b::t) h]
theorem Qig (R:J1):tokOf (59::R)=(3,[59],0):=by
 unfold tokOf
 rw [show (59::R).getD 0 0=59 from rfl,if_neg (by decide),if_neg (by decide),if_pos (by decide)];rfl
theorem Yy {N:Nat} {k:Int} {T R:J1} {l:List Tk} (ht:tokOf (T++R)=(k,T,0)) (hne:T≠[]) (hl:lx N (skp false R)=(l,0,0)):∃p,lx N (T++R)=(⟨k,T,p⟩::l,0,0):=by
 have h0:(tokOf (T++R)).2.2=0:=by rw [ht]
 have h1:(tokOf (T++R)).2.1=T:=by rw [ht]
 have h2:(tokOf (T++R)).1=k:=by rw [ht]
 refine ⟨(N:Int)-(T++R).length,?_⟩
 rw [Qbq (by simp [hne]) h0,h1,h2,List.drop_left,hl]
 rfl
theorem Qdg (R:J1):skp false (32::R)=skp false R:=by rw [skp,if_neg (by decide),if_pos (by decide)]
theorem Qv9 (R:J1):skp false (10::R)=skp false R:=by rw [skp,if_neg (by decide),if_pos (by decide)]
theorem Jz {b:UInt8} (h1:b.toNat≠35) (h2:bln b=false) (R:J1):skp false (b::R)=b::R:=by rw [skp,if_neg h1,if_neg (by rw [h2];simp)]
theorem Q9 {v:Int} (hv:0<=v):dgt (cd v)=true:=by
 rw [Qhw,Y2 hv];exact Zt (by omega)
theorem Ys {b:UInt8} (h:dgt b=true):nmr b=true:=by simp [nmr,h]
theorem Qe5 {b:UInt8} (h:dgt b=true):ltr b=false:=by
 simp only [dgt,Z4,decide_eq_true_eq] at h
 unfold ltr;rw [Zf (by omega)];rfl
theorem Qt8 {y m d:Int} (hy:0<=y) (hm:0<=m) (hd:0<=d):dtd (dtxt y m d)=true:=by
 have a0:=Q9 (v:=y/10/10/10) (by omega)
 have a1:=Q9 (v:=y/10/10) (by omega)
 have a2:=Q9 (v:=y/10) (by omega)
 have a3:=Q9 (v:=y) hy
 have a5:=Q9 (v:=m/10) (by omega)
 have a6:=Q9 (v:=m) hm
 have a8:=Q9 (v:=d/10) (by omega)
 have a9:=Q9 (v:=d) hd
 have e:∀i,i<10->(if i=4\/i=7 then decide (((dtxt y m d).getD i 0).toNat=45) else dgt ((dtxt y m d).getD i 0))=true:=λi hi=>by
  have:i=0\/i=1\/i=2\/i=3\/i=4\/i=5\/i=6\/i=7\/i=8\/i=9:=by omega
  rcases this with rfl|rfl|rfl|rfl|rfl|rfl|rfl|rfl|rfl|rfl
  ·exact a0
  ·exact a1
  ·exact a2
  ·exact a3
  ·rfl
  ·exact a5
  ·exact a6
  ·rfl
  ·exact a8
  ·exact a9
 unfold dtd
 rw [Z4]
 exact ⟨rfl,Z14.2 λi hi=>e i (by simpa using hi)⟩
theorem Qs7 {y m d:Int} (h:right y m d):mDate (dtxt y m d)=(y,m,d,0):=by
 obtain ⟨hy,hm1,hm2,hd1,hd2⟩:=Yt h
 have e1:tv 0 ((dtxt y m d).take 4)=y:=by
  show 10*(10*(10*(10*0+((cd (y/10/10/10)).toNat:Int)-48)+((cd (y/10/10)).toNat:Int)-48)+((cd (y/10)).toNat:Int)-48)+((cd y).toNat:Int)-48=y
  rw [Y2 (by omega),Y2 (by omega),Y2 (by omega),Y2 (by omega)];omega
 have e2:tv 0 (((dtxt y m d).drop 5).take 2)=m:=by
  show 10*(10*0+((cd (m/10)).toNat:Int)-48)+((cd m).toNat:Int)-48=m
  rw [Y2 (by omega),Y2 (by omega)];omega
 have e3:tv 0 ((dtxt y m d).drop 8)=d:=by
  show 10*(10*0+((cd (d/10)).toNat:Int)-48)+((cd d).toNat:Int)-48=d
  rw [Y2 (by omega),Y2 (by omega)];omega
 unfold mDate
 rw [e1,e2,e3,if_pos h]
theorem Qfq {y m d:Int} (h:right y m d) {c:UInt8} (hc:nmr c=false) (R:J1):tokOf (dtxt y m d++c::R)=(2,dtxt y m d,0):=by
 obtain ⟨hy,hm1,hm2,hd1,hd2⟩:=Yt h
 have hdt:=Qt8 (y:=y) (m:=m) (d:=d) (by omega) (by omega) (by omega)
 have hg:∀x∈dtxt y m d,nmr x=true:=λx hx=>by
  simp only [dtxt,Z67,List.not_mem_nil,or_false] at hx
  rcases hx with rfl|rfl|rfl|rfl|rfl|rfl|rfl|rfl|rfl|rfl
  ·exact Ys (Q9 (by omega))
  ·exact Ys (Q9 (by omega))
  ·exact Ys (Q9 (by omega))
  ·exact Ys (Q9 (by omega))
  ·rfl
  ·exact Ys (Q9 (by omega))
  ·exact Ys (Q9 (by omega))
  ·rfl
  ·exact Ys (Q9 (by omega))
  ·exact Ys (Q9 (by omega))
 have h0:=Q9 (v:=y/10/10/10) (by omega)
 have:=Qi2 (b:=cd (y/10/10/10)) (t:=(dtxt y m d).tail) (Qe5 h0) (by rw [h0];rfl) hg hc R
 rw [show cd (y/10/10/10)::(dtxt y m d).tail=dtxt y m d from rfl,if_pos hdt] at this
 exact this
theorem Qqg {n:Nat} (hn:n<=10^30):NumTok (decTxt n 2)/\mDec (decTxt n 2)=((n:Int),2,0):=by
 have hl:(txt n).length<=31:=Jg (by omega) (by decide)
 have hm:=Qoi (n:=n) (k:=2) (by decide) (by omega)
 have hp:=Qbk n 2
 have hpd:=Qk4 n 2
 have hdg:∀x∈padded n 2,dgt x=true:=λx hx=>by
  have:=hpd x hx
  unfold digit at this
  simp only [dgt,Z4,decide_eq_true_eq];exact this
 have hall:∀x∈decTxt n 2,dgt x=true\/x=46:=λx hx=>by
  unfold decTxt at hx
  rcases Z32.1 hx with hx|hx
  ·exact .inl (hdg x (Z43 hx))
  ·rcases Z67.1 hx with rfl|hx
   ·exact .inr rfl
   ·exact .inl (hdg x (Z59 hx))
 have hfirst:∃b t,decTxt n 2=b::t/\dgt b=true:=by
  cases hq:padded n 2 with
  |nil=>rw [hq] at hp;simp at hp
  |
   cons b t=>
   refine ⟨b,t.take ((padded n 2).length-2-1)++46::(padded n 2).drop ((padded n 2).length-2),?_,hdg b (by rw [hq];simp)⟩
   unfold decTxt
   conv=>lhs;arg 1;rw [hq]
   have:(b::t).length-2=((padded n 2).length-2-1)+1:=by rw [hq] at hp ⊢;omega
   rw [this,List.take_succ_cons];rfl
 obtain ⟨b,t,e,hb⟩:=hfirst
 refine ⟨⟨⟨b,t,e,Qe5 hb,by rw [hb];rfl⟩,λx hx=>?_,?_,by rw [hm]⟩,hm⟩
 ·rcases hall x hx with h|rfl
  ·exact Ys h
  ·rfl
 ·rw [Bool.eq_false_iff]
  intro hd
  obtain ⟨h10,_⟩:=Qbc hd
  have h4:=Qbt hd (i:=4) (.inl rfl)
  have hmem:(decTxt n 2).getD 4 0∈decTxt n 2:=by
   rw [Zl,Z1 (by omega)]
   exact Z10 _
  rcases hall _ hmem with h|h
  ·simp only [dgt,Z4,decide_eq_true_eq] at h;omega
  ·rw [h] at h4;simp at h4
def vk (e:Evt):Int:=if e.v=kDue then 0 else 1
theorem Qtq (h:NumTok kDue):False:=by
 obtain ⟨b,t,e,hb,_⟩:=h.hd
 have:b=100:=by simp only [kDue,List.cons.injEq] at e;exact e.1.symm
 subst this
 exact absurd hb (by decide)
theorem vtok {e:Evt} (ho:EvtOK e) (hc:Can e) (h3:e.k≠3) (R:J1):tokOf (vtxt e++59::R)=(vk e,vtxt e,0)/\vtxt e≠[]/\∀p,(mWorth e.k ⟨vk e,vtxt e,p⟩)=(0,e.v):=by
 have num:∀v:J1,NumTok v->tokOf (v++59::R)=(1,v,0)/\v≠[]:=λv hv=>by
  obtain ⟨b,t,e,hb,hd⟩:=hv.hd
  have:=Qi2 hb hd (by rw [<-e];exact hv.all) (c:=59) (by decide) R
  rw [<-e,if_neg (by rw [hv.dtd];simp),if_pos hv.dec] at this
  exact ⟨this,by rw [e];simp⟩
 by_cases h2:e.k=2
 ·have hn:=hc.rate h2
  have hd:e.v≠kDue:=λhh=>Qtq (hh▸hn)
  have e1:vtxt e=e.v:=by unfold vtxt;rw [if_pos (.inl h2)]
  have e2:vk e=1:=by unfold vk;rw [if_neg hd]
  rw [e1,e2]
  refine ⟨(num _ hn).1,(num _ hn).2,λp=>?_⟩
  unfold mWorth
  have hv:=ho.v
  rw [h2] at hv ⊢
  rw [if_neg (by simp),if_neg (by simp),if_pos rfl,hv]
 ·have hk:=ho.k
  rcases hc.paid (by omega) with ⟨hd,h0⟩|⟨n,n1,n2,hv⟩
  ·have e1:vtxt e=kDue:=by unfold vtxt;rw [if_pos (.inr hd),hd]
   have e2:vk e=0:=by unfold vk;rw [if_pos hd]
   rw [e1,e2,hd]
   refine ⟨Qds (b:=100) (t:=[117,101]) (by decide) (by decide) (by decide) R,by decide,λp=>?_⟩
   unfold mWorth
   rw [if_pos ⟨rfl,h0⟩,if_pos rfl]
  ·have hdg:=Qal n
   have hd:e.v≠kDue:=λhh=>by
    rw [hv] at hh
    have:=hdg 100 (by rw [hh];decide)
    unfold digit at this;simp at this
   have hl:(txt n).length<=31:=Jg (by omega) (by decide)
   have e1:vtxt e=decTxt n 2:=by
    unfold vtxt;rw [if_neg (λhh=>hh.elim h2 hd),hv,Qnq (by omega)];rfl
   have e2:vk e=1:=by unfold vk;rw [if_neg hd]
   obtain ⟨d1,d2⟩:=Qqg n2
   have hvl:=ho.v
   rw [e1,e2]
   refine ⟨(num _ d1).1,(num _ d1).2,λp=>?_⟩
   unfold mWorth
   have hi:itxt (n:Int)=e.v:=by rw [hv];unfold itxt;rw [if_neg (by omega)];rfl
   simp only [d2,hi,hvl]
   rw [if_neg (by omega),if_neg (by simp),if_neg h2,if_neg (by simp),if_neg (by simp)]
def Qaf:List Evt->List Tk->Prop
 |[],l=>l=[]
 |e::t,l=>∃p0 p1 p2 p3 l',l=⟨0,Q1 e.k,p0⟩::⟨2,dtxt e.y e.m e.d,p1⟩::(if e.k=3 then ⟨3,[59],p3⟩::l' else ⟨vk e,vtxt e,p2⟩::⟨3,[59],p3⟩::l')/\Qaf t l'
theorem Qdo {k:Int} (hk:0<=k/\k<=3):kindOf (Q1 k)=k/\∃b t,Q1 k=b::t/\ltr b=true/\(∀x∈b::t,wrd x=true):=by
 have:k=0\/k=1\/k=2\/k=3:=by omega
 rcases this with rfl|rfl|rfl|rfl
 ·exact ⟨by decide,112,[97,121],rfl,by decide,by decide⟩
 ·exact ⟨by decide,112,[114,101,112,97,121],rfl,by decide,by decide⟩
 ·exact ⟨by decide,114,[101,115,101,116],rfl,by decide,by decide⟩
 ·exact ⟨by decide,112,[97,115,115],rfl,by decide,by decide⟩
theorem Qr2 {e:Evt} (hk:0<=e.k/\e.k<=3) (S:J1):skp false (etxt e++S)=etxt e++S:=by
 obtain ⟨_,b,t,hw,hb,_⟩:=Qdo hk
 have hbn:97<=b.toNat/\b.toNat<=122:=by simpa [ltr] using hb
 unfold etxt
 rw [hw]
 refine Jz (by omega) ?_ _
 unfold bln
 rw [Zf (show ¬b.toNat=32 by omega),Zf (show ¬b.toNat=9 by omega),Zf (show ¬b.toNat=10 by omega),Zf (show ¬b.toNat=13 by omega)];rfl
theorem Qoy {N:Nat} {e:Evt} (ho:EvtOK e) (hc:Can e) {S:J1} {l:List Tk} (hl:lx N (skp false S)=(l,0,0)) :
  ∃p0 p1 p2 p3,lx N (etxt e++S)=(⟨0,Q1 e.k,p0⟩::⟨2,dtxt e.y e.m e.d,p1⟩::(if e.k=3 then ⟨3,[59],p3⟩::l else ⟨vk e,vtxt e,p2⟩::⟨3,[59],p3⟩::l),0,0):=by
 obtain ⟨_,b,t,hw,hb,hall⟩:=Qdo ho.k
 obtain ⟨hy,hm1,hm2,hd1,hd2⟩:=Yt ho.d
 have date_stay:∀R,skp false (dtxt e.y e.m e.d++R)=dtxt e.y e.m e.d++R:=λR=>by
  have h0:=Q9 (v:=e.y/10/10/10) (by omega)
  have hbn:48<=(cd (e.y/10/10/10)).toNat/\(cd (e.y/10/10/10)).toNat<=57:=by simpa [dgt] using h0
  refine Jz (b:=cd (e.y/10/10/10)) (by omega) ?_ _
  unfold bln
  rw [Zf (show ¬(cd (e.y/10/10/10)).toNat=32 by omega),Zf (show ¬(cd (e.y/10/10/10)).toNat=9 by omega),Zf (show ¬(cd (e.y/10/10/10)).toNat=10 by omega),Zf (show ¬(cd (e.y/10/10/10)).toNat=13 by omega)];rfl
 have end_stay:∀R,skp false (59::R)=59::R:=λR=>Jz (by decide) (by decide) R
 obtain ⟨p3,h3⟩:=Yy (N:=N) (k:=3) (T:=[59]) (R:=10::S) (Qig _) (by simp) (l:=l) (by rw [Qv9];exact hl)
 have h3':lx N (59::10::S)=(⟨3,[59],p3⟩::l,0,0):=h3
 by_cases hk:e.k=3
 ·obtain ⟨p1,h1⟩:=Yy (N:=N) (k:=2) (T:=dtxt e.y e.m e.d) (R:=59::10::S) (Qfq ho.d (by decide) _) (by simp [dtxt]) (l:=⟨3,[59],p3⟩::l) (by rw [end_stay,h3'])
  obtain ⟨p0,h0⟩:=Yy (N:=N) (k:=0) (T:=b::t) (R:=32::(dtxt e.y e.m e.d++59::10::S)) (Qds hb hall (by decide) _) (by simp) (l:=_) (by rw [Qdg,date_stay,h1])
  refine ⟨p0,p1,0,p3,?_⟩
  rw [if_pos hk]
  have e1:etxt e++S=(b::t)++32::(dtxt e.y e.m e.d++59::10::S):=by unfold etxt;rw [if_pos hk,hw];simp
  rw [e1,h0,hw]
 ·obtain ⟨v1,v2,_⟩:=vtok ho hc hk (10::S)
  obtain ⟨p2,h2⟩:=Yy (N:=N) (k:=vk e) (T:=vtxt e) (R:=59::10::S) v1 v2 (l:=⟨3,[59],p3⟩::l) (by rw [end_stay,h3'])
  have v_stay:skp false (vtxt e++59::10::S)=vtxt e++59::10::S:=by
   cases hq:vtxt e with
   |nil=>exact (v2 hq).elim
   |
    cons c u=>
    rw [hq] at v1
    have hcb:ltr c=true\/(dgt c||decide (c.toNat=45))=true:=by
     rw [List.cons_append] at v1
     unfold tokOf at v1
     rw [show (c::(u++59::10::S)).getD 0 0=c from rfl] at v1
     by_cases x1:ltr c=true
     ·exact .inl x1
     ·by_cases x2:(dgt c||decide (c.toNat=45))=true
      ·exact .inr x2
      ·rw [if_neg x1,if_neg x2] at v1
       split at v1
       ·have hv:vk e=3:=(Prod.mk.inj v1).1.symm
        unfold vk at hv;split at hv<;>omega
       ·have:=(Prod.mk.inj (Prod.mk.inj v1).2).2;simp at this
    have hn:c.toNat≠35/\bln c=false:=by
     simp only [ltr,dgt,Z64,Z4,decide_eq_true_eq] at hcb
     refine ⟨by omega,?_⟩
     unfold bln
     rw [Zf (show ¬c.toNat=32 by omega),Zf (show ¬c.toNat=9 by omega),Zf (show ¬c.toNat=10 by omega),Zf (show ¬c.toNat=13 by omega)];rfl
    exact Jz hn.1 hn.2 _
  obtain ⟨p1,h1⟩:=Yy (N:=N) (k:=2) (T:=dtxt e.y e.m e.d) (R:=32::(vtxt e++59::10::S)) (Qfq ho.d (by decide) _) (by simp [dtxt]) (l:=_) (by rw [Qdg,v_stay,h2])
  obtain ⟨p0,h0⟩:=Yy (N:=N) (k:=0) (T:=b::t) (R:=32::(dtxt e.y e.m e.d++32::(vtxt e++59::10::S))) (Qds hb hall (by decide) _) (by simp) (l:=_) (by rw [Qdg,date_stay,h1])
  refine ⟨p0,p1,p2,p3,?_⟩
  rw [if_neg hk]
  have e1:etxt e++S=(b::t)++32::(dtxt e.y e.m e.d++32::(vtxt e++59::10::S)):=by unfold etxt;rw [if_neg hk,hw];simp
  rw [e1,h0,hw]
theorem Qv2 {N:Int} {e:Evt} {t:List Evt} {l:List Tk} (ho:EvtOK e) (hc:Can e) (hs:Qaf (e::t) l) {y m d:Int} (hd:¬dcmp e.y e.m e.d y m d<0):∃l',mEvent N l y m d=.inr (e,l')/\Qaf t l'/\l≠[]/\l'.length<l.length:=by
 obtain ⟨p0,p1,p2,p3,l',rfl,hs⟩:=hs
 obtain ⟨hk,_⟩:=Qdo ho.k
 have hk0:=ho.k
 refine ⟨l',?_,hs,by simp,by split<;>simp only [Z8]<;>omega⟩
 obtain ⟨L2,h2⟩:∃L2,L2=(if e.k=3 then (⟨3,[59],p3⟩:Tk)::l' else ⟨vk e,vtxt e,p2⟩::⟨3,[59],p3⟩::l'):=⟨_,rfl⟩
 rw [<-h2]
 obtain ⟨L1,h1⟩:∃L1,L1=(⟨2,dtxt e.y e.m e.d,p1⟩:Tk)::L2:=⟨_,rfl⟩
 rw [<-h1]
 obtain ⟨L0,h0⟩:∃L0,L0=(⟨0,Q1 e.k,p0⟩:Tk)::L1:=⟨_,rfl⟩
 rw [<-h0]
 have a0:A.hd N L0=⟨0,Q1 e.k,p0⟩:=by rw [h0];rfl
 have b0:L0.tail=L1:=by rw [h0];rfl
 have a1:A.hd N L1=⟨2,dtxt e.y e.m e.d,p1⟩:=by rw [h1];rfl
 have b1:L1.tail=L2:=by rw [h1];rfl
 unfold mEvent
 rw [b0,b1,a0,a1]
 simp only [hk,Qs7 ho.d]
 rw [if_neg (by simp),if_neg (by omega),if_neg (by simp),if_neg (by simp),if_neg hd]
 by_cases h3:e.k=3
 ·rw [if_pos h3]
  rw [if_pos h3] at h2
  subst h2
  unfold mFin
  have hv:e.v=[]:=by
   have:=ho.v
   unfold mVal at this
   rw [if_pos h3] at this
   by_cases hn:e.v=[]
   ·exact hn
   ·rw [if_neg hn] at this;simp at this
  rw [if_pos (show (A.hd N ((⟨3,[59],p3⟩:Tk)::l')).k=3/\(A.hd N ((⟨3,[59],p3⟩:Tk)::l')).s=[59] from ⟨rfl,rfl⟩),<-hv];rfl
 ·rw [if_neg h3]
  rw [if_neg h3] at h2
  obtain ⟨_,_,hw⟩:=vtok ho hc h3 []
  have hw:=hw p2
  have a2:A.hd N L2=⟨vk e,vtxt e,p2⟩:=by rw [h2];rfl
  have b2:L2.tail=⟨3,[59],p3⟩::l':=by rw [h2];rfl
  rw [a2,b2,hw]
  unfold mFin
  rw [if_neg (by simp),if_pos (show (A.hd N ((⟨3,[59],p3⟩:Tk)::l')).k=3/\(A.hd N ((⟨3,[59],p3⟩:Tk)::l')).s=[59] from ⟨rfl,rfl⟩)];rfl
theorem Qt5 {L:List Evt} (hL:L.length<=10000) (hs:Seq 0 0 0 L):z104.F (L.map Evt.r)=some (stxt L,0):=by
 by_cases h:L=[]
 ·subst h;exact script_Print_nil
 ·exact script_Print hL h hs
theorem Qoj {e:Evt} (ho:EvtOK e) (hc:Can e):(etxt e).length<=820:=by
 have h1:=Qbd ho.k
 have h2:(dtxt e.y e.m e.d).length=10:=rfl
 have hv:e.k≠3->(vtxt e).length<=800:=λh3=>by
  by_cases h4:e.k=2\/e.v=kDue
  ·unfold vtxt;rw [if_pos h4];exact hc.len
  ·obtain ⟨_,p1,p2⟩:=Qbs (ho.paid h4 h3)
   unfold vtxt
   rw [if_neg h4]
   have hl:(txt (mWhole e.v).1.natAbs).length<=31:=Jg (by omega) (by decide)
   have hp:=Qbk (mWhole e.v).1.natAbs 2
   unfold decTxt
   rw [Z2,Z8,Z11,Z17]
   omega
 unfold etxt
 by_cases h3:e.k=3
 ·rw [if_pos h3];simp only [Z2,Z8,Z21];omega
 ·have:=hv h3
  rw [if_neg h3];simp only [Z2,Z8,Z21];omega
theorem Qfd:∀(L:List Evt),(∀e∈L,EvtOK e)->(∀e∈L,Can e)->(stxt L).length<=820*L.length
 |[],_,_=>by simp [stxt]
 |
  e::t,ho,hc=>by
  have h1:=Qoj (ho e (by simp)) (hc e (by simp))
  have h2:=Qfd t (λx hx=>ho x (by simp [hx])) (λx hx=>hc x (by simp [hx]))
  rw [Qbx,Z2,Z8];omega
theorem Qki {b:UInt8} (h:48<=b.toNat):ch ((b.toNat:Int)-48)=b:=by
 unfold ch
 have:48+((b.toNat:Int)-48).toNat=b.toNat:=by omega
 rw [this];simp
theorem Qp8:∀(k:Nat) (s:J1),s.length=k->numOK s=true->txt (tv 0 s).toNat=s:=by
 intro k
 induction k with
 |
  zero=>
  intro s hs h
  exact ((Qcs h).2.1 (Z6 hs)).elim
 |
  succ k ih=>
  intro s hs h
  obtain ⟨h1,h2,h3⟩:=Qcs h
  rcases List.eq_nil_or_concat s with h0|⟨t,b,h0⟩
  ·exact (h2 h0).elim
  ·rw [List.concat_eq_append] at h0
   have hb:=h1 b (by rw [h0];simp)
   unfold digit at hb
   have htv:tv 0 s=10*tv 0 t+(b.toNat:Int)-48:=by rw [h0,Qck];rfl
   by_cases ht:t=[]
   ·subst ht
    have e:(tv 0 s).toNat=b.toNat-48:=by rw [htv];show (10*0+(b.toNat:Int)-48).toNat=_;omega
    rw [e,h0]
    by_cases hz:b.toNat=48
    ·rw [hz]
     have:b=48:=UInt8.toNat_inj.1 hz
     subst this;rfl
    ·unfold txt
     rw [if_neg (by omega),Wv (by decide) (by omega),show (b.toNat-48)/10=0 by omega,toB_zero]
     have:(((b.toNat-48)%10:Nat):Int)=(b.toNat:Int)-48:=by omega
     simp only [this,List.reverse_cons,List.reverse_nil,Z85,List.map_cons,Z86,Qki hb.1]
   ·have hpos:=Z22.2 ht
    have hl:s.length=t.length+1:=by rw [h0];simp
    have hg:s.getD 0 0=t.getD 0 0:=by
     cases t with
     |nil=>exact (ht rfl).elim
     |cons c u=>rw [h0];rfl
    have hhd:=h3 (by omega)
    have hdt:Qu t:=λx hx=>h1 x (by rw [h0];simp [hx])
    have htOK:numOK t=true:=by
     unfold numOK
     rw [Zf ht,Yn.2 hdt,Zf (show ¬(t.getD 0 0).toNat=48 by rw [<-hg];exact hhd)];simp
    have hit:=ih t (by omega) htOK
    have hnz:(tv 0 t).toNat≠0:=λe=>by
     have:=(Qlz htOK).1 e
     rw [hg,this] at hhd;exact hhd rfl
    have hb0:=Yf hdt
    have e:(tv 0 s).toNat=10*(tv 0 t).toNat+(b.toNat-48):=by rw [htv];omega
    have hm:(10*(tv 0 t).toNat+(b.toNat-48))%10=b.toNat-48:=by omega
    have hd:(10*(tv 0 t).toNat+(b.toNat-48))/10=(tv 0 t).toNat:=by omega
    have:((b.toNat-48:Nat):Int)=(b.toNat:Int)-48:=by omega
    rw [e]
    unfold txt at hit ⊢
    rw [if_neg hnz] at hit
    rw [if_neg (by omega),Wv (by decide) (by omega),hm,hd,this]
    simp only [List.reverse_cons,Z63,List.map_cons,Z86,hit,Qki hb.1]
    exact h0.symm
theorem Qsv {s:J1} (h0:(mWhole s).2=0) (h1:0<(mWhole s).1):s=txt (mWhole s).1.toNat:=by
 unfold mWhole at h0 h1 ⊢
 by_cases hd:(mDigits (cutNeg s).1).2=0
 ·rw [if_neg (λhh=>hh hd)] at h0 h1 ⊢
  by_cases hb:(cutNeg s).2=true
  ·exfalso
   split at h1
   ·simp at h1
   ·simp only [hb,if_true] at h1;omega
  ·have hb':(cutNeg s).2=false:=by simpa using hb
   simp only [hb',Z54,Z16,if_false] at h1 ⊢
   have hs:(cutNeg s).1=s:=by
    cases s with
    |nil=>rfl
    |
     cons b t=>
     unfold cutNeg at hb' ⊢
     simp only at hb' ⊢
     split at hb'
     ·simp at hb'
     ·rename_i hh;rw [if_neg hh]
   rw [hs] at hd h1 ⊢
   unfold mDigits at hd h1 ⊢
   split at hd
   ·simp at hd
   ·rename_i hl
    split at hd
    ·rename_i hok
     rw [if_neg hl,if_pos hok]
     simp only [Zi]
     exact (Qp8 s.length s rfl hok).symm
    ·simp at hd
 ·rw [if_pos hd] at h1;simp at h1
theorem Qtl {v:J1} (h:(mDec v).2.2=0):NumTok v:=by
 have hdec:=h
 unfold mDec at h
 by_cases hl:4096<v.length
 ·rw [if_pos hl] at h;simp at h
 rw [if_neg hl] at h
 unfold Y0 at h
 split at h
 ·simp at h
 rename_i hc
 simp only [Z64,not_or,Z53,Bool.not_eq_false,Z4] at hc
 obtain ⟨⟨p1,p2⟩,p3⟩:=hc
 obtain ⟨d1,n1⟩:=Jw (by simpa using p1)
 have dg_of:∀{l:J1},Qu l->∀x∈l,dgt x=true:=λhd x hx=>by
  have:=hd x hx
  unfold digit at this
  simp only [dgt,Z4,decide_eq_true_eq];exact this
 have ht:(∀x∈(cutNeg v).1,dgt x=true\/x=46)/\∃c u,(cutNeg v).1=c::u/\dgt c=true:=by
  obtain ⟨c,u,hcu⟩:∃c u,(cutDot (cutNeg v).1).1=c::u:=by
   cases hq:(cutDot (cutNeg v).1).1 with
   |nil=>exact (n1 hq).elim
   |cons c u=>exact ⟨c,u,rfl⟩
  have hc0:dgt c=true:=dg_of d1 c (by rw [hcu];simp)
  cases ho:(cutDot (cutNeg v).1).2 with
  |
   none=>
   have e:=Qes ho
   refine ⟨λx hx=>.inl (dg_of d1 x (by rw [e];exact hx)),c,u,by rw [<-e];exact hcu,hc0⟩
  |
   some b=>
   have e:=Qeq ho
   have hb:plainB b=true:=by
    by_cases hpb:plainB b=true
    ·exact hpb
    ·exfalso
     apply p2
     rw [ho];exact ⟨rfl,by simpa using hpb⟩
   obtain ⟨d2,_⟩:=Jw hb
   refine ⟨λx hx=>?_,c,u++46::b,by rw [e,hcu];rfl,hc0⟩
   rw [e] at hx
   rcases Z32.1 hx with hx|hx
   ·exact .inl (dg_of d1 x hx)
   ·rcases Z67.1 hx with rfl|hx
    ·exact .inr rfl
    ·exact .inl (dg_of d2 x hx)
 obtain ⟨hall,c,u,hcu,hc0⟩:=ht
 have hn:∀x,dgt x=true\/x=46->nmr x=true:=λx hx=>by
  rcases hx with hx|rfl
  ·exact Ys hx
  ·rfl
 have hno:∀x,dgt x=true\/x=46->x.toNat≠45:=λx hx e=>by
  rcases hx with hx|rfl
  ·simp only [dgt,Z4,decide_eq_true_eq] at hx;omega
  ·simp at e
 cases v with
 |nil=>simp [cutNeg] at hcu
 |
  cons b t=>
  by_cases hb:b=45
  ·subst hb
   have e:(cutNeg (45::t)).1=t:=rfl
   rw [e] at hall hcu
   refine ⟨⟨45,t,rfl,by decide,by decide⟩,λx hx=>?_,?_,hdec⟩
   ·rcases Z67.1 hx with rfl|hx
    ·rfl
    ·exact hn x (hall x hx)
   ·rw [Bool.eq_false_iff]
    intro hd
    obtain ⟨h10,_⟩:=Qbc hd
    have h4:=Qbt hd (i:=4) (.inl rfl)
    have hlt:3<t.length:=by rw [Z8] at h10;omega
    have:(45::t).getD 4 0=t[3]:=by
     rw [Zl];simp [hlt]
    rw [this] at h4
    exact hno _ (hall _ (Z10 hlt)) h4
  ·have e:(cutNeg (b::t)).1=b::t:=by unfold cutNeg;simp only;rw [if_neg hb]
   rw [e] at hall hcu
   simp only [List.cons.injEq] at hcu
   obtain ⟨rfl,rfl⟩:=hcu
   refine ⟨⟨b,t,rfl,Qe5 hc0,by rw [hc0];rfl⟩,λx hx=>hn x (hall x hx),?_,hdec⟩
   rw [Bool.eq_false_iff]
   intro hd
   obtain ⟨h10,_⟩:=Qbc hd
   have h4:=Qbt hd (i:=4) (.inl rfl)
   have hlt:4<(b::t).length:=by omega
   have:(b::t).getD 4 0=(b::t)[4]:=by
    rw [Zl,Z1 hlt];rfl
   rw [this] at h4
   exact hno _ (hall _ (Z10 hlt)) h4
theorem Qui {e:Evt} (ho:EvtOK e) (hl:e.v.length<=800):Can e:=by
 refine ⟨λh2=>?_,λh2=>?_,hl⟩
 ·have hv:=ho.v
  unfold mVal at hv
  rw [if_neg (by omega),if_pos h2] at hv
  apply Qtl
  unfold Ju at hv
  by_cases hd:(mDec e.v).2.2=0
  ·exact hd
  ·rw [if_pos hd] at hv;exact hv
 ·by_cases h0:e.k=0/\e.v=kDue
  ·exact .inl ⟨h0.2,h0.1⟩
  ·have hv:=ho.v
   have hk:=ho.k
   unfold mVal at hv
   rw [if_neg (by omega),if_neg (by omega),if_neg h0] at hv
   obtain ⟨p0,p1,p2⟩:=Qbs hv
   refine .inr ⟨(mWhole e.v).1.toNat,by omega,?_,Qsv p0 p1⟩
   have:(mWhole e.v).1<=((10^30:Nat):Int):=p2
   omega
theorem Qil (y m d:Int):dcmp y m d y m d=0:=by
 unfold dcmp
 rw [if_neg (by omega),if_neg (by omega),if_neg (by omega),if_neg (by omega),if_neg (by omega),if_neg (by omega)]
theorem Qm4 {y m d:Int} (h:right y m d):¬dcmp y m d 0 0 0<0:=by
 obtain ⟨hy,_⟩:=Yt h
 unfold dcmp
 rw [if_neg (by omega),if_pos (by omega)];omega
theorem Qa5 {n:Int} (hn:0<=n/\n<1000000) {k:Nat} {i:Nat} (hi:i<k) (hk:k<=10) {s:J1} (hs:s.length<=100) (rec:(Int×J1×Int)->Option (Int×J1×Int)) :
  z118.l0P (k:Int) rec some (n,s,(i:Int))=rec (n/10,cd n::s,((i+1:Nat):Int)):=by
 have e1:Int.tdiv n 10=n/10:=Int.tdiv_eq_ediv_of_nonneg hn.1
 have e2:Int.tmod n 10=n%10:=Z34 hn.1
 unfold z118.l0P
 simp only
 rw [bif_t (by omega),e1,e2,Qg (n:=48+n%10) (by omega) (by omega),J7 (by omega) (by omega),Qg (n:=n/10) (by omega) (by omega),Qg (n:=(i:Int)+1) (by omega) (by omega),if_pos (by simp only [Z29,Z8,Z21];omega)]
 rfl
theorem Qj6 {n:Int} {k:Nat} {s:J1}:Runs (λrec x=>z118.l0P (k:Int) rec some x) (n,s,(k:Int)) (n,s,(k:Int)):=.done λrec=>by
 unfold z118.l0P
 simp only
 rw [Qc (by omega)]
theorem Qtx {y m d:Int} (h:right y m d):z119.F y m d=some (dtxt y m d):=by
 obtain ⟨hy,hm1,hm2,hd1,hd2⟩:=Yt h
 have r4:z118.F y 4=some [cd (y/10/10/10),cd (y/10/10),cd (y/10),cd y]:=by
  have r:Runs (λrec x=>z118.l0P ((4:Nat):Int) rec some x) (y,[],((0:Nat):Int)) (y/10/10/10/10,[cd (y/10/10/10),cd (y/10/10),cd (y/10),cd y],((4:Nat):Int)):=by
   refine .step (Qa5 (k:=4) (i:=0) (by omega) (by decide) (by decide) (by simp)) ?_
   refine .step (Qa5 (k:=4) (i:=1) (by omega) (by decide) (by decide) (by simp)) ?_
   refine .step (Qa5 (k:=4) (i:=2) (by omega) (by decide) (by decide) (by simp)) ?_
   refine .step (Qa5 (k:=4) (i:=3) (by omega) (by decide) (by decide) (by simp)) ?_
   exact Qj6
  have e:z118.l0 4 (y,[],0)=some _:=r.lfp
  unfold z118.F
  rw [e];rfl
 have r2:∀n:Int,0<=n/\n<100->z118.F n 2=some [cd (n/10),cd n]:=λn hn=>by
  have r:Runs (λrec x=>z118.l0P ((2:Nat):Int) rec some x) (n,[],((0:Nat):Int)) (n/10/10,[cd (n/10),cd n],((2:Nat):Int)):=by
   refine .step (Qa5 (k:=2) (i:=0) (by omega) (by decide) (by decide) (by simp)) ?_
   refine .step (Qa5 (k:=2) (i:=1) (by omega) (by decide) (by decide) (by simp)) ?_
   exact Qj6
  have e:z118.l0 2 (n,[],0)=some _:=r.lfp
  unfold z118.F
  rw [e];rfl
 unfold z119.F
 rw [r4,Zb,r2 m (by omega),Zb,r2 d (by omega),Zb]
 rw [if_pos (by simp),if_pos (by simp),if_pos (by simp),if_pos (by simp)]
 rfl
theorem Qv3 {n:Nat} (hn:n<=10^30):z137.F (dg (Int.natAbs (n:Int))) (neg (n:Int))=some (decTxt n 2):=by
 have hl:(txt n).length<=31:=Jg (by omega) (by decide)
 have hd:=Qde n
 have hsz:sz n<=31:=Q2 (k:=31) (by omega)
 have h:=Qv7 (n:=n) (k:=2) (by decide) (by omega) (by omega)
 have e:neg (n:Int)=false:=by unfold neg;exact Zf (by omega)
 unfold z137.F
 rw [e]
 rw [show dg (Int.natAbs (n:Int))=dg n from rfl,show (2:Int)=((2:Nat):Int) from rfl,h];rfl
theorem Qk3 {L:List Evt} (hL:L.length<=10000) (hok:∀e∈L,EvtOK e):∀(f i:Nat) (T:J1),i+f=L.length->T.length<=5000*i->Runs (λrec x=>z138.l0P (L.map Evt.r) We rec some x) (T,(i:Int)) (T++stxt (L.drop i),(L.length:Int))
 |
  0,i,T,h,hT=>by
  have l2:(L.map Evt.r).length=L.length:=by simp
  refine .done λrec=>?_
  unfold z138.l0P
  simp only
  rw [Qc (by omega),Z62 (by omega),show (i:Int)=(L.length:Int) by omega]
  simp [stxt]
 |
  f+1,i,T,h,hT=>by
  have hi:i<L.length:=by omega
  have ho:=hok L[i] (Z10 hi)
  have hl:=Qdh ho
  have hk:=ho.k
  have l2:(L.map Evt.r).length=L.length:=by simp
  have ih:=Qk3 hL hok f (i+1) (T++etxt L[i]) (by omega) (by rw [Z2];omega)
  have e:T++etxt L[i]++stxt (L.drop (i+1))=T++stxt (L.drop i):=by
   rw [Z31 hi,Qbx,Z70]
  rw [e] at ih
  refine .step (λrec=>?_) ih
  have c:(0:Int)<=(i:Int)/\(i:Int)<((L.map Evt.r).length:Int):=by omega
  have ck:(0:Int)<=L[i].k/\L[i].k<((We.length:Nat):Int):=by show 0<=L[i].k/\L[i].k<((4:Nat):Int);omega
  have h1:=Qbd ho.k
  have h2:(dtxt L[i].y L[i].m L[i].d).length=10:=rfl
  have hw:We.getD L[i].k.toNat []=Q1 L[i].k:=rfl
  have one:([32]:J1).length=1:=rfl
  have two:([59,10]:J1).length=2:=rfl
  unfold z138.l0P
  simp only
  rw [bif_t (by omega)]
  simp only [if_pos c,Zi,Qbm hi,eK,eY,eM,eD,eV,if_pos ck,hw]
  rw [Qtx ho.d,Zb,if_pos (by omega),if_pos (by rw [Z2,one];omega),if_pos (by simp only [Z2,one];omega)]
  rw [Qg (n:=(i:Int)+1) (by omega) (by omega)]
  by_cases h3:L[i].k=3
  ·rw [Qc (by omega)]
   have hv:L[i].v=[]:=by
    have:=ho.v
    unfold mVal at this
    rw [if_pos h3] at this
    by_cases hn:L[i].v=[]
    ·exact hn
    ·rw [if_neg hn] at this;simp at this
   rw [Zf (show ¬L[i].v=[100,117,101] by rw [hv];decide)]
   simp only [Zc]
   rw [Qc (by omega),if_pos (by simp only [Z2,one,two];omega)]
   have e2:T++Q1 L[i].k++[32]++dtxt L[i].y L[i].m L[i].d++[59,10]=T++etxt L[i]:=by unfold etxt;rw [if_pos h3];simp
   rw [e2];rfl
  ·have hvl:=Qf3 ho h3
   by_cases h4:L[i].k=2
   ·have ev:vtxt L[i]=L[i].v:=by unfold vtxt;rw [if_pos (.inl h4)]
    rw [ev] at hvl
    rw [bif_t h4,if_pos (by simp only [Z2,one];omega),if_pos (by simp only [Z2,one];omega),if_pos (by simp only [Z2,one,two];omega)]
    have e2:T++Q1 L[i].k++[32]++dtxt L[i].y L[i].m L[i].d++[32]++L[i].v++[59,10]=T++etxt L[i]:=by unfold etxt;rw [if_neg h3,ev];simp
    rw [e2];rfl
   ·rw [Qc h4]
    by_cases h5:L[i].v=kDue
    ·have ev:vtxt L[i]=L[i].v:=by unfold vtxt;rw [if_pos (.inr h5)]
     rw [ev] at hvl
     rw [Zt (show L[i].v=[100,117,101] from h5)]
     simp only [Zd]
     rw [if_pos (by simp only [Z2,one];omega),if_pos (by simp only [Z2,one];omega),if_pos (by simp only [Z2,one,two];omega)]
     have e2:T++Q1 L[i].k++[32]++dtxt L[i].y L[i].m L[i].d++[32]++L[i].v++[59,10]=T++etxt L[i]:=by unfold etxt;rw [if_neg h3,ev];simp
     rw [e2];rfl
    ·rw [Zf (show ¬L[i].v=[100,117,101] from h5)]
     simp only [Zc]
     have h6:¬(L[i].k=2\/L[i].v=kDue):=λhh=>hh.elim h4 h5
     have hpd:=ho.paid h6 h3
     obtain ⟨p0,p1,p2⟩:=Qbs hpd
     have ev:vtxt L[i]=decTxt (mWhole L[i].v).1.natAbs 2:=by unfold vtxt;rw [if_neg h6]
     rw [ev] at hvl
     have hn:((mWhole L[i].v).1.natAbs:Int)=(mWhole L[i].v).1:=by omega
     have em:mMoney L[i].v=((mWhole L[i].v).1,0):=by
      unfold mMoney
      rw [if_neg (λhh=>hh p0),if_neg (by omega)]
     have hp:=Qv3 (n:=(mWhole L[i].v).1.natAbs) (by omega)
     rw [hn] at hp
     have hvv:=ho.l
     rw [bif_t (by omega),Qo4 _ (by omega),em,Zb]
     simp only
     rw [hp,Zb,if_pos (by simp only [Z2,one];omega),if_pos (by simp only [Z2,one];omega),if_pos (by simp only [Z2,one,two];omega)]
     have e2:T++Q1 L[i].k++[32]++dtxt L[i].y L[i].m L[i].d++[32]++decTxt (mWhole L[i].v).1.natAbs 2++[59,10]=T++etxt L[i]:=by unfold etxt;rw [if_neg h3,ev];simp
     rw [e2];rfl
theorem Qwf {L:List Evt} (hL:L.length<=10000) (hok:∀e∈L,EvtOK e):z138.F (L.map Evt.r)=some (stxt L):=by
 have r:=Qk3 hL hok L.length 0 [] (by omega) (by simp)
 rw [Z65,Z85] at r
 have e:z138.l0 (L.map Evt.r) We ([],0)=some (stxt L,(L.length:Int)):=r.lfp
 unfold z138.F
 change ((z138.l0 (L.map Evt.r) We ([],0)).bind _)=_
 rw [e];rfl
end Go.Proofs.YtjfipepaaddlmaaGreatDoor.A
end
section
namespace Go.Proofs.YtjfipepaaddlmaaGreatDoor.A
open Go Go.RowKit Go.ChangeShapes Go.WideShapes Go.ChangeAt
abbrev MS:=Int×J2×Int×Int×Int
theorem Qat {z:Int} (h:0<=z/\z<=4294967296):(itxt z).length<=20/\sz z.natAbs<=100000000:=by
 have h1:sz z.natAbs<=10:=Q2 (k:=10) (by omega)
 have h2:=Qv4 z
 exact ⟨by omega,by omega⟩
end Go.Proofs.YtjfipepaaddlmaaGreatDoor.A
end
section
namespace Go.Proofs.YtjfipepaaddlmaaGreatDoor.A
open Go
theorem Qix {r z:List V} {K:Nat} (hK:K<=1000000):∀(f n:Nat),K-n<=f->1<=n->n<=K->Runs (λrec x=>z140.l0P rec some x) ((n:Int),List.replicate n r++List.replicate (K-n) z) ((K:Int),List.replicate K r)
 |
  f,n,h,h1,hn=>by
  have hl:(List.replicate n r++List.replicate (K-n) z).length=K:=by simp;omega
  by_cases he:n=K
  ·subst he
   refine .done λrec=>?_
   unfold z140.l0P
   simp only
   rw [hl,Qc (by omega)];simp
  ·match f,h with
   |0,h=>omega
   |
    f+1,h=>
    obtain ⟨m,hm⟩:∃m,m=min n (K-n):=⟨_,rfl⟩
    have hm1:1<=m/\n+m<=K:=by omega
    have ih:=Qix (r:=r) (z:=z) hK f (n+m) (by omega) (by omega) (by omega)
    refine .step (λrec=>?_) ih
    have e1:((List.replicate n r++List.replicate (K-n) z).drop 0).take n=List.replicate n r:=by
     rw [Z65,List.take_append_of_le_length (by simp)];simp
    have e2:(List.replicate n r++List.replicate (K-n) z).take n=List.replicate n r:=by
     rw [List.take_append_of_le_length (by simp)];simp
    have e3:(List.replicate n r++List.replicate (K-n) z).drop (n+m)=List.replicate (K-(n+m)) z:=by
     rw [List.drop_append,Z38,Z62 (by simp),Z85,List.drop_replicate]
     congr 1;omega
    unfold z140.l0P
    simp only
    rw [hl,bif_t (by omega),if_pos (by omega),if_pos (by omega)]
    simp only [Zi,e1,e2,Z38,<-hm,e3]
    rw [Qg (by omega) (by omega),List.take_replicate,show min m n=m by omega,List.replicate_append_replicate]
    rfl
theorem Qim (N:Int):∀(L:List Evt) (l:List Tk) (p y m d:Int) (acc:List Evt),Qaf L l->(∀t∈l,t.k=2->dtd t.s=true)->Seq y m d L->(∀e∈L,Can e)->acc.length<=10000 ->
  ∃x,Runs (λrec x=>z97.l0P rec some x) (l.map Tk.v,N,p,acc.map Evt.r,y,m,d) x/\if acc.length+L.length<=10000 then outP x=((acc++L).map Evt.r,0,0) else (outP x).1=[]/\(outP x).2.2=6
 |
  [],l,p,y,m,d,acc,hs,hl,hq,hc,ha=>by
  have:l=[]:=hs
  subst this
  refine ⟨.inl ([],N,p,acc.map Evt.r,y,m,d),.done λrec=>?_,?_⟩
  ·unfold z97.l0P
   simp only [Z86]
   rw [Qc (by simp)]
  ·rw [if_pos (by simpa using ha)];simp [outP]
 |
  e::t,l,p,y,m,d,acc,hs,hl,hq,hc,ha=>by
  obtain ⟨q1,q2,q3⟩:=hq
  have l2:(acc.map Evt.r).length=acc.length:=by simp
  by_cases hfull:acc.length=10000
  ·have hhd:∃pp u,l=⟨0,Q1 e.k,pp⟩::u:=by
    obtain ⟨p0,_,_,_,_,h,_⟩:=hs
    exact ⟨p0,_,h⟩
   obtain ⟨pp,u,rfl⟩:=hhd
   refine ⟨.inr ([],pp,6,(Tk.v ⟨0,Q1 e.k,pp⟩::u.map Tk.v),N,p,acc.map Evt.r,y,m,d),.done λrec=>?_,?_⟩
   ·unfold z97.l0P
    simp only [List.map_cons]
    have hg:∀(a:List V) (l:J2),(a::l).getD 0 []=a:=λ_ _=>rfl
    have hc0:(0:Int)<=0/\(0:Int)<((Tk.v ⟨0,Q1 e.k,pp⟩::u.map Tk.v).length:Int):=by simp only [Z8];omega
    rw [l2,bif_t (by simp only [Z8];omega),bif_t (by omega),if_pos hc0]
    simp only [hg,aK,aS,aP,if_pos hc0,decide_true,Zd]
   ·rw [if_neg (by simp only [Z8];omega)];exact ⟨rfl,rfl⟩
  ·obtain ⟨l',h1,h2,h3,h4⟩:=Qv2 (N:=N) q2 (hc e (by simp)) hs q1
   have hpos:=Z22.2 h3
   obtain ⟨R,hR,ho⟩:=Qid hl N p y m d
   rw [h1] at ho
   obtain ⟨q,rfl⟩:=ho
   obtain ⟨_,_,k,_,h5⟩:=Qi4 h1
   simp only at h5
   obtain ⟨x,hx,hx2⟩:=Qim N t l' q e.y e.m e.d (acc++[e]) h2 (λtk htk=>hl tk (by rw [h5] at htk;exact Z59 htk)) q3 (λx hx=>hc x (by simp [hx])) (by simp;omega)
   refine ⟨x,.step (λrec=>?_) hx,?_⟩
   ·have l1:(l.map Tk.v).length=l.length:=by simp
    unfold z97.l0P
    simp only
    rw [l1,l2,bif_t (by omega),Qc (by omega),hR,Zb]
    rw [show (!decide ((0:Int)=0))=false from rfl]
    simp only [Zc]
    rw [if_pos (by show (acc.length+1)*48<=_;omega)]
    simp only [Z63,List.map_cons,Z86];rfl
   ·have e1:(acc++[e]).length+t.length=acc.length+(e::t).length:=by simp;omega
    have e2:acc++[e]++t=acc++e::t:=by simp
    rw [e1,e2] at hx2
    exact hx2
def kd (y m d:Int):Int:=372*y+31*m+d
theorem Qtr {y m d y' m' d':Int} (h:right y m d) (h':right y' m' d') (hk:kd y' m' d'<=kd y m d):¬dcmp y m d y' m' d'<0:=by
 obtain ⟨_,a1,a2,a3,a4⟩:=Yt h
 obtain ⟨_,b1,b2,b3,b4⟩:=Yt h'
 unfold kd at hk
 unfold dcmp
 split
 ·omega
 ·split
  ·omega
  ·split
   ·omega
   ·split
    ·omega
    ·split
     ·omega
     ·split<;>omega
def lastOf:Int->Int->Int->List Evt->D3
 |y,m,d,[]=>(y,m,d)
 |_,_,_,e::t=>lastOf e.y e.m e.d t
theorem Qie:∀{L:List Evt} {y m d:Int} {e:Evt},Seq y m d L->EvtOK e->¬dcmp e.y e.m e.d (lastOf y m d L).1 (lastOf y m d L).2.1 (lastOf y m d L).2.2<0->Seq y m d (L++[e])
 |[],_,_,_,_,_,ho,hd=>⟨hd,ho,trivial⟩
 |a::t,_,_,_,_,h,ho,hd=>⟨h.1,h.2.1,Qie h.2.2 ho hd⟩
theorem Qlk:∀(L:List Evt) (y m d:Int) (e:Evt),lastOf y m d (L++[e])=(e.y,e.m,e.d)
 |[],_,_,_,_=>rfl
 |a::t,_,_,_,e=>Qlk t a.y a.m a.d e
theorem Qrw {y m d:Int} (h:right y m d):∃y' m' d' ok,z111.F y m d=some (y',m',d',ok)/\(ok=true->right y' m' d'/\kd y m d<=kd y' m' d'):=by
 obtain ⟨hy,hm1,hm2,hd1,hd2⟩:=Yt h
 unfold z111.F
 rw [Qfs,Zb]
 by_cases h1:d<dDays y m
 ·rw [bif_t h1,Qg (by omega) (by omega)]
  exact ⟨_,_,_,_,rfl,λ_=>⟨⟨by omega,by omega⟩,by unfold kd;omega⟩⟩
 ·rw [Qc h1]
  by_cases h2:m<12
  ·rw [bif_t h2,Qg (by omega) (by omega)]
   have:=Qgf (y:=y) (m:=m+1) hy (by omega)
   exact ⟨_,_,_,_,rfl,λ_=>⟨⟨by omega,by omega⟩,by unfold kd;omega⟩⟩
  ·rw [Qc h2,Qg (by omega) (by omega)]
   refine ⟨_,_,_,_,rfl,λhk=>?_⟩
   simp only [decide_eq_true_eq] at hk
   have:=Qgf (y:=y+1) (m:=1) (by omega) (by omega)
   exact ⟨⟨by omega,by omega⟩,by unfold kd;omega⟩
theorem Qe9 {D:J0} {i:Nat} (hi:i<D.length) (hi2:i<=100) (hD:0<=D.getD i 0/\D.getD i 0<256):∀(f k:Nat) (y m d:Int),k+f=((D.getD i 0)%71).toNat->right y m d->∃y' m' d',Runs (λrec x=>z115.l2P (i:Int) D rec some x) ((k:Int),y,m,d) ((((D.getD i 0)%71).toNat:Int),y',m',d')/\right y' m' d'/\kd y m d<=kd y' m' d'
 |
  0,k,y,m,d,h,hr=>by
  have e2:Int.tmod (D.getD i 0) 71=(D.getD i 0)%71:=Z34 hD.1
  refine ⟨y,m,d,.done λrec=>?_,hr,Int.le_refl _⟩
  unfold z115.l2P
  simp only
  rw [if_pos (by omega),Zi,Qg (by omega) (by omega),e2,Qc (by omega)]
  congr 2;omega
 |
  f+1,k,y,m,d,h,hr=>by
  have e2:Int.tmod (D.getD i 0) 71=(D.getD i 0)%71:=Z34 hD.1
  obtain ⟨y1,m1,d1,ok,hn,hok⟩:=Qrw hr
  have hst:∀rec:(Int×Int×Int×Int)->Option (Int×Int×Int×Int),z115.l2P (i:Int) D rec some ((k:Int),y,m,d)=if ok=true then rec (((k+1:Nat):Int),y1,m1,d1) else rec (((k+1:Nat):Int),y,m,d):=λrec=>by
   unfold z115.l2P
   simp only
   rw [if_pos (by omega),Zi,Qg (by omega) (by omega),e2,bif_t (by omega),hn,Zb,Qg (n:=(k:Int)+1) (by omega) (by omega)]
   cases ok<;>rfl
  cases ok with
  |
   true=>
   obtain ⟨g1,g2⟩:=hok rfl
   obtain ⟨y',m',d',r,hr',hk'⟩:=Qe9 hi hi2 hD f (k+1) y1 m1 d1 (by omega) g1
   exact ⟨y',m',d',.step (λrec=>by rw [hst,if_pos rfl]) r,hr',by omega⟩
  |
   false=>
   obtain ⟨y',m',d',r,hr',hk'⟩:=Qe9 hi hi2 hD f (k+1) y m d (by omega) hr
   exact ⟨y',m',d',.step (λrec=>by rw [hst,if_neg (by simp)]) r,hr',hk'⟩
theorem Que {n:Nat} (h0:0<n) (h:n<=10^30):Jf (txt n)=0:=by
 unfold Jf
 rw [Qur h,if_neg (by simp),if_neg (by simp only;omega)]
theorem Qr7 {n:Nat} (h:n<=10^30):mDec (txt n)=((n:Int),0,0):=by
 have hl:(txt n).length<=31:=Jg (by omega) (by decide)
 have hd:=Qal n
 have hok:=Qm5 n
 obtain ⟨_,hne,hz⟩:=Qcs hok
 have hcd:cutDot (txt n)=(txt n,none):=by
  have:∀{s:J1},Qu s->cutDot s=(s,none):=by
   intro s
   induction s with
   |nil=>intro _;rfl
   |
    cons b t ih=>
    intro h
    have hb:=h b (by simp)
    unfold digit at hb
    unfold cutDot
    rw [if_neg (by rintro rfl;simp at hb),ih λx hx=>h x (by simp [hx])]
  exact this hd
 have hpl:plainB (txt n)=true:=by
  unfold plainB
  rw [Zf hne,Yn.2 hd];rfl
 have hlead:(decide (1<(txt n).length)&&decide (((txt n).getD 0 0).toNat=48))=false:=by
  by_cases h1:1<(txt n).length
  ·rw [Zf (hz h1),Bool.and_false]
  ·rw [Zf h1,Z54]
 unfold mDec
 rw [if_neg (by omega),Qg1 hd,hcd]
 unfold Y0
 simp only [hpl,hlead,Option.isSome_none,Zn,Z54,Bool.or_self,Z16,if_false,Option.getD_none,Z21,Z35]
 rw [if_neg (by decide),Qgn]
theorem Qrs {n:Nat} (h:n<900):mVal 2 (txt n)=0:=by
 unfold mVal
 rw [if_neg (by decide),if_pos rfl]
 unfold Ju
 rw [Qr7 (by omega)]
 simp only [ne_eq,not_true_eq_false,if_false]
 rw [if_neg (by simp only [Nat.pow_zero];omega)]
theorem Qpk {k v y m d:Int} (hk:0<=k/\k<256) (hv:1<=v/\v<=4294967296) (hr:right y m d) :
  ((Int.tmod k 4=3->EvtOK ⟨Int.tmod k 4,y,m,d,[]⟩)/\(Int.tmod k 4=2->EvtOK ⟨Int.tmod k 4,y,m,d,itxt (v%900)⟩)/\(Int.tmod k 4=0->EvtOK ⟨Int.tmod k 4,y,m,d,kDue⟩)/\(Int.tmod k 4<2->EvtOK ⟨Int.tmod k 4,y,m,d,itxt v⟩))/\0<=Int.tmod k 4/\Int.tmod k 4<=3:=by
 have e:Int.tmod k 4=k%4:=Z34 hk.1
 have hk4:0<=Int.tmod k 4/\Int.tmod k 4<=3:=by rw [e];omega
 generalize Int.tmod k 4=q at *
 have it:∀z:Int,0<=z->itxt z=txt z.toNat:=λz hz=>by
  unfold itxt;rw [if_neg (by omega)]
  congr 1;omega
 refine ⟨⟨λh=>?_,λh=>?_,λh=>?_,λh=>?_⟩,hk4⟩
 ·subst h;exact ⟨⟨by simp only;omega,by simp only;omega⟩,hr,rfl,by simp⟩
 ·subst h
  have l:=(Qat (z:=v%900) (by omega)).1
  exact ⟨⟨by simp only;omega,by simp only;omega⟩,hr,by rw [it _ (by omega)];exact Qrs (by omega),by show (itxt (v%900)).length<=4096;omega⟩
 ·subst h
  exact ⟨⟨by simp only;omega,by simp only;omega⟩,hr,rfl,by show kDue.length<=4096;decide⟩
 ·have l:=(Qat (z:=v) (by omega)).1
  refine ⟨by show 0<=q/\q<=3;omega,hr,?_,by show (itxt v).length<=4096;omega⟩
  show mVal q (itxt v)=0
  unfold mVal
  rw [if_neg (by omega),if_neg (by omega)]
  split
  ·rfl
  ·rw [it _ (by omega)];exact Que (by omega) (by omega)
structure Qex (e:Evt) (o:Int×Int×Int×Int):Prop where
 ok:EvtOK e
 len:e.v.length<=200
 y:e.y=o.2.1
 m:e.m=o.2.2.1
 d:e.d=o.2.2.2
theorem Qg0 {acc:List Evt} (hacc:acc.length<=100) {i:Nat} (hi:i<=100) {k v:Int} (hk:0<=k/\k<256) (hv:1<=v/\v<=4294967296) {o:Int×Int×Int×Int} (hr:right o.2.1 o.2.2.1 o.2.2.2) {t:J1}
  (ht:(Int.tmod k 4=3/\t=[])\/(Int.tmod k 4=2/\t=itxt (v%900))\/(Int.tmod k 4<2/\t=itxt v)) :
  ∃e:Evt,Qex e o/\∀rec:MS->Option MS,z115.j1021a rec some k (acc.map Evt.r) o (i:Int) t=rec (((i+1:Nat):Int),(acc++[e]).map Evt.r,o.2.1,o.2.2.1,o.2.2.2):=by
 have w:wr .i64 ((i:Int)+1)=((i+1:Nat):Int):=by rw [Qg (by omega) (by omega)];rfl
 obtain ⟨⟨g3,g2,g0,g1⟩,hk4⟩:=Qpk (y:=o.2.1) (m:=o.2.2.1) (d:=o.2.2.2) hk hv hr
 have push:∀(v:J1) (rec:MS->Option MS),(if ((acc.map Evt.r).length+(([[(.int .i64 (Int.tmod k (4:Int))),(.int .i64 o.2.1),(.int .i64 o.2.2.1),(.int .i64 o.2.2.2),(.str v)]]:J2)).length)*48<=140737488355328 then (rec ((wr .i64 ((i:Int)+(1:Int))),((acc.map Evt.r)++([[(.int .i64 (Int.tmod k (4:Int))),(.int .i64 o.2.1),(.int .i64 o.2.2.1),(.int .i64 o.2.2.2),(.str v)]]:J2)),o.2.1,o.2.2.1,o.2.2.2)) else none)=rec (((i+1:Nat):Int),(acc++[(⟨Int.tmod k 4,o.2.1,o.2.2.1,o.2.2.2,v⟩:Evt)]).map Evt.r,o.2.1,o.2.2.1,o.2.2.2):=λv rec=>by
  have l2:(acc.map Evt.r).length=acc.length:=by simp
  rw [l2,if_pos (by show (acc.length+1)*48<=_;omega),w,Z63];rfl
 have tok:EvtOK ⟨Int.tmod k 4,o.2.1,o.2.2.1,o.2.2.2,t⟩/\t.length<=200:=by
  rcases ht with ⟨h,rfl⟩|⟨h,rfl⟩|⟨h,rfl⟩
  ·exact ⟨g3 h,by simp⟩
  ·have l:=(Qat (z:=v%900) (by omega)).1
   exact ⟨g2 h,by omega⟩
  ·have l:=(Qat (z:=v) (by omega)).1
   exact ⟨g1 h,by omega⟩
 by_cases h0:Int.tmod k 4=0
 ·by_cases h1:Int.tmod (wr .i64 (Int.tdiv k 4)) 3=0
  ·refine ⟨⟨Int.tmod k 4,o.2.1,o.2.2.1,o.2.2.2,t⟩,⟨tok.1,tok.2,rfl,rfl,rfl⟩,λrec=>?_⟩
   unfold z115.j1021a
   rw [bif_t h0,Zt h1]
   exact push t rec
  ·refine ⟨⟨Int.tmod k 4,o.2.1,o.2.2.1,o.2.2.2,kDue⟩,⟨g0 h0,(show kDue.length<=200 by decide),rfl,rfl,rfl⟩,λrec=>?_⟩
   unfold z115.j1021a
   rw [bif_t h0,Zf h1]
   exact push kDue rec
 ·refine ⟨⟨Int.tmod k 4,o.2.1,o.2.2.1,o.2.2.2,t⟩,⟨tok.1,tok.2,rfl,rfl,rfl⟩,λrec=>?_⟩
  unfold z115.j1021a
  rw [Qc h0]
  exact push t rec
theorem Qlo {acc:List Evt} (hacc:acc.length<=100) {i:Nat} (hi:i<=100) {k v:Int} (hk:0<=k/\k<256) (hv:1<=v/\v<=4294967296) {o:Int×Int×Int×Int} (hr:right o.2.1 o.2.2.1 o.2.2.2) :
  ∃e:Evt,Qex e o/\∀rec:MS->Option MS,z115.j1015a rec some v k (acc.map Evt.r) o (i:Int)=rec (((i+1:Nat):Int),(acc++[e]).map Evt.r,o.2.1,o.2.2.1,o.2.2.2):=by
 have e2:Int.tmod v 900=v%900:=Z34 (by omega)
 have e4:Int.tmod k 4=k%4:=Z34 hk.1
 by_cases h2:Int.tmod k 4=2
 ·obtain ⟨l1,l2⟩:=Qat (z:=v%900) (by omega)
  obtain ⟨e,h3,h4⟩:=Qg0 hacc hi hk hv hr (t:=itxt (v%900)) (.inr (.inl ⟨h2,rfl⟩))
  refine ⟨e,h3,λrec=>?_⟩
  unfold z115.j1015a
  rw [Qa1 (z:=v) (by omega),Zb,bif_t h2,e2,Qa1 (z:=v%900) (by omega),Zb]
  unfold z115.j1019a
  rw [Zf (show ¬Int.tmod k 4=3 by omega)]
  simp only [Zo,Zd]
  rw [Qi8 l2,Zb]
  exact h4 rec
 ·by_cases h3:Int.tmod k 4=3
  ·obtain ⟨e,g3,g4⟩:=Qg0 hacc hi hk hv hr (t:=[]) (.inl ⟨h3,rfl⟩)
   refine ⟨e,g3,λrec=>?_⟩
   unfold z115.j1015a
   rw [Qa1 (z:=v) (by omega),Zb,Qc h2]
   unfold z115.j1019a
   rw [Zt h3]
   exact g4 rec
  ·obtain ⟨l1,l2⟩:=Qat (z:=v) (by omega)
   obtain ⟨e,g3,g4⟩:=Qg0 hacc hi hk hv hr (t:=itxt v) (.inr (.inr ⟨by omega,rfl⟩))
   refine ⟨e,g3,λrec=>?_⟩
   unfold z115.j1015a
   rw [Qa1 (z:=v) (by omega),Zb,Qc h2]
   unfold z115.j1019a
   rw [Zf h3]
   simp only [Zo,Zd]
   rw [Qi8 l2,Zb]
   exact g4 rec
structure Made (acc:List Evt) (y m d:Int):Prop where
 seq:Seq 0 0 0 acc
 len:∀e∈acc,e.v.length<=200
 r:right y m d
 ahead:∀y' m' d',right y' m' d'->kd y m d<=kd y' m' d'->¬dcmp y' m' d' (lastOf 0 0 0 acc).1 (lastOf 0 0 0 acc).2.1 (lastOf 0 0 0 acc).2.2<0
theorem Qnl {D K U:J0} (hD:∀n∈D,0<=n/\n<256) (hK:∀n∈K,0<=n/\n<256) (hU:∀n∈U,0<=n/\n<4294967296):∀(f i:Nat) (acc:List Evt) (y m d:Int),i+f=16->acc.length<=i->Made acc y m d ->
  ∃x:MS,∃E:List Evt,Runs (λrec x=>z115.l0P D K U rec some x) ((i:Int),acc.map Evt.r,y,m,d) x/\x.2.1=E.map Evt.r/\E.length<=16/\∃y' m' d',Made E y' m' d'
 |
  0,i,acc,y,m,d,h,ha,hv=>by
  refine ⟨((i:Int),acc.map Evt.r,y,m,d),acc,.done λrec=>?_,rfl,by omega,_,_,_,hv⟩
  unfold z115.l0P
  simp only
  by_cases hl:(i:Int)<((D.length:Nat):Int)
  ·rw [bif_t hl,Qc (by omega)]
  ·rw [Qc hl]
 |
  f+1,i,acc,y,m,d,h,ha,hv=>by
  by_cases hl:i<D.length
  ·have mem:∀{l:J0} {j:Nat},j<l.length->l.getD j 0∈l:=λ{l j} hj=>by
    rw [Zl,Z1 hj];exact Z10 hj
   obtain ⟨y1,m1,d1,r,hr1,hkd⟩:=Qe9 hl (by omega) (hD _ (mem hl)) _ 0 y m d (Z25 _) hv.r
   have e1:z115.l2 (i:Int) D (0,y,m,d)=some ((((D.getD i 0)%71).toNat:Int),y1,m1,d1):=r.lfp
   generalize ((((D.getD i 0)%71).toNat:Nat):Int)=q at e1
   have hval:∀k:Int,0<=k/\k<256->∃e:Evt,Qex e (q,y1,m1,d1)/\∀rec:MS->Option MS,z115.j1014a rec some (i:Int) U k (acc.map Evt.r) (q,y1,m1,d1)=rec (((i+1:Nat):Int),(acc++[e]).map Evt.r,y1,m1,d1):=λk hk=>by
    by_cases hu:i<U.length
    ·have:=hU _ (mem hu)
     obtain ⟨e,h1,h2⟩:=Qlo (acc:=acc) (by omega) (i:=i) (by omega) hk (v:=1+U.getD i 0) (by omega) (o:=(q,y1,m1,d1)) hr1
     refine ⟨e,h1,λrec=>?_⟩
     unfold z115.j1014a
     rw [bif_t (by omega),if_pos (by omega),Zi,Qg (n:=U.getD i 0) (by omega) (by omega),Qg (by omega) (by omega)]
     exact h2 rec
    ·obtain ⟨e,h1,h2⟩:=Qlo (acc:=acc) (by omega) (i:=i) (by omega) hk (v:=100*((i:Int)+1)) (by omega) (o:=(q,y1,m1,d1)) hr1
     refine ⟨e,h1,λrec=>?_⟩
     unfold z115.j1014a
     rw [Qc (by omega),Qg (n:=(i:Int)+1) (by omega) (by omega),Qg (by omega) (by omega)]
     exact h2 rec
   have hkind:∃k:Int,(0<=k/\k<256)/\∀rec:MS->Option MS,z115.l0P D K U rec some ((i:Int),acc.map Evt.r,y,m,d)=z115.j1014a rec some (i:Int) U k (acc.map Evt.r) (q,y1,m1,d1):=by
    by_cases hk:i<K.length
    ·have:=hK _ (mem hk)
     refine ⟨K.getD i 0,this,λrec=>?_⟩
     unfold z115.l0P
     simp only
     rw [bif_t (by omega),bif_t (by omega),e1,Zb,bif_t (by omega),if_pos (by omega),Zi,Qg (by omega) (by omega)]
    ·refine ⟨(i:Int),by omega,λrec=>?_⟩
     unfold z115.l0P
     simp only
     rw [bif_t (by omega),bif_t (by omega),e1,Zb,Qc (by omega)]
   obtain ⟨k,hk,hst⟩:=hkind
   obtain ⟨e,he,hev⟩:=hval k hk
   have hm:Made (acc++[e]) y1 m1 d1:=by
    refine ⟨Qie hv.seq he.ok (by rw [he.y,he.m,he.d];exact hv.ahead y1 m1 d1 hr1 hkd),λe' h'=>?_,hr1,λy' m' d' h' hk'=>?_⟩
    ·rcases Z32.1 h' with h'|h'
     ·exact hv.len e' h'
     ·simp only [List.mem_singleton] at h';subst h';exact he.len
    ·rw [Qlk,he.y,he.m,he.d];exact Qtr h' hr1 hk'
   obtain ⟨x,E,hx,h1,h2,h3⟩:=Qnl hD hK hU f (i+1) (acc++[e]) y1 m1 d1 (by omega) (by simp;omega) hm
   exact ⟨x,E,.step (λrec=>by rw [hst,hev]) hx,h1,h2,h3⟩
  ·refine ⟨((i:Int),acc.map Evt.r,y,m,d),acc,.done λrec=>?_,rfl,by omega,_,_,_,hv⟩
   unfold z115.l0P
   simp only
   rw [Qc (by omega)]
theorem Qup {D K U:J0} (hD:∀n∈D,0<=n/\n<256) (hK:∀n∈K,0<=n/\n<256) (hU:∀n∈U,0<=n/\n<4294967296) {a b c y m d:Int} (hr:right y m d) :
  ∃E:List Evt,z115.F a b c D K U y m d=some (E.map Evt.r)/\E.length<=16/\∃y' m' d',Made E y' m' d':=by
 obtain ⟨x,E,hx,h1,h2,h3⟩:=Qnl hD hK hU 16 0 [] y m d (by omega) (by simp) ⟨trivial,by simp,hr,λy' m' d' h' _=>Qm4 h'⟩
 have e:z115.l0 D K U (0,[],y,m,d)=some x:=hx.lfp
 refine ⟨E,?_,h2,h3⟩
 unfold z115.F
 rw [e,Zb,h1]
end Go.Proofs.YtjfipepaaddlmaaGreatDoor.A
end
section
namespace Go.Proofs.YtjfipepaaddlmaaGreatDoor.A
open Go Go.RowKit Go.ChangeShapes Go.WideShapes Go.ChangeAt
theorem Qmv (N:Nat) {S:J1} {M:List Evt} {l:List Tk} (hS:skp false S=S) (hl:lx N S=(l,0,0)) (hM:Qaf M l):∀(L:List Evt),(∀e∈L,EvtOK e)->(∀e∈L,Can e)->∃l',lx N (stxt L++S)=(l',0,0)/\Qaf (L++M) l'/\skp false (stxt L++S)=stxt L++S
 |[],_,_=>⟨l,hl,hM,hS⟩
 |
  e::t,ho,hc=>by
  obtain ⟨l1,h1,h2,h3⟩:=Qmv N hS hl hM t (λx hx=>ho x (by simp [hx])) (λx hx=>hc x (by simp [hx]))
  obtain ⟨p0,p1,p2,p3,h4⟩:=Qoy (N:=N) (ho e (by simp)) (hc e (by simp)) (S:=stxt t++S) (l:=l1) (by rw [h3];exact h1)
  have e1:stxt (e::t)++S=etxt e++(stxt t++S):=by rw [Qbx,Z70]
  rw [e1]
  exact ⟨_,h4,⟨p0,p1,p2,p3,l1,rfl,h2⟩,Qr2 (ho e (by simp)).k _⟩
def ltxt (e:Evt):J1:=Q1 e.k++32::dtxt e.y e.m e.d++[59]
theorem Qv1 {N:Nat} {e:Evt} (ho:EvtOK e) (h3:e.k=3) {S:J1} {l:List Tk} (hS:skp false S=S) (hl:lx N S=(l,0,0)) :
  (∃p0 p1 p3,lx N (ltxt e++S)=(⟨0,Q1 e.k,p0⟩::⟨2,dtxt e.y e.m e.d,p1⟩::⟨3,[59],p3⟩::l,0,0))/\skp false (ltxt e++S)=ltxt e++S:=by
 obtain ⟨_,b,t,hw,hb,hall⟩:=Qdo ho.k
 obtain ⟨hy,hm1,hm2,hd1,hd2⟩:=Yt ho.d
 have hbn:97<=b.toNat/\b.toNat<=122:=by simpa [ltr] using hb
 have date_stay:∀R,skp false (dtxt e.y e.m e.d++R)=dtxt e.y e.m e.d++R:=λR=>by
  have h0:=Q9 (v:=e.y/10/10/10) (by omega)
  have hbn:48<=(cd (e.y/10/10/10)).toNat/\(cd (e.y/10/10/10)).toNat<=57:=by simpa [dgt] using h0
  refine Jz (b:=cd (e.y/10/10/10)) (by omega) ?_ _
  unfold bln
  rw [Zf (show ¬(cd (e.y/10/10/10)).toNat=32 by omega),Zf (show ¬(cd (e.y/10/10/10)).toNat=9 by omega),Zf (show ¬(cd (e.y/10/10/10)).toNat=10 by omega),Zf (show ¬(cd (e.y/10/10/10)).toNat=13 by omega)];rfl
 have end_stay:∀R,skp false (59::R)=59::R:=λR=>Jz (by decide) (by decide) R
 obtain ⟨p3,h3⟩:=Yy (N:=N) (k:=3) (T:=[59]) (R:=S) (Qig _) (by simp) (l:=l) (by rw [hS];exact hl)
 have h3':lx N (59::S)=(⟨3,[59],p3⟩::l,0,0):=h3
 obtain ⟨p1,h1⟩:=Yy (N:=N) (k:=2) (T:=dtxt e.y e.m e.d) (R:=59::S) (Qfq ho.d (by decide) _) (by simp [dtxt]) (l:=⟨3,[59],p3⟩::l) (by rw [end_stay,h3'])
 obtain ⟨p0,h0⟩:=Yy (N:=N) (k:=0) (T:=b::t) (R:=32::(dtxt e.y e.m e.d++59::S)) (Qds hb hall (by decide) _) (by simp) (l:=_) (by rw [Qdg,date_stay,h1])
 have e1:ltxt e++S=(b::t)++32::(dtxt e.y e.m e.d++59::S):=by unfold ltxt;rw [hw];simp
 refine ⟨⟨p0,p1,p3,by rw [e1,h0,hw]⟩,?_⟩
 rw [e1]
 refine Jz (by omega) ?_ _
 unfold bln
 rw [Zf (show ¬b.toNat=32 by omega),Zf (show ¬b.toNat=9 by omega),Zf (show ¬b.toNat=10 by omega),Zf (show ¬b.toNat=13 by omega)];rfl
theorem Qkx (N:Nat) {e:Evt} (ho:EvtOK e) (h3:e.k=3):∀k:Nat,∃l,lx N (Lib.repeatL (ltxt e) k)=(l,0,0)/\Qaf (List.replicate k e) l/\skp false (Lib.repeatL (ltxt e) k)=Lib.repeatL (ltxt e) k
 |0=>⟨[],lx_nil N,rfl,rfl⟩
 |
  k+1=>by
  obtain ⟨l,h1,h2,h4⟩:=Qkx N ho h3 k
  obtain ⟨⟨p0,p1,p3,h5⟩,h6⟩:=Qv1 (N:=N) ho h3 h4 h1
  refine ⟨_,h5,⟨p0,p1,0,p3,l,by rw [if_pos h3],h2⟩,h6⟩
theorem Qgj:∀{L M:List Evt} {y m d:Int},Seq y m d L->Seq (lastOf y m d L).1 (lastOf y m d L).2.1 (lastOf y m d L).2.2 M->Seq y m d (L++M)
 |[],_,_,_,_,_,h=>h
 |e::t,M,_,_,_,h,h'=>⟨h.1,h.2.1,Qgj h.2.2 h'⟩
theorem Qe4 {e:Evt} (ho:EvtOK e):∀(k:Nat) (y m d:Int),¬dcmp e.y e.m e.d y m d<0->Seq y m d (List.replicate k e)
 |0,_,_,_,_=>trivial
 |k+1,_,_,_,h=>⟨h,ho,Qe4 ho k e.y e.m e.d (by rw [Qil];omega)⟩
theorem Qow {e:Evt} (h3:e.k=3) (hv:e.v=[]):Can e:=⟨λh=>by omega,λh=>by omega,by rw [hv];simp⟩
theorem Qvf {k:Int} (hk:0<=k/\k<=20000):z139.F 1 k=some (0,k):=by
 unfold z139.F
 rw [Qm0 (by omega) (by omega)]
 have e1:1*k/18446744073709551616=0:=by omega
 have e2:1*k%18446744073709551616=k:=by omega
 simp only [Zb,e1,e2]
 try rw [Qq (by omega) (by omega),Qq (by omega) (by omega)]
theorem Qrt {e:Evt} {k:Nat} (hk:1<=k/\k<=20000):z140.F [e.r] (k:Int)=some ((List.replicate k e).map Evt.r):=by
 unfold z140.F
 rw [Qc (by omega)]
 have e1:wr .u64 ((([e.r]:J2).length:Nat):Int)=1:=by show wr .u64 ((1:Nat):Int)=1;decide
 have e2:wr .u64 (k:Int)=k:=by rw [Qq (by omega) (by omega)]
 rw [e1,e2,Qvf (by omega),Zb,Qc (show ¬((0:Int)>0) by decide),Qc (by simp only;omega)]
 unfold z140.j2
 simp only
 rw [Qg (by omega) (by omega),if_pos (by omega),Zi]
 generalize ([(.int .i64 (0:Int)),(.int .i64 (0:Int)),(.int .i64 (0:Int)),(.int .i64 (0:Int)),(.str ([]:J1))]:List V)=z
 have hm:min ([e.r]:J2).length (List.replicate k z).length=1:=by simp;omega
 have r:=Qix (r:=e.r) (z:=z) (K:=k) (by omega) k 1 (by omega) (by omega) (by omega)
 have e3:((List.replicate k z).take 0++([e.r]:J2).take 1)++(List.replicate k z).drop (0+1)=List.replicate 1 e.r++List.replicate (k-1) z:=by
  simp
 rw [hm,e3]
 have e4:z140.l0 (((1:Nat):Int),List.replicate 1 e.r++List.replicate (k-1) z)=some ((k:Int),List.replicate k e.r):=r.lfp
 rw [e4,Zb,List.map_replicate]
theorem Qvj {E:List Evt} {e:Evt} (hE:Seq 0 0 0 E) (hEc:∀x∈E,Can x) (hEl:E.length<=16) (ho:EvtOK e) (h3:e.k=3) (hv:e.v=[]) (hd:¬dcmp e.y e.m e.d (lastOf 0 0 0 E).1 (lastOf 0 0 0 E).2.1 (lastOf 0 0 0 E).2.2<0) {k:Nat} (hk:k<=20000) :
  ∃r,z97.F (stxt E++Lib.repeatL (ltxt e) k)=some r/\if E.length+k<=10000 then r=((E++List.replicate k e).map Evt.r,0,0) else r.1=[]/\r.2.2=6:=by
 have hEo:=Qbg hE
 have hseq:=Qgj hE (Qe4 ho k _ _ _ hd)
 have hall:∀x∈E++List.replicate k e,Can x:=λx hx=>by
  rcases Z32.1 hx with hx|hx
  ·exact hEc x hx
  ·rw [List.eq_of_mem_replicate hx];exact Qow h3 hv
 have l1:=Qfd E hEo hEc
 have l2:(ltxt e).length<=20:=by
  have:=Qbd ho.k
  have h2:(dtxt e.y e.m e.d).length=10:=rfl
  unfold ltxt
  simp only [Z2,Z8,Z21];omega
 have l3:(Lib.repeatL (ltxt e) k).length<=400000:=by
  rw [Lib.repeatL_length]
  calc k*(ltxt e).length<=20000*20:=Nat.mul_le_mul hk l2
   _=400000:=by decide
 obtain ⟨T,hT⟩:∃T,T=stxt E++Lib.repeatL (ltxt e) k:=⟨_,rfl⟩
 have lT:T.length<=1048576:=by rw [hT,Z2];omega
 obtain ⟨l,q1,q2,q3⟩:=Qkx T.length ho h3 k
 obtain ⟨l',r1,r2,r3⟩:=Qmv T.length q3 q1 q2 E hEo hEc
 rw [<-hT] at r1 r3 ⊢
 have hlex:lexOf T=(l',0,0):=by unfold lexOf;rw [r3,r1]
 have hprops:=(Qg7 T).2
 rw [hlex] at hprops
 obtain ⟨x,hx,hres⟩:=Qim (T.length:Int) (E++List.replicate k e) l' 0 0 0 0 [] r2 (λt ht=>(hprops t ht).1) hseq hall (by simp)
 have e1:z97.l0 (l'.map Tk.v,(T.length:Int),0,[],0,0,0)=some x:=hx.lfp
 refine ⟨outP x,?_,?_⟩
 ·unfold z97.F
  rw [lex_Lex,if_neg (by omega),Zb,hlex]
  simp only [decide_true,Zn,Zc]
  rw [e1]
  cases x<;>rfl
 ·simp only [Z21,Z25,Z85,Z2,Z38] at hres
  exact hres
theorem Qnu {e:Evt} (h3:e.k=3) (ho:EvtOK e):z143.F (etxt e) [10]=some (ltxt e):=by
 have he:etxt e=ltxt e++[10]:=by unfold etxt ltxt;rw [if_pos h3];simp
 have hl:=(Qdh ho).2
 have hlen:(etxt e).length=(ltxt e).length+1:=by rw [he];simp
 have e1:wr .i64 (((etxt e).length:Int)-(([10]:J1).length:Int))=((ltxt e).length:Int):=by
  show wr .i64 (((etxt e).length:Int)-1)=_
  rw [Qg (by omega) (by omega)];omega
 have hs:z141.F (etxt e) [10]=some true:=by
  unfold z141.F
  rw [bif_t (by show ((etxt e).length:Int)>=((1:Nat):Int);omega),e1,if_pos (by omega),Zi,he,List.drop_left]
  rfl
 unfold z143.F z142.F
 rw [hs,Zb]
 simp only [Zd]
 rw [e1,if_pos (by omega),Zi,he,List.take_left]
 rfl
theorem Qnp {E:List Evt} {y m d a6:Int} (hE:Seq 0 0 0 E) (hEc:∀x∈E,Can x) (hEl:E.length<=16) (hr:right y m d) (hd:¬dcmp y m d (lastOf 0 0 0 E).1 (lastOf 0 0 0 E).2.1 (lastOf 0 0 0 E).2.2<0) (h6:0<=a6/\a6<256) :
  z144.j12 (E.map Evt.r) y m d a6 (stxt E,0)=some true:=by
 obtain ⟨e,he⟩:∃e:Evt,e=⟨3,y,m,d,[]⟩:=⟨_,rfl⟩
 have h3:e.k=3:=by rw [he]
 have hv:e.v=[]:=by rw [he]
 have ho:EvtOK e:=by rw [he];exact ⟨⟨by simp only;omega,by simp only;omega⟩,hr,rfl,by simp⟩
 have hd':¬dcmp e.y e.m e.d (lastOf 0 0 0 E).1 (lastOf 0 0 0 E).2.1 (lastOf 0 0 0 E).2.2<0:=by rw [he];exact hd
 have l2:(E.map Evt.r).length=E.length:=by simp
 have t5:Int.tmod a6 5=a6%5:=Z34 h6.1
 obtain ⟨k,hk⟩:∃k:Nat,(k:Int)=10000-(E.length:Int)-2+a6%5:=⟨(10000-(E.length:Int)-2+a6%5).toNat,by omega⟩
 have ew:wr .i64 ((wr .i64 ((wr .i64 ((10000:Int)-(((E.map Evt.r).length:Nat):Int)))-(2:Int)))+(wr .i64 (Int.tmod a6 (5:Int))))=(k:Int):=by
  rw [l2,t5,Qg (n:=10000-(E.length:Int)) (by omega) (by omega),Qg (n:=10000-(E.length:Int)-2) (by omega) (by omega),Qg (n:=a6%5) (by omega) (by omega),Qg (by omega) (by omega),hk]
 have hk2:1<=k/\k<=20000:=by omega
 have er:([(.int .i64 (3:Int)),(.int .i64 y),(.int .i64 m),(.int .i64 d),(.str ([]:J1))]:List V)=e.r:=by rw [he];rfl
 have htk:(E.map Evt.r).take ((((E.map Evt.r).length:Nat):Int)).toNat=E.map Evt.r:=by rw [Zi,Z57]
 have hseq:=Qgj hE (Qe4 ho k _ _ _ hd')
 obtain ⟨r,hp,hres⟩:=Qvj hE hEc hEl ho h3 hv hd' hk2.2
 have hpr:z138.F [e.r]=some (etxt e):=by
  have:=Qwf (L:=[e]) (by simp) (λx hx=>by simp only [List.mem_singleton] at hx;subst hx;exact ho)
  rw [show ([e]:List Evt).map Evt.r=[e.r] from rfl] at this
  rw [this];simp [stxt]
 have ll:(ltxt e).length<=20:=by
  have:=Qbd ho.k
  have h2:(dtxt e.y e.m e.d).length=10:=rfl
  unfold ltxt
  simp only [Z2,Z8,Z21];omega
 have hrep:z5.F (ltxt e) (k:Int)=some (Lib.repeatL (ltxt e) k):=by
  unfold z5.F
  have:((ltxt e).length:Int)*(k:Int)<=20*20000:=Int.mul_le_mul (by omega) (by omega) (by omega) (by omega)
  rw [if_pos ⟨by omega,by omega,by omega⟩,Zi]
 have l4:(Lib.repeatL (ltxt e) k).length<=400000:=by
  rw [Lib.repeatL_length]
  calc k*(ltxt e).length<=20000*20:=Nat.mul_le_mul hk2.2 ll
   _=400000:=by decide
 have l5:=Qfd E (Qbg hE) hEc
 have la:((E++List.replicate k e).map Evt.r).length=E.length+k:=by simp
 unfold z144.j12
 rw [ew,er,htk,if_pos (by omega),Qrt hk2,Zb,if_pos (by rw [l2,Z29,Z38];omega),bif_t rfl,<-Z63]
 by_cases hmany:E.length+k<=10000
 ·rw [if_pos hmany] at hres
  rw [script_Check (by simp only [Z2,Z38];exact hmany) hseq,Zb,hpr,Zb,Qnu h3 ho,Zb,hrep,Zb,if_pos (by simp only;omega)]
  simp only
  rw [hp,Zb,hres,la,Qc (by omega),Qk8,Zb]
  simp only [decide_true,Zd]
  rw [Qsz _ (by simp only [Z2,Z38];omega),Zb]
 ·rw [if_neg hmany] at hres
  have hck:z99.F ((E++List.replicate k e).map Evt.r)=some (10000,6):=by
   unfold z99.F
   rw [la,bif_t (by omega)]
  rw [hck,Zb,hpr,Zb,Qnu h3 ho,Zb,hrep,Zb,if_pos (by simp only;omega)]
  simp only
  rw [hp,Zb,la,bif_t (by omega),Qk8,Zb]
  simp only [decide_true,Zd]
  rw [Zt hres.2,hres.1];rfl
theorem Qmr:∀(L:List Evt) (y m d:Int) (h:0<L.length),lastOf y m d L=(L[L.length-1].y,L[L.length-1].m,L[L.length-1].d)
 |[],_,_,_,h=>by simp at h
 |[e],_,_,_,_=>rfl
 |
  e::f::t,_,_,_,_=>by
  have:=Qmr (f::t) e.y e.m e.d (by simp)
  exact this
theorem Qog {a0 a1 a2 a6:Int} {a3 a4 a5:J0} (h3:(∀n∈a3,(Lit.int .u8 n).wf=true)/\a3.length<=maxLen) (h4:(∀n∈a4,(Lit.int .u8 n).wf=true)/\a4.length<=maxLen) (h5:(∀n∈a5,(Lit.int .u32 n).wf=true)/\a5.length<=maxLen)
  (h6:(Lit.int .u8 a6).wf=true):z144.F a0 a1 a2 a3 a4 a5 a6=some true:=by
 obtain ⟨y,m,d,hm,hr,_⟩:=Qso (a:=a0) (b:=a1) (c:=a2) (n:=9990) (by decide)
 have hs:z117.F a0 a1 a2 a3 a4 a5=some (y,m,d):=by
  unfold z117.F
  rw [hm];rfl
 obtain ⟨E,hE,hEl,y',m',d',hmade⟩:=Qup (D:=a3) (K:=a4) (U:=a5) (λn hn=>Qeb (h3.1 n hn)) (λn hn=>Qeb (h4.1 n hn)) (λn hn=>Qvz (h5.1 n hn)) (a:=a0) (b:=a1) (c:=a2) hr
 have hc:∀e∈E,Can e:=λe he=>Qui (Qbg hmade.seq e he) (by have:=hmade.len e he;omega)
 have l2:(E.map Evt.r).length=E.length:=by simp
 unfold z144.F
 rw [hs,Zb]
 simp only
 rw [hE,Zb,Qt5 (by omega) hmade.seq,Zb]
 rw [show (!decide ((0:Int)=0))=false from rfl]
 simp only [Zc,Zb]
 by_cases h0:0<E.length
 ·have hi:E.length-1<E.length:=by omega
  have ew:wr .i64 ((((E.map Evt.r).length:Nat):Int)-1)=((E.length-1:Nat):Int):=by rw [l2,Qg (by omega) (by omega)];omega
  rw [bif_t (by omega),ew,if_pos (by omega)]
  simp only [Zi,Qbm hi,eK,eY,eM,eD,eV]
  have hlast:=Qmr E 0 0 0 h0
  have hok:=Qbg hmade.seq E[E.length-1] (Z10 hi)
  exact Qnp hmade.seq hc hEl hok.d (by rw [hlast];simp only;rw [Qil];omega) (Qeb h6)
 ·have hE0:E=[]:=Z6 (by omega)
  subst hE0
  rw [Qc (by simp)]
  exact Qnp (E:=[]) trivial hc hEl hr (Qm4 hr) (Qeb h6)
end Go.Proofs.YtjfipepaaddlmaaGreatDoor.A
end
section
set_option linter.unusedVariables false
namespace Go.Proofs.YtjfipepaaddlmaaGreatDoor.A
open Go
namespace ScriptMany
theorem law (a0:Int) (a1:Int) (a2:Int) (a3:J0) (a4:J0) (a5:J0) (a6:Int) (h0:(Lit.int .i64 a0).wf=true) (h1:(Lit.int .i64 a1).wf=true) (h2:(Lit.int .i64 a2).wf=true) (h3:(∀n∈a3,(Lit.int .u8 n).wf=true)/\a3.length<=maxLen) (h4:(∀n∈a4,(Lit.int .u8 n).wf=true)/\a4.length<=maxLen) (h5:(∀n∈a5,(Lit.int .u32 n).wf=true)/\a5.length<=maxLen) (h6:(Lit.int .u8 a6).wf=true):z144.F a0 a1 a2 a3 a4 a5 a6=some true:=
 Qog h3 h4 h5 h6
end ScriptMany
end Go.Proofs.YtjfipepaaddlmaaGreatDoor.A
end
section
set_option maxRecDepth 100000
namespace Go.Proofs.YtjfipepaaddlmaaGreatDoor.A
open Go Go.RowKit Go.ChangeShapes Go.WideShapes Go.ChangeAt
noncomputable section
namespace ScriptMany
theorem wide:Qbe Tryz.prog 8 Tryz.f8.params.toList=some [(.agg [.sc (.i .i64),.sc (.i .i64),.sc (.i .i64),.sl [(.i .u8)],.sl [(.i .u8)],.sl [(.i .u32)]]),(.one (.sc (.i .u8)))]:=by kernel_rfl
theorem readable:Tryz.f8.params.toList.all (λt=>Tryz.prog.readableRec t&&decide (t<Tryz.prog.types.size))=true:=by kernel_rfl
noncomputable def args0:Array Value:=#[.agg #[.int .i64 0,.int .i64 0,.int .i64 0,.slice none 0 0,.slice none 0 0,.slice none 0 0],.int .u8 0]
theorem laid_met (os:Os):laidMet Tryz.prog Rows.scriptManyRow.laid ((Qhs os).forCall (λ_ _=>0) ⟨#[],args0,[]⟩).memory:=
 laidMet_of_run' 12 (by kernel_rfl) (by kernel_rfl)
theorem reads (os:Os) {H:Type} (enc:TypeId×Value->H):∃ds places,DataW.whole enc Tryz.prog ((Qhs os).forCall (λ_ _=>0) ⟨#[],args0,[]⟩).memory Tryz.f8.params.toList Rows.scriptManySpec.vars false args0.toList 12=some (ds,[],places):=
 ⟨[.agg [.agg [.lit (.int .i64 0),.lit (.int .i64 0),.lit (.int .i64 0)],.nil,.nil,.nil],.lit (.int .u8 0)],[],by kernel_rfl⟩
theorem plainly (vs:List V) (h:okAL [(.agg [.sc (.i .i64),.sc (.i .i64),.sc (.i .i64),.sl [(.i .u8)],.sl [(.i .u8)],.sl [(.i .u32)]]),(.one (.sc (.i .u8)))] vs):∃p r,SoundC Tryz.prog 8 vs p/\p.m=some r/\p.enc r=.bool true:=by
 obtain ⟨_,_,rfl,⟨_,rfl,_,_,rfl,⟨a0,rfl,h0⟩,_,_,rfl,⟨a1,rfl,h1⟩,_,_,rfl,⟨a2,rfl,h2⟩,_,_,rfl,⟨a3,rfl,h3⟩,_,_,rfl,⟨a4,rfl,h4⟩,_,_,rfl,⟨a5,rfl,h5⟩,rfl⟩,_,_,rfl,⟨a6,rfl,h6⟩,rfl⟩:=h
 exact ⟨⟨Bool,z144.F a0 a1 a2 a3 a4 a5 a6,z8.enc⟩,true,z144.sound _ _ (by kernel_rfl),law a0 a1 a2 a3 a4 a5 a6 h0 h1 h2 h3 h4 h5 h6,rfl⟩
theorem specFn {H:Type} (ds:List (DataW H)) (h:ds.length=Tryz.f8.params.toList.length):Rows.scriptManySpec.fn H ds={results:=[.lit (.bool true)],args:=ds}:=by
 have h:ds.length=2:=h.trans (by kernel_rfl)
 match ds,h with
 |[d0,d1],_=>rfl
theorem clos:Tryz.prog.closure 8=[8,29,46,96,149,28,47,48,97,69,14,56,31,30,77,133,175,216,217,115,153,195,160,134,176,218,117,161,204,91,162,205,234,207,208,235,238,209,236,251,256,189,229,172,213,164,190,230,240,192,191,210,108,157,104,206,237,145,102,53,103,60,52,16,242,252,257,241,194,66,12,54,105,154,196,106,177,171,211,239,148,193,231,212,163,219,180,224,215,220,243,245,246,214,221,244,254,253,258,107,109,155,197,198,232,156,199,200,201,202,203,233,223,222,247,255,79,136,179,123,137,181,13,55,110,78,135,178,80,36,86,144,43,88,146,188,89,38,34,33,83,139,84,140,186,57,111,158,141,142,59,23,58,112,159,113,114,187,85,143,35,87,92,24,70,119,120,165,166,167,168,169,170,71,121,122,124,173,125,174,26,27]:=by kernel_rfl
theorem inPlace:(Rows.scriptManyRow.inPlace == Tryz.prog.inPlace 8)=true:=by unfold Program.inPlace;rw [clos];kernel_rfl
theorem unfollowed:(Rows.scriptManyRow.unfollowed == Tryz.prog.unfollowed 8)=true:=by unfold Program.unfollowed;rw [clos];kernel_rfl
theorem recurses:(Rows.scriptManyRow.recurses == Tryz.prog.recurses 8)=true:=by unfold Program.recurses Program.unfollowed;rw [clos];kernel_rfl
theorem named:(Rows.scriptManyRow.named == Tryz.prog.varsNamed 8)=true:=by unfold Program.varsNamed;rw [clos];kernel_rfl
theorem number:Tryz.prog.funcNamed "chattel/chattellaw23.ScriptMany" = some 8:=by kernel_rfl
theorem goes:false=Rows.scriptManyRow.goesBy Tryz.prog:=by
 have h:Tryz.prog.goes 8=false:=by unfold Program.goes Program.unfollowed;rw [clos];kernel_rfl
 have e:Rows.scriptManyRow.goesBy Tryz.prog=((Tryz.prog.funcNamed "chattel/chattellaw23.ScriptMany").any Tryz.prog.goes||false):=by kernel_rfl
 rw [e,number]
 simp [h]
theorem j_wf:Rows.scriptManyRow.wf (OpenSpec.ofChange (OpenSpec.ofChange Rows.scriptManySpec).bare)=true:=by kernel_rfl
theorem j_params:(Tryz.f8.params.all (Tryz.pinned.checked.prog.readableRec ·))=true:=by kernel_rfl
theorem j_vars:namedTie Tryz.pinned.checked.prog Rows.scriptManyRow.named (OpenSpec.ofChange Rows.scriptManySpec).bare.vars=true:=by kernel_rfl
theorem j_stops:(Rows.scriptManyRow.stops == [])=true:=by kernel_rfl
theorem j_knobs:(Rows.scriptManyRow.knobs == [])=true:=by kernel_rfl
theorem j_maps:(Rows.scriptManyRow.maps == (Tryz.f8.params.toList++DataSpec.varTypes Tryz.pinned.checked.prog (OpenSpec.ofChange Rows.scriptManySpec).bare.plain).any (Tryz.pinned.checked.prog.mapsRec ·))=true:=by kernel_rfl
theorem j_ifaces:(Rows.scriptManyRow.ifaces == (Tryz.f8.params.toList++DataSpec.varTypes Tryz.pinned.checked.prog (OpenSpec.ofChange Rows.scriptManySpec).bare.plain).any (Tryz.pinned.checked.prog.ifacesRec ·))=true:=by kernel_rfl
theorem j_mapsOut:(Rows.scriptManyRow.mapsOut == Tryz.pinned.checked.prog.mapsAmong Tryz.f8.resultTypes.toList)=true:=by kernel_rfl
theorem j_loops:(Rows.scriptManyRow.loops == (Tryz.f8.params.toList++DataSpec.varTypes Tryz.pinned.checked.prog (OpenSpec.ofChange Rows.scriptManySpec).bare.plain).any (Tryz.pinned.checked.prog.loopsFrom ·))=true:=by kernel_rfl
theorem j_wideKeys:(Rows.scriptManyRow.wideKeys == (Tryz.f8.params.toList++DataSpec.varTypes Tryz.pinned.checked.prog (OpenSpec.ofChange Rows.scriptManySpec).bare.plain++Tryz.f8.resultTypes.toList).any (Tryz.pinned.checked.prog.wideKeysFrom ·))=true:=by kernel_rfl
theorem j_varsRead:(OpenSpec.ofChange Rows.scriptManySpec).bare.vars.all (Tryz.pinned.checked.prog.varReadable ·)=true:=by kernel_rfl
theorem j_results:(Tryz.f8.resultTypes.all λt=>Tryz.pinned.checked.prog.readableRec t&&decide (t<Tryz.pinned.checked.prog.types.size))=true:=by kernel_rfl
theorem j_ifacesOut:(Rows.scriptManyRow.ifacesOut == Tryz.f8.resultTypes.toList.any (Tryz.pinned.checked.prog.ifacesRec ·))=true:=by kernel_rfl
theorem j_loopsOut:(Rows.scriptManyRow.loopsOut == Tryz.f8.resultTypes.toList.any (Tryz.pinned.checked.prog.loopsFrom ·))=true:=by kernel_rfl
theorem j_plainKeys:(Rows.scriptManyRow.plainKeys == Tryz.pinned.checked.prog.plainKeys)=true:=by kernel_rfl
theorem j_short:Rows.scriptManyRow.shortTexts.isNone=true:=by kernel_rfl
theorem j_lift:(Rows.scriptManyRow.lifted == Tryz.pinned.checked.prog.liftsFinal)=true:=by kernel_rfl
theorem j_make:(Tryz.pinned.checked.prog.make == some Rows.scriptManyRow.make)=true:=by kernel_rfl
theorem j_kinds:(Rows.scriptManyRow.kinds == (if Rows.scriptManyRow.domain.isEmpty then [] else Tryz.f8.params.toList.map λt=>match Tryz.pinned.checked.prog.underlying t with|some (.int k)=>some k|_=>none))=true:=by kernel_rfl
theorem j_pinned:(Rows.scriptManyRow.pinned == Rows.scriptManyRow.pinnedBy)=true:=by kernel_rfl
theorem j_veiled:(Rows.scriptManyRow.veiled == (Tryz.f8.params.toList++DataSpec.varTypes Tryz.pinned.checked.prog (OpenSpec.ofChange Rows.scriptManySpec).bare.plain++Tryz.f8.resultTypes.toList).any (Tryz.pinned.checked.prog.veiledRec ·))=true:=by kernel_rfl
theorem j_veiledFits:Rows.scriptManyRow.veiledFits Tryz.pinned.checked.prog Tryz.f8.params.toList (Tryz.f8.params.toList++DataSpec.varTypes Tryz.pinned.checked.prog (OpenSpec.ofChange Rows.scriptManySpec).bare.plain++Tryz.f8.resultTypes.toList)=true:=by kernel_rfl
theorem joined:joinedFacts Tryz.pinned.checked.prog 8 Tryz.f8 (OpenSpec.ofChange Rows.scriptManySpec).bare Rows.scriptManyRow=true:=by
 unfold joinedFacts
 simp only [Z4]
 and_intros
 ·exact j_wf
 ·exact laidOut
 ·exact rowed
 ·exact j_params
 ·exact j_vars
 ·exact j_stops
 ·exact Quz
 ·exact j_knobs
 ·exact Qqo
 ·exact inPlace
 ·exact unfollowed
 ·exact recurses
 ·exact named
 ·exact j_maps
 ·exact j_ifaces
 ·exact j_mapsOut
 ·exact j_loops
 ·exact j_wideKeys
 ·exact j_varsRead
 ·exact j_results
 ·exact j_ifacesOut
 ·exact j_loopsOut
 ·exact j_plainKeys
 ·exact j_short
 ·exact Qsf
 ·exact Qux
 ·exact j_lift
 ·exact j_make
 ·exact j_kinds
 ·exact j_pinned
 ·exact j_veiled
 ·exact j_veiledFits
theorem lifted (os:Os) (started:os.Started) (H:Type) (enc:TypeId×Value->H) (F:Stop.Interp) :
  ReturnsInHanded {} Tryz.checked os 8 .any ((OpenSpec.ofChange Rows.scriptManySpec).preRow enc Tryz.prog Tryz.f8 Rows.scriptManyRow.domain false Rows.scriptManyRow.laid) (((OpenSpec.ofChange Rows.scriptManySpec).at F).post enc Tryz.prog Tryz.f8 false true false false):=by
 obtain ⟨ds0,places,hx⟩:=reads os enc
 refine returnsInHanded_of_row (C:=Tryz.checked) (s:=OpenSpec.ofChange Rows.scriptManySpec) own started (by kernel_rfl) Tryz.func8
  (witness_row_at (enc:=enc) (C:=Tryz.checked) false (Qhs os) args0 rfl (by kernel_rfl) (by kernel_rfl) (by kernel_rfl)
   (OpenSpec.preRow_of_cond 12 hx (by kernel_rfl) (λk hk=>by cases hk) (by kernel_rfl) (laid_met os))) ?_
 intro W base args ds gs before hval hW _ _ _ hL _ _
 exact Qom fun8 laidOut readable wide (tb:=4) (by kernel_rfl) (by kernel_rfl) rfl specFn plainly W base args ds gs before hval hW
theorem wrapped:Tryz.f8.isWrapper Tryz.pinned.checked.prog Rows.scriptManyRow.wrapper Rows.scriptManyRow.mainSum:=by
 unfold Func.isWrapper;first|(rw [if_pos (by decide +kernel)];kernel_rfl)|(rw [if_neg (by decide +kernel)];exact ⟨rfl,rfl⟩)
theorem origin:Tryz.f8.isInstance Tryz.pinned.checked.prog Rows.scriptManyRow.origin Rows.scriptManyRow.targs:=of_decide_eq_true (by kernel_rfl)
theorem said:Rows.ScriptManySaid:=
 OpenClaim.holds_of_cond 8 Tryz.f8 rfl rfl rfl rfl rfl rfl rfl ⟨rfl,rfl,rfl,rfl,rfl⟩ rfl rfl rfl rfl rfl number Tryz.func8 joined origin wrapped
  (λos started H enc _ F=>by rw [OpenClaim.pre_eq_preRow];exact lifted os started H enc F)
theorem plainRow (f:FuncId) (fn:Func) (hf:Tryz.pinned.checked.prog.funcNamed "chattel/chattellaw23.ScriptMany" = some f) (hfn:Tryz.pinned.checked.prog.funcs[f]? = some fn) :
  false=Tryz.pinned.checked.prog.looks []/\∀(j:Nat) t,fn.params[j]? = some t->Tryz.pinned.checked.prog.wantsStandIn t=false:=by
 obtain rfl:f=8:=Option.some.inj (number.symm.trans hf) |>.symm
 obtain rfl:fn=Tryz.f8:=(Option.some.inj (Tryz.func8.symm.trans hfn)).symm
 refine ⟨Qqj,λj t ht=>?_⟩
 have hall:Tryz.f8.params.toList.all (λt=>!Tryz.prog.wantsStandIn t)=true:=by kernel_rfl
 have:=Z14.1 hall t (by simpa using Array.mem_of_getElem? ht)
 exact Z53 _ |>.mp this
theorem card:Rows.ScriptManyCardSaid:=
 Claim7.holds_tied_plain_at .later [] _ _ _ _ said (λ_ h=>by cases h) (by kernel_rfl) (λ_ h=>by cases h) scriptMany_row_tie rfl ⟨rfl,rfl⟩ main rfl plainRow goes
end ScriptMany
end
end Go.Proofs.YtjfipepaaddlmaaGreatDoor.A
end
