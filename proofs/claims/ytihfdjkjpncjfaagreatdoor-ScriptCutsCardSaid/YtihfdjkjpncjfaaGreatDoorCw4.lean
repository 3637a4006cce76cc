/- Part 4 of the proof of ScriptCuts.card. -/
import Derived.Test.YtihfdjkjpncjfaaGreatDoorCw3
import Derived.Deep.DeepHandedRow
import Derived.Lib.LaidTab
set_option linter.unusedVariables false
set_option linter.unusedSimpArgs false
section
namespace Go.Proofs.YtihfdjkjpncjfaaGreatDoor.A
open Go
set_option maxRecDepth 100000 in
theorem Qsg:∃tab:J1,tab.length=256 /\
  (∀x j,z44.j8 x j=if (0:Int)<=wr .u8 x/\wr .u8 x<(tab.length:Int) then some (wr .i64 (j+wr .i64 ((tab.getD (wr .u8 x).toNat 0).toNat:Int))) else none) /\
  (∀x j,z44.j10 x j=if (0:Int)<=wr .u8 x/\wr .u8 x<(tab.length:Int) then some (wr .i64 (j+wr .i64 ((tab.getD (wr .u8 x).toNat 0).toNat:Int))) else none) /\
  ∀x:Fin 256,0<x.1->1<=(tab.getD x.1 0).toNat/\(tab.getD x.1 0).toNat<=8/\2^((tab.getD x.1 0).toNat-1)<=x.1/\x.1<2^(tab.getD x.1 0).toNat:=
 ⟨_,rfl,λx j=>rfl,λx j=>rfl,by decide⟩
theorem Qel {x:Nat} (h0:0<x) (h:x<256) {j:Nat} (hj:j<=1000):∃n,n<=7/\2^n<=x/\x<2^(n+1)/\z44.j8 x j=some ((j+n+1:Nat):Int)/\z44.j10 x j=some ((j+n+1:Nat):Int):=by
 obtain ⟨tab,hl,h1,h2,ht⟩:=Qsg
 obtain ⟨t1,t2,t3,t4⟩:=ht ⟨x,h⟩ h0
 simp only at t1 t2 t3 t4
 obtain ⟨n,hn⟩:∃n,(tab.getD x 0).toNat=n+1:=⟨_,(Nat.sub_add_cancel t1).symm⟩
 rw [hn] at t2 t3 t4
 have hw:wr .u8 (x:Int)=x:=Qak (by omega) (by omega)
 refine ⟨n,by omega,by simpa using t3,t4,?_,?_⟩
 ·rw [h1,hw,if_pos (by omega),Zi,hn,Qg (n:=((n+1:Nat):Int)) (by omega) (by omega),Qg (by omega) (by omega)]
  congr 1
 ·rw [h2,hw,if_pos (by omega),Zi,hn,Qg (n:=((n+1:Nat):Int)) (by omega) (by omega),Qg (by omega) (by omega)]
  congr 1
theorem Qbl (n k:Nat):Int.fdiv (n:Int) (2^k)=((n/2^k:Nat):Int):=by
 rw [Int.fdiv_eq_ediv_of_nonneg _ (by exact_mod_cast Z64 (2^k))]
 push_cast;rfl
theorem Qca {x n k:Nat} (h1:2^n<=x/2^k) (h2:x/2^k<2^(n+1)):2^(n+k)<=x/\x<2^(n+k+1):=by
 have hp:=Nat.pos_of_ne_zero (show 2^k≠0 by exact Nat.ne_of_gt (Nat.two_pow_pos k))
 have:=(Nat.le_div_iff_mul_le hp).1 h1
 have:=(Z83 hp).1 h2
 rw [Z93,show n+k+1=(n+1)+k by omega,Z93]
 omega
set_option maxRecDepth 100000 in
theorem Qin {x:Nat} (h0:0<x) (h:x<4294967296) {j:Nat} (hj:j<=100):∃n,n<=31/\2^n<=x/\x<2^(n+1)/\z44.j2 x j=some ((j+n+1:Nat):Int):=by
 unfold z44.j2
 rw [show min 16 64=16 from rfl,show min 8 64=8 from rfl,Qbl,Qbl,Qbl]
 by_cases h1:65536<=x
 ·rw [bif_t (by omega),Qg (n:=(j:Int)+16) (by omega) (by omega),Qg (n:=(j:Int)+16+8) (by omega) (by omega)]
  have b1:0<x/2^16/\x/2^16<65536:=by omega
  by_cases h2:256<=x/2^16
  ·rw [bif_t (by omega)]
   obtain ⟨n,n1,n2,n3,n4,_⟩:=Qel (x:=x/2^16/2^8) (by omega) (by omega) (j:=j+24) (by omega)
   obtain ⟨m2,m3⟩:=Qca n2 n3
   obtain ⟨m2,m3⟩:=Qca (n:=n+8) m2 m3
   refine ⟨n+8+16,by omega,m2,m3,?_⟩
   refine (congrArg (z44.j8 _) (show ((j:Int)+16+8)=((j+24:Nat):Int) by omega)).trans (n4.trans ?_)
   congr 2;omega
  ·rw [Qc (by omega)]
   obtain ⟨n,n1,n2,n3,n4,_⟩:=Qel (x:=x/2^16) (by omega) (by omega) (j:=j+16) (by omega)
   obtain ⟨m2,m3⟩:=Qca n2 n3
   refine ⟨n+16,by omega,m2,m3,?_⟩
   refine (congrArg (z44.j8 _) (show ((j:Int)+16)=((j+16:Nat):Int) by omega)).trans (n4.trans ?_)
   congr 2;omega
 ·rw [Qc (by omega)]
  by_cases h2:256<=x
  ·rw [bif_t (by omega),Qg (n:=(j:Int)+8) (by omega) (by omega)]
   obtain ⟨n,n1,n2,n3,_,n4⟩:=Qel (x:=x/2^8) (by omega) (by omega) (j:=j+8) (by omega)
   obtain ⟨m2,m3⟩:=Qca n2 n3
   refine ⟨n+8,by omega,m2,m3,?_⟩
   refine (congrArg (z44.j10 _) (show ((j:Int)+8)=((j+8:Nat):Int) by omega)).trans (n4.trans ?_)
   congr 2;omega
  ·rw [Qc (by omega)]
   obtain ⟨n,n1,n2,n3,_,n4⟩:=Qel (x:=x) (by omega) (by omega) (j:=j) (by omega)
   exact ⟨n,by omega,n2,n3,n4⟩
theorem bits_Len64 {x:Nat} (h0:0<x) (h:x<18446744073709551616):∃n,n<=63/\2^n<=x/\x<2^(n+1)/\z44.F x=some ((n+1:Nat):Int):=by
 unfold z44.F
 rw [show min 32 64=32 from rfl,Qbl]
 by_cases h1:4294967296<=x
 ·rw [bif_t (by omega)]
  obtain ⟨n,n1,n2,n3,n4⟩:=Qin (x:=x/2^32) (by omega) (by omega) (j:=32) (by omega)
  obtain ⟨m2,m3⟩:=Qca n2 n3
  refine ⟨n+32,by omega,m2,m3,?_⟩
  refine n4.trans ?_
  congr 2;omega
 ·rw [Qc (by omega)]
  obtain ⟨n,n1,n2,n3,n4⟩:=Qin (x:=x) (by omega) (by omega) (j:=0) (by omega)
  refine ⟨n,by omega,n2,n3,?_⟩
  refine n4.trans ?_
  congr 2;omega
theorem Qqh {x:Nat} (h0:0<x) (h:x<18446744073709551616):∃s,s<=63/\9223372036854775808<=x*2^s/\x*2^s<18446744073709551616/\z45.F x=some ((s:Nat):Int):=by
 obtain ⟨n,n1,n2,n3,n4⟩:=bits_Len64 h0 h
 have e1:2^n*2^(63-n)=9223372036854775808:=by rw [<-Z93,show n+(63-n)=63 by omega]
 have e2:2^(n+1)*2^(63-n)=18446744073709551616:=by rw [<-Z93,show n+1+(63-n)=64 by omega]
 refine ⟨63-n,by omega,?_,?_,?_⟩
 ·rw [<-e1];exact Z11 _ n2
 ·rw [<-e2];exact Nat.mul_lt_mul_of_pos_right n3 (Nat.two_pow_pos _)
 ·unfold z45.F
  rw [n4]
  simp only [Zb]
  rw [Qg (by omega) (by omega)]
  congr 1;omega
end Go.Proofs.YtihfdjkjpncjfaaGreatDoor.A
end
section
set_option linter.unusedSectionVars false
namespace Go.Proofs.YtihfdjkjpncjfaaGreatDoor.A
open Go
structure Qbn (y1 y0 u u0:Nat) (q r:Nat):Prop where
 eq:q*y1+r=u
 ge:(u*4294967296+u0)/(y1*4294967296+y0)<=q
 le:q<=4294967297
 lt:r<4294967296
theorem Qkq (B:Nat) {y1 y0 u q r:Nat} (he:q*y1+r=u):q*(y1*B+y0)+r*B=u*B+q*y0:=by
 rw [<-he,Z21,Nat.mul_add,Z91]
 omega
theorem Qs4 {B A A2 u u0 r:Nat} (h:A+r*B=u*B+A2) (hc:r*B+u0<A2):u*B+u0<A:=by omega
section
variable {y1 y0 u u0:Nat} (h1:2147483648<=y1) (h1':y1<4294967296) (h0:y0<4294967296) (hu:u<y1*4294967296+y0) (hu0:u0<4294967296)
include h1 h1' h0 hu hu0
theorem Qvq:Qbn y1 y0 u u0 (u/y1) (u%y1):=by
 have hy:0<y1:=by omega
 refine ⟨by rw [Z54];exact Z69 u y1,?_,?_,?_⟩
 ·rw [Nat.le_div_iff_mul_le hy]
  have hd:=Nat.div_mul_le_self (u*4294967296+u0) (y1*4294967296+y0)
  generalize (u*4294967296+u0)/(y1*4294967296+y0)=Q at *
  rw [Nat.mul_add,<-Z91] at hd
  generalize Q*y1=A at *
  generalize Q*y0=B at *
  omega
 ·have:u/y1<4294967298:=by
   rw [Z83 hy];omega
  omega
 ·have:=Z88 u hy;omega
theorem Qq4:(u*4294967296+u0)/(y1*4294967296+y0)<4294967296:=by
 rw [Z83 (by omega)];omega
theorem Qub {q r:Nat} (h:Qbn y1 y0 u u0 q r) (hc:4294967296<=q\/r*4294967296+u0<q*y0):(u*4294967296+u0)/(y1*4294967296+y0)<q:=by
 rcases hc with hc|hc
 ·exact Z12 (Qq4 h1 h1' h0 hu hu0) hc
 ·have:=Qkq 4294967296 (y0:=y0) h.eq
  have hlt:u*4294967296+u0<q*(y1*4294967296+y0):=Qs4 this hc
  exact (Z83 (show 0<y1*4294967296+y0 by omega)).2 hlt
theorem Qkp {q r:Nat} (he:q*y1+r=u) (ge:(u*4294967296+u0)/(y1*4294967296+y0)<=q) (hc:q*y0<=r*4294967296+u0):q=(u*4294967296+u0)/(y1*4294967296+y0):=by
 refine Nat.le_antisymm ?_ ge
 rw [Nat.le_div_iff_mul_le (by omega)]
 have:=Qkq 4294967296 (y0:=y0) he
 omega
theorem Qne {q r:Nat} (h:Qbn y1 y0 u u0 q r) (hc:(u*4294967296+u0)/(y1*4294967296+y0)<q):(q-1)*y1+(r+y1)=u/\(u*4294967296+u0)/(y1*4294967296+y0)<=q-1:=by
 generalize (u*4294967296+u0)/(y1*4294967296+y0)=Q at hc ⊢
 obtain ⟨k,rfl⟩:∃k,q=k+1:=⟨q-1,by omega⟩
 have:=h.eq
 rw [Z21] at this
 simp only [Nat.add_sub_cancel]
 omega
theorem Qsc {q r:Nat} (h:Qbn y1 y0 u u0 q r) (hc:(u*4294967296+u0)/(y1*4294967296+y0)<q) (hr:4294967296<=r+y1):q-1=(u*4294967296+u0)/(y1*4294967296+y0):=by
 obtain ⟨n1,n2⟩:=Qne h1 h1' h0 hu hu0 h hc
 refine Qkp h1 h1' h0 hu hu0 n1 n2 ?_
 have hq:=h.le
 have:(q-1)*y0<=4294967296*4294967295:=Nat.mul_le_mul (by omega) (by omega)
 omega
theorem Qi0 {F:(Int×Int->Option (Int×Int))->Int×Int->Option (Int×Int)} (mk:Int->Int->Int×Int)
  (hF:∀(q r:Nat),q<=4294967297->r<4294967296->∀rec,F rec (mk q r) =
   if 4294967296<=q\/r*4294967296+u0<q*y0 then (if 4294967296<=r+y1 then some (mk ((q-1:Nat):Int) ((r+y1:Nat):Int)) else rec (mk ((q-1:Nat):Int) ((r+y1:Nat):Int))) else some (mk q r)) :
  ∃r:Nat,lfp F (mk ((u/y1:Nat):Int) ((u%y1:Nat):Int))=some (mk (((u*4294967296+u0)/(y1*4294967296+y0):Nat):Int) r):=by
 have key:∀(f q r:Nat),q<f->Qbn y1 y0 u u0 q r->∃r':Nat,Runs F (mk q r) (mk (((u*4294967296+u0)/(y1*4294967296+y0):Nat):Int) r'):=by
  intro f
  induction f with
  |zero=>intro q r h;omega
  |
   succ f ih=>
   intro q r hq h
   by_cases hc:4294967296<=q\/r*4294967296+u0<q*y0
   ·have hlt:=Qub h1 h1' h0 hu hu0 h hc
    by_cases hr:4294967296<=r+y1
    ·refine ⟨r+y1,.done λrec=>?_⟩
     rw [hF q r h.le h.lt,if_pos hc,if_pos hr,Qsc h1 h1' h0 hu hu0 h hlt hr]
    ·obtain ⟨n1,n2⟩:=Qne h1 h1' h0 hu hu0 h hlt
     have hle:=h.le
     have hq1:0<q:=Nat.lt_of_le_of_lt (Z64 _) hlt
     obtain ⟨r',hr'⟩:=ih (q-1) (r+y1) (by omega) ⟨n1,n2,by omega,by omega⟩
     exact ⟨r',.step (λrec=>by rw [hF q r h.le h.lt,if_pos hc,if_neg hr]) hr'⟩
   ·refine ⟨r,.done λrec=>?_⟩
    rw [hF q r h.le h.lt,if_neg hc,<-Qkp h1 h1' h0 hu hu0 h.eq h.ge (by omega)]
 obtain ⟨r',hr'⟩:=key (u/y1+1) _ _ (by omega) (Qvq h1 h1' h0 hu hu0)
 exact ⟨r',hr'.lfp⟩
theorem Qie {q r:Nat} (hq:q<=4294967297) (hr:r<4294967296) (h:¬4294967296<=q):(wr .u64 ((q:Int)*y0)>wr .u64 (wr .u64 ((4294967296:Int)*r)+u0))↔r*4294967296+u0<q*y0:=by
 have hm:q*y0<=4294967295*4294967295:=Nat.mul_le_mul (by omega) (by omega)
 rw [<-Z43 q y0,Qp (n:=((q*y0:Nat):Int)) (by omega) (by omega),Qp (n:=(4294967296:Int)*r) (by omega) (by omega),Qp (by omega) (by omega)]
 omega
theorem Qwb:∃r:Nat,z46.l0 y1 y0 u0 (((u/y1:Nat):Int),((u%y1:Nat):Int))=some ((((u*4294967296+u0)/(y1*4294967296+y0):Nat):Int),(r:Int)):=by
 refine Qi0 h1 h1' h0 hu hu0 (λq r=>(q,r)) (F:=λrec x=>z46.l0P y1 y0 u0 rec some x) λq r hq hr rec=>?_
 simp only [z46.l0P]
 rw [Qp (n:=(r:Int)+y1) (by omega) (by omega)]
 by_cases hq2:4294967296<=q
 ·rw [bif_t (by omega),if_pos (.inl hq2),Qp (n:=(q:Int)-1) (by omega) (by omega)]
  by_cases hr2:4294967296<=r+y1
  ·rw [bif_t (by omega),if_pos hr2];congr 2<;>omega
  ·rw [Qc (by omega),if_neg hr2];congr 2<;>omega
 ·rw [Qc (by omega)]
  have ht:=Qie h1 h1' h0 hu hu0 hq hr hq2
  by_cases hc:r*4294967296+u0<q*y0
  ·have hq0:0<q:=Nat.pos_of_ne_zero λh=>by subst h;omega
   rw [bif_t (ht.2 hc),if_pos (.inr hc),Qp (n:=(q:Int)-1) (by omega) (by omega)]
   by_cases hr2:4294967296<=r+y1
   ·rw [bif_t (by omega),if_pos hr2];congr 2<;>omega
   ·rw [Qc (by omega),if_neg hr2];congr 2<;>omega
  ·rw [Qc (λh=>hc (ht.1 h)),if_neg (by omega)]
theorem Qo4:∃r:Nat,z46.l2 y1 y0 u0 (((u%y1:Nat):Int),((u/y1:Nat):Int))=some ((r:Int),(((u*4294967296+u0)/(y1*4294967296+y0):Nat):Int)):=by
 refine Qi0 h1 h1' h0 hu hu0 (λq r=>(r,q)) (F:=λrec x=>z46.l2P y1 y0 u0 rec some x) λq r hq hr rec=>?_
 simp only [z46.l2P]
 rw [Qp (n:=(r:Int)+y1) (by omega) (by omega)]
 by_cases hq2:4294967296<=q
 ·rw [bif_t (by omega),if_pos (.inl hq2),Qp (n:=(q:Int)-1) (by omega) (by omega)]
  by_cases hr2:4294967296<=r+y1
  ·rw [bif_t (by omega),if_pos hr2];congr 2<;>omega
  ·rw [Qc (by omega),if_neg hr2];congr 2<;>omega
 ·rw [Qc (by omega)]
  have ht:=Qie h1 h1' h0 hu hu0 hq hr hq2
  by_cases hc:r*4294967296+u0<q*y0
  ·have hq0:0<q:=Nat.pos_of_ne_zero λh=>by subst h;omega
   rw [bif_t (ht.2 hc),if_pos (.inr hc),Qp (n:=(q:Int)-1) (by omega) (by omega)]
   by_cases hr2:4294967296<=r+y1
   ·rw [bif_t (by omega),if_pos hr2];congr 2<;>omega
   ·rw [Qc (by omega),if_neg hr2];congr 2<;>omega
  ·rw [Qc (λh=>hc (ht.1 h)),if_neg (by omega)]
end
end Go.Proofs.YtihfdjkjpncjfaaGreatDoor.A
end
section
namespace Go.Proofs.YtihfdjkjpncjfaaGreatDoor.A
open Go
theorem Qdy {n:Nat} (h:n<18446744073709551616):(BitVec.ofInt (IntKind.bits .u64) (n:Int)).toNat=n:=by
 show (BitVec.ofInt 64 (n:Int)).toNat=n
 rw [BitVec.toNat_ofInt]
 omega
theorem Qid {n:Nat} (h:n<18446744073709551616):wr .u64 ((BitVec.ofInt (IntKind.bits .u64) (n:Int) &&& BitVec.ofInt (IntKind.bits .u64) (4294967295:Int)).toNat:Int)=((n%4294967296:Nat):Int):=by
 rw [BitVec.toNat_and,Qdy h,show (4294967295:Int)=((4294967295:Nat):Int) from rfl,Qdy (by omega),show 4294967295=2^32-1 from rfl,Nat.and_two_pow_sub_one_eq_mod,Qp (by omega) (by omega)]
theorem Qtj {a b s:Nat} (hb:b<2^s) (h:a*2^s+b<18446744073709551616):wr .u64 ((BitVec.ofInt (IntKind.bits .u64) ((a*2^s:Nat):Int) ||| BitVec.ofInt (IntKind.bits .u64) (b:Int)).toNat:Int)=((a*2^s+b:Nat):Int):=by
 rw [BitVec.toNat_or,Qdy (by omega),Qdy (by omega),Z54,<-Nat.two_pow_add_eq_or_of_lt hb,Qp (by omega) (by rw [Z54] at h;omega)]
theorem Qri {B V Y U u1 u0:Nat} (hV:V=(U*B+u1)*B+u0) (hY:0<Y) (h0:u0<B) :
  V/Y=(U*B+u1)/Y*B+((U*B+u1)%Y*B+u0)/Y/\V%Y=((U*B+u1)%Y*B+u0)%Y:=by
 have h1:=Z69 (U*B+u1) Y
 generalize hA:U*B+u1=A at *
 generalize A/Y=q at *
 generalize A%Y=r at *
 have e:V=(r*B+u0)+Y*(q*B):=by
  rw [hV,<-h1,Z21,Z91];omega
 rw [e,Nat.add_mul_div_left _ _ hY,Nat.add_mul_mod_self_left]
 exact ⟨by omega,rfl⟩
theorem Qt1 {B V Y U u1 u0:Nat} (hV:V=(U*B+u1)*B+u0) (hY:0<Y) (h0:u0<B) (hU:U<Y) (h1:u1<B) :
  ∃q1 U2 q0 U3,(U*B+u1)/Y=q1/\(U2*B+u0)/Y=q0/\Y*q1+U2=U*B+u1/\U2<Y/\Y*q0+U3=U2*B+u0/\U3<Y/\q1<B/\q0<B/\V/Y=q1*B+q0/\V%Y=U3:=by
 obtain ⟨a,b⟩:=Qri hV hY h0
 have l:∀{u v:Nat},u<Y->v<B->(u*B+v)/Y<B:=λ{u v} hu hv=>by
  rw [Z83 hY]
  have:=Z11 B (show u+1<=Y from hu)
  rw [Z21,Z85] at this
  rw [Z54 B Y];omega
 have hr:=Z88 (U*B+u1) hY
 exact ⟨_,_,_,_,rfl,rfl,Z69 _ _,hr,Z69 _ _,Z88 _ hY,l hU h1,l hr h0,a,b⟩
theorem Qvk {hi lo s:Nat} (hs:s<=64):(hi*18446744073709551616+lo)*2^s=(hi*2^s+lo/2^(64-s))*18446744073709551616+lo*2^s%18446744073709551616:=by
 have e:18446744073709551616=2^(64-s)*2^s:=by rw [<-Z93,show 64-s+s=64 by omega]
 have h:lo/2^(64-s)=lo*2^s/18446744073709551616:=by
  rw [e,Nat.mul_div_mul_right _ _ (Nat.two_pow_pos s)]
 rw [h,Z21,Z21,Nat.mul_right_comm,Z33]
 have:=Z69 (lo*2^s) 18446744073709551616
 omega
theorem bits_Div64 {hi lo y:Nat} (h:hi<y) (hlo:lo<18446744073709551616) (hy:y<18446744073709551616) :
  z46.F hi lo y=some ((((hi*18446744073709551616+lo)/y:Nat):Int),(((hi*18446744073709551616+lo)%y:Nat):Int)):=by
 rcases Z16 hi with h0|h0
 ·subst h0
  have:=Qmg (a:=(lo:Int)) (b:=(y:Int)) (by omega) (by omega)
  rw [show ((0:Nat):Int)=0 from rfl,this,Nat.zero_mul,Z24]
  rfl
 obtain ⟨s,hs,s1,s2,hlead⟩:=Qqh (x:=y) (by omega) hy
 unfold z46.F
 rw [Qc (by omega),Qc (by omega),Qc (by omega),hlead]
 simp only [Zb]
 have hp:=Nat.two_pow_pos s
 have hV:=Qvk (hi:=hi) (lo:=lo) (s:=s) (by omega)
 have hlt:(hi*18446744073709551616+lo)*2^s<y*2^s*18446744073709551616:=by
  rw [Nat.mul_right_comm];exact Nat.mul_lt_mul_of_pos_right (by omega) hp
 have hb:lo/2^(64-s)<2^s:=by
  rw [Z83 (Nat.two_pow_pos _),<-Z93,show s+(64-s)=64 by omega];exact hlo
 have hqy:=Nat.mul_div_mul_right (hi*18446744073709551616+lo) y hp
 have hmy:=Nat.mul_mod_mul_right (2^s) (hi*18446744073709551616+lo) y
 have e1:wr .u64 (s:Int)=s:=Qp (by omega) (by omega)
 have e4:wr .u64 ((64:Int)-s)=((64-s:Nat):Int):=by rw [Qp (by omega) (by omega)];omega
 have e5:min (64-s) 64=64-s:=by omega
 have e3:min s 64=s:=by omega
 have eY:wr .u64 ((y:Int)*2^s)=((y*2^s:Nat):Int):=by
  rw [show (y:Int)*2^s=((y*2^s:Nat):Int) by push_cast;rfl,Qp (by omega) (by omega)]
 have eL:wr .u64 ((lo:Int)*2^s)=((lo*2^s%18446744073709551616:Nat):Int):=by
  rw [show (lo:Int)*2^s=((lo*2^s:Nat):Int) by push_cast;rfl,W9];rfl
 have hUY:hi*2^s+lo/2^(64-s)<y*2^s:=by
  have:(hi*2^s+lo/2^(64-s))*18446744073709551616<y*2^s*18446744073709551616:=by omega
  exact Nat.lt_of_mul_lt_mul_right this
 have hHi:=Nat.lt_of_le_of_lt (Nat.le_add_right (hi*2^s) (lo/2^(64-s))) (Nat.lt_trans hUY s2)
 have eH:wr .u64 ((hi:Int)*2^s)=((hi*2^s:Nat):Int):=by
  rw [show (hi:Int)*2^s=((hi*2^s:Nat):Int) by push_cast;rfl,Qp (by omega) (by omega)]
 have eO:=Qtj (a:=hi) (s:=s) hb (by omega)
 simp only [e1,e4,Zi,e3,e5,eY,eL,eH,Qbl,eO,show min 32 64=32 from rfl]
 generalize hU:hi*2^s+lo/2^(64-s)=U at *
 generalize hYe:y*2^s=Y at *
 generalize hLe:lo*2^s%18446744073709551616=L at *
 have hL:L<18446744073709551616:=by rw [<-hLe];exact Z88 _ (by omega)
 have aY:=Qid s2;have aL:=Qid hL
 simp only [aY,aL,show (2:Nat)^32=4294967296 from rfl]
 rw [if_pos (by omega),if_pos (by omega),if_pos (by omega),if_pos (by omega)]
 generalize hy1:Y/4294967296=y1 at *
 generalize hy0:Y%4294967296=y0 at *
 generalize hu1:L/4294967296=u1 at *
 generalize hu0:L%4294967296=u0 at *
 have hYd:Y=y1*4294967296+y0:=by omega
 have hLd:L=u1*4294967296+u0:=by omega
 have b1:2147483648<=y1/\y1<4294967296:=by omega
 have b0:y0<4294967296:=by omega
 have b2:u1<4294967296:=by omega
 have b3:u0<4294967296:=by omega
 rw [if_neg (by omega)]
 have hYp:0<Y:=by omega
 obtain ⟨q1,U2,q0,U3,dq1,dq0,m1,m2,m3,m4,hq1,hq0,V1,V2⟩:=Qt1 (B:=4294967296) (V:=U*18446744073709551616+L) (Y:=Y) (U:=U) (u1:=u1) (u0:=u0) (by omega) hYp b3 hUY b2
 have first:∀{u:Nat},u<18446744073709551616->wr .u64 (Int.tdiv (u:Int) (y1:Int))=((u/y1:Nat):Int)/\wr .u64 ((u:Int)-wr .u64 (wr .u64 (Int.tdiv (u:Int) (y1:Int))*(y1:Int)))=((u%y1:Nat):Int):=λ{u} hu=>by
  have h1:=Nat.div_le_self u y1
  have h2:=Z69 u y1
  have h3:Int.tdiv (u:Int) (y1:Int)=((u/y1:Nat):Int):=by rw [Qck (by omega)];rfl
  rw [h3]
  generalize u/y1=q at *
  generalize u%y1=r at *
  rw [Qp (n:=(q:Int)) (by omega) (by omega)]
  refine ⟨rfl,?_⟩
  rw [Z54] at h2
  rw [show (q:Int)*(y1:Int)=((q*y1:Nat):Int) from rfl]
  generalize q*y1=P at *
  rw [Qp (n:=(P:Int)) (by omega) (by omega),Qp (by omega) (by omega)]
  omega
 obtain ⟨f1,f2⟩:=first (u:=U) (by omega)
 simp only [f2]
 rw [f1]
 obtain ⟨r1,d1⟩:=Qwb (y1:=y1) (y0:=y0) (u:=U) (u0:=u1) b1.1 b1.2 b0 (by omega) b2
 rw [d1,<-hYd,dq1]
 simp only [Zb]
 rw [if_neg (by omega)]
 have eU2:wr .u64 (wr .u64 (wr .u64 ((U:Int)*4294967296)+(u1:Int))-wr .u64 ((q1:Int)*(Y:Int)))=(U2:Int):=by
  rw [show (q1:Int)*(Y:Int)=((Y*q1:Nat):Int) by push_cast;exact Int.mul_comm _ _,W9,W9,W9,W9]
  generalize Y*q1=P at m1 ⊢
  clear d1 V1 V2 m3 m4 dq1 dq0 hV hlt hqy hmy
  omega
 simp only [eU2]
 obtain ⟨g1,g2⟩:=first (u:=U2) (by omega)
 simp only [g2]
 rw [g1]
 obtain ⟨r2,d2⟩:=Qo4 (y1:=y1) (y0:=y0) (u:=U2) (u0:=u0) b1.1 b1.2 b0 (by omega) b3
 rw [d2,<-hYd,dq0]
 simp only [Zb]
 rw [if_pos (by omega)]
 have eU3:wr .u64 (wr .u64 (wr .u64 ((U2:Int)*4294967296)+(u0:Int))-wr .u64 ((q0:Int)*(Y:Int)))=(U3:Int):=by
  rw [show (q0:Int)*(Y:Int)=((Y*q0:Nat):Int) by push_cast;exact Int.mul_comm _ _,W9,W9,W9,W9]
  generalize Y*q0=P at m3 ⊢
  clear d1 d2 V1 V2 m1 dq1 dq0 hV hlt hqy hmy
  omega
 rw [eU3,Qbl,Qp (n:=(q1:Int)*4294967296) (by omega) (by omega),Qp (by omega) (by omega)]
 rw [hV,V1] at hqy
 rw [hV,V2] at hmy
 rw [<-hqy,hmy,Nat.mul_div_cancel _ hp]
 rfl
theorem Qh3 {a:J0} {b N:Nat} (ha:inB LB a) (hb:0<b) (hb':b<18446744073709551616) (hl:a.length<=800000000) (hN:(N:Int)=valB LB a) :
  ∀
   (k:Nat),k<=a.length->∀(m:Nat) (q:J0),(m:Int)=valB LB (a.drop k)->q.length=a.length->inB LB q->valB LB (q.drop k)=((m/b:Nat):Int) ->
   ∃q',Runs (λrec x=>z47.l0P a b rec some x) (((m%b:Nat):Int),(k:Int)-1,q) (((N%b:Nat):Int),(-1:Int),q')/\q'.length=a.length/\inB LB q'/\valB LB q'=((N/b:Nat):Int)
 |
  0,hk,m,q,hm,hq,hi,hv=>by
  have:m=N:=by rw [Z59] at hm;omega
  subst this
  refine ⟨q,.done λrec=>?_,hq,hi,by rwa [Z59] at hv⟩
  unfold z47.l0P
  simp only
  rw [Qc (by omega)];rfl
 |
  k+1,hk,m,q,hm,hq,hi,hv=>by
  have hka:k<a.length:=by omega
  have hkq:k<q.length:=by omega
  have hd:=Jn (B:=LB) (by decide) ha k
  obtain ⟨d,hd'⟩:∃d:Nat,a.getD k 0=(d:Int):=⟨(a.getD k 0).toNat,by omega⟩
  have hd2:d<18446744073709551616:=by rw [hd'] at hd;exact_mod_cast hd.2
  obtain ⟨r,hr⟩:∃r,m%b=r:=⟨_,rfl⟩
  have hrb:r<b:=hr▸Z88 m hb
  obtain ⟨x,hx⟩:∃x,r*18446744073709551616+d=x:=⟨_,rfl⟩
  have hxb:x<b*18446744073709551616:=by omega
  obtain ⟨z,hz⟩:∃z,x/b=z:=⟨_,rfl⟩
  obtain ⟨w,hw⟩:∃w,x%b=w:=⟨_,rfl⟩
  obtain ⟨y,hy⟩:∃y,m/b=y:=⟨_,rfl⟩
  have hq1:z<18446744073709551616:=hz▸Nat.div_lt_of_lt_mul hxb
  have hmm:b*y+r=m:=by rw [<-hy,<-hr];exact Z69 m b
  have hm':((d+LB*m:Nat):Int)=valB LB (a.drop k):=by rw [Qa4,hd',<-hm,Int.natCast_add,Z43]
  have e:d+LB*m=x+b*(LB*y):=by
   have h4:b*(LB*y)=LB*(b*y):=by rw [<-Z91,Z54 b LB,Z91]
   have h5:LB*m=LB*(b*y)+LB*r:=by rw [<-hmm,Nat.mul_add]
   rw [h4,h5,<-hx,Z54 r];show _=18446744073709551616*r+d+LB*(b*y)
   have:LB*r=18446744073709551616*r:=rfl
   omega
  have hdiv:(d+LB*m)/b=z+LB*y:=by rw [e,Nat.add_mul_div_left _ _ hb,hz]
  have hmod:(d+LB*m)%b=w:=by rw [e,Nat.add_mul_mod_self_left,hw]
  have hvq:valB LB ((q.set k (z:Int)).drop k)=(((d+LB*m)/b:Nat):Int):=by
   rw [Qa4,Qk7,hv,hdiv,hy]
   have:(q.set k (z:Int)).getD k 0=(z:Int):=by simp [List.getD,hkq]
   rw [this,Int.natCast_add,Z43]
  obtain ⟨q',r1,r2,r3,r4⟩:=Qh3 ha hb hb' hl hN k (by omega) (d+LB*m) (q.set k (z:Int)) hm' (by simp [hq]) (Qcl hi (by show (0:Int)<=(z:Int)/\(z:Int)<((18446744073709551616:Nat):Int);omega)) hvq
  rw [hmod] at r1
  refine ⟨q',.step (λrec=>?_) r1,r2,r3,r4⟩
  have ek:((k+1:Nat):Int)-1=(k:Int):=by omega
  unfold z47.l0P
  simp only
  rw [ek,bif_t (by omega),if_pos (by omega),Zi,hd',hr,bits_Div64 hrb hd2 hb',hx,hz,hw]
  simp only [Zb]
  rw [if_pos (by omega),if_pos hkq,Qg (by omega) (by omega)]
theorem quot_by {a b:Nat} (hb:0<b) (hb':b<18446744073709551616) (ha:(lb a).length<=800000000):∃q,z47.F (lb a) (b:Int)=some (q,((a%b:Nat):Int))/\q.length=(lb a).length/\inB LB q/\valB LB q=((a/b:Nat):Int):=by
 obtain ⟨q',r1,r2,r3,r4⟩:=Qh3 (a:=lb a) (b:=b) (N:=a) (Wi bL a) hb hb' ha (by rw [W5 bL]) (lb a).length (Z3 _) 0 (List.replicate (lb a).length 0) (by rw [List.drop_length];rfl) (by simp) (Qc4 (by decide) _) (by rw [Z73 (by simp)];simp [valB])
 rw [Nat.zero_mod] at r1
 have e:z47.l0 (lb a) (b:Int) ((0:Int),((lb a).length:Int)-1,List.replicate (lb a).length 0)=some (((a%b:Nat):Int),(-1:Int),q'):=r1.lfp
 refine ⟨q',?_,r2,r3,r4⟩
 unfold z47.F
 rw [if_pos (by omega),Zi,Qg (by omega) (by omega),e]
 rfl
theorem Qul {a b:Nat} (hb:0<b) (hb':b<18446744073709551616) (ha:(lb a).length<=800000000):Y6 a b:=by
 rcases Z65 a b with h|h
 ·exact Qkl h (by omega)
 ·have hl:(lb b).length<=1:=Y4 bL (by simpa using hb')
  obtain ⟨q,q1,q2,q3,q4⟩:=quot_by hb hb' ha
  unfold Y6 z52.F
  rw [W0]
  simp only [Zb]
  rw [Qc (by omega),Qcq (by omega)]
  simp only [Zb]
  have:¬cmpI (a:Int) b<0:=by unfold cmpI;rw [if_neg (by omega)];split<;>omega
  rw [Qc this,Qb1 (by show List.length _<=_;omega),Qb1 (by show List.length _<=_;omega)]
  simp only [Zb]
  rw [Qc7 hb hb',Z25,bif_t (by omega),if_pos (by omega),show [(b:Int)].getD 0 0=b from rfl,q1]
  simp only [Zb]
  rw [Qmt q3 (by show List.length _<=_;omega),q4]
  simp only [Zb]
  have hm:=Z88 a hb
  rw [W8 (by omega)]
  rfl
inductive Rem (len:Nat):Nat->Nat->List Int->Prop
 |stop (j:Nat) (h:len<=j):Rem len 0 j []
 |step (n j:Nat) (ds:List Int) (h:0<n\/j<len) (hr:Rem len (n/10) (j+1) ds):Rem len n j (((n%10:Nat):Int)::ds)
def asc (d:Int):Int:=48+d
theorem Qph {s:J0} {i:Nat} {x:Int} (h:i<s.length):(s.set i x).drop i=x::s.drop (i+1):=by
 rw [Z41 (by simpa using h),Qk7]
 simp
theorem Qp6 {len:Nat} (hlen:len<=20) {n j:Nat} {ds:J0} (h:Rem len n j ds):n<18446744073709551616->j+ds.length<=20->∀s:J0,s.length=20 ->
  ∃s',Runs (λrec x=>z91.l0P (len:Int) rec some x) ((n:Int),((20-j:Nat):Int),s) ((0:Int),((20-j-ds.length:Nat):Int),s')/\s'.length=20/\s'.drop (20-j-ds.length)=ds.reverse.map asc++s.drop (20-j):=by
 induction h with
 |
  stop j h=>
  intro _ hj s hs
  simp only [Z29,Z71] at hj
  refine ⟨s,.done λrec=>?_,hs,by simp⟩
  unfold z91.l0P
  simp only [Z29,Nat.sub_zero]
  rw [Qc (by omega),Qg (by omega) (by omega),Qc (by omega)]
  rfl
 |
  step n j ds h hr ih=>
  intro hn hj s hs
  simp only [Z8] at hj
  have hi:20-(j+1)<s.length:=by omega
  obtain ⟨s',r1,r2,r3⟩:=ih (by omega) (by omega) (s.set (20-(j+1)) (asc ((n%10:Nat):Int))) (by simpa using hs)
  refine ⟨s',?_,r2,?_⟩
  ·rw [Z8,show 20-j-(ds.length+1)=20-(j+1)-ds.length by omega]
   refine .step (λrec=>?_) r1
   have e1:wr .i64 (((20-j:Nat):Int)-1)=((20-(j+1):Nat):Int):=by rw [Qg (by omega) (by omega)];omega
   have e2:wr .u64 (Int.tdiv (n:Int) 10)=((n/10:Nat):Int):=by rw [Qck (by omega),Qp (by omega) (by omega)];rfl
   have e3:wr .u8 (wr .u64 (48+Int.tmod (n:Int) 10))=asc ((n%10:Nat):Int):=by
    rw [Qbo (by omega),Qp (by omega) (by omega),Qak (by omega) (by omega)];rfl
   unfold z91.l0P
   simp only [e1,e2,e3]
   rcases Z16 n with h0|h0
   ·have hjl:j<len:=h.resolve_left (by omega)
    rw [Qc (by omega),Qg (by omega) (by omega),bif_t (by omega),if_pos (by omega),Zi,if_pos hi]
   ·rw [bif_t (by omega),if_pos (by omega),Zi,if_pos hi]
  ·rw [Z8,show 20-j-(ds.length+1)=20-(j+1)-ds.length by omega,r3,Qph hi,show 20-(j+1)+1=20-j by omega]
   simp
theorem Qok {ds:J0} (h:inB 10 ds):(ds.map asc).map (λn=>UInt8.ofNat n.toNat)=ds.map ch:=by
 rw [List.map_map]
 refine Z63 λd hd=>?_
 have:=h d hd
 show UInt8.ofNat (48+d).toNat=UInt8.ofNat (48+d.toNat)
 rw [show (48+d).toNat=48+d.toNat by omega]
theorem Rem.inB {len n j:Nat} {ds:J0} (h:Rem len n j ds):inB 10 ds:=by
 induction h with
 |stop=>exact Qed _
 |step n j ds h hr ih=>exact Jd.2 ⟨by omega,ih⟩
theorem Qnx {B:Nat} {l:J0} (h:inB B l):inB B l.reverse:=λx hx=>h x (by simpa using hx)
theorem Qoq {len n:Nat} {ds:J0} (hlen:len<=20) (hn:n<18446744073709551616) (h:Rem len n 0 ds) (hd:ds.length<=20):z91.F (n:Int) (len:Int)=some (ds.reverse.map ch):=by
 obtain ⟨s',r1,r2,r3⟩:=Qp6 hlen h hn (by omega) (List.replicate 20 0) (by simp)
 have e:z91.l0 (len:Int) ((n:Int),(20:Int),List.replicate 20 (0:Int))=some ((0:Int),((20-0-ds.length:Nat):Int),s'):=r1.lfp
 unfold z91.F
 rw [e]
 simp only [Zb]
 have hl:(s'.drop (20-0-ds.length)).length=ds.length:=by rw [Z17];omega
 rw [if_pos r2,if_pos (by omega),Zi,Z18 (by rw [hl];omega),r3]
 simp only [Nat.sub_zero,List.drop_replicate,Nat.sub_self,List.replicate_zero,Z35]
 rw [Qok (Qnx h.inB)]
def lsd:Nat->Nat->J0
 |0,_=>[]
 |k+1,n=>((n%10:Nat):Int)::lsd k (n/10)
theorem Qd3:∀(k n:Nat),(lsd k n).length=k
 |0,_=>rfl
 |k+1,n=>by simp [lsd,Qd3 k]
theorem Qj8 {len:Nat}:∀(k n j:Nat),j+k=len->n<10^k->Rem len n j (lsd k n)
 |
  0,n,j,hj,hn=>by
  have:n=0:=by simpa using hn
  subst this;exact .stop j (by omega)
 |k+1,n,j,hj,hn=>.step n j _ (.inr (by omega)) (Qj8 k (n/10) (j+1) (by omega) (by rw [Z55] at hn;omega))
theorem Qqe {len:Nat} (n:Nat):∀j,(len<=j\/0<n/\len<=j+1)->Rem len n j (toB 10 n):=by
 induction n using Nat.strongRecOn with
 |
  _ n ih=>
  intro j hj
  rcases Z16 n with h0|h0
  ·subst h0;rw [toB_zero];exact .stop j (by omega)
  ·rw [Wq b10 h0]
   exact .step n j _ (.inl h0) (ih _ (Z89 h0 (by decide)) (j+1) (.inl (by omega)))
theorem Qfn:∀(k low q:Nat),0<q->low<10^k->toB 10 (low+10^k*q)=lsd k low++toB 10 q
 |
  0,low,q,hq,hl=>by
  have:low=0:=by simpa using hl
  subst this;simp [lsd]
 |
  k+1,low,q,hq,hl=>by
  have hp:0<10^k:=Nat.pow_pos (by decide)
  have hpq:0<10^k*q:=Nat.mul_pos hp hq
  have e:low+10^(k+1)*q=low+10*(10^k*q):=by rw [Z55,Z54 (10^k),Z91]
  rw [e,Wq b10 (by omega),lsd]
  rw [Nat.add_mul_mod_self_left,Nat.add_mul_div_left _ _ (by decide),Qfn k (low/10) q hq (by rw [Z55] at hl;omega)]
  rfl
inductive Groups:Nat->List (List UInt8)->Prop
 |zero:Groups 0 []
 |last (n:Nat) (h0:0<n) (h:n<10^18):Groups n [(toB 10 n).reverse.map ch]
 |more (low q:Nat) (gs:List (List UInt8)) (hl:low<10^18) (h0:0<q) (hg:Groups q gs):Groups (low+10^18*q) (((lsd 18 low).reverse.map ch)::gs)
theorem Groups.text {n:Nat} {gs:List J1} (h:Groups n gs):gs.reverse.flatten=(toB 10 n).reverse.map ch:=by
 induction h with
 |zero=>rw [toB_zero];rfl
 |last n h0 h=>simp
 |
  more low q gs hl h0 hg ih=>
  rw [List.reverse_cons,Z53,ih,Qfn 18 low q h0 hl,List.reverse_append,Z52]
  simp
theorem Groups.pos {n:Nat} {gs:List J1} (h:Groups n gs):∀g∈gs,1<=g.length:=by
 induction h with
 |zero=>intro g hg;simp at hg
 |
  last n h0 h=>
  intro g hg
  simp only [Z84] at hg;subst hg
  rw [Wq b10 h0];simp
 |
  more low q gs hl h0 hg ih=>
  intro g hg
  rcases Z48.1 hg with rfl|hg
  ·simp [Qd3]
  ·exact ih g hg
theorem Qjg:∀{gs:List J1},(∀g∈gs,1<=g.length)->gs.length<=gs.flatten.length
 |[],_=>by simp
 |
  g::gs,h=>by
  have:=h g (by simp)
  have:=Qjg λg' h'=>h g' (List.mem_cons_of_mem _ h')
  simp only [Z8,Z39,Z6];omega
theorem Groups.len {n:Nat} {gs:List J1} (h:Groups n gs):gs.length<=sz n/\gs.flatten.length=sz n:=by
 have ht:=congrArg List.length h.text
 have e:gs.reverse.flatten.length=gs.flatten.length:=by
  simp only [List.length_flatten,List.map_reverse,List.sum_reverse]
 rw [e] at ht
 have ht:gs.flatten.length=sz n:=by rw [ht];unfold sz;simp
 exact ⟨by rw [<-ht];exact Qjg h.pos,ht⟩
theorem Qss (l:J0) (hl:l.length<=1):z92.l2 l (((l.length:Nat):Int)) ((0:Int),(0:Int))=some (l.getD 0 0,(l.length:Int)):=by
 match l,hl with
 |
  [],_=>
  refine (Runs.done λrec=>?_:Runs (λrec x=>z92.l2P [] _ rec some x) _ _).lfp
  unfold z92.l2P
  simp only [Z29]
  rw [Qc (by omega)];rfl
 |
  [x],_=>
  refine (Runs.step (y:=(x,(1:Int))) (λrec=>?_) (Runs.done λrec=>?_):Runs (λrec x'=>z92.l2P [x] _ rec some x') _ _).lfp
  ·unfold z92.l2P
   simp only [Z25]
   rw [bif_t (by omega),if_pos (by omega),Qg (by omega) (by omega)];rfl
  ·unfold z92.l2P
   simp only [Z25]
   rw [Qc (by omega)];rfl
theorem Qth {n:Nat} (h:n<18446744073709551616):(lb n).getD 0 0=(n:Int)/\(lb n).length<=1:=by
 rcases Z16 n with rfl|h0
 ·rw [lb_zero];simp
 ·rw [Qc7 h0 h];simp
theorem Qm1 {low:Nat} {len:Nat} {ds:J0} (hlen:len<=20) (hl:low<18446744073709551616) (hr:Rem len low 0 ds) (hd:ds.length<=20) {gs:List J1} (hg:gs.length<=800000000) {rec done:(J0×List J1)->Option (J0×List J1)} {y:Int} {r:J0×J0×Int} :
  z92.j1010a rec done ((low:Int),y) (len:Int) gs r=rec (r.1,gs++[ds.reverse.map ch]):=by
 unfold z92.j1010a
 rw [Qoq hlen hl hr hd]
 simp only [Zb,Z25]
 rw [if_pos (by omega)]
theorem Qo6:∀(n:Nat),sz n<=100000000->∀gs:List J1,gs.length+sz n<=700000000->∃l,Groups n l/\Runs (λrec x=>z92.l0P rec some x) (lb n,gs) ([],gs++l):=by
 intro n
 induction n using Nat.strongRecOn with
 |
  _ n ih=>
  intro hs gs hg
  obtain ⟨U,hU⟩:∃U,U=1000000000000000000:=⟨_,rfl⟩
  have hU10:10^18=U:=by rw [hU]
  rcases Z16 n with h0|h0
  ·subst h0
   refine ⟨[],.zero,.done λrec=>?_⟩
   unfold z92.l0P
   simp only [W0,Zb]
   rw [lb_zero,Z35];rfl
  ·have hUp:0<U:=by omega
   have hdm:=Z69 n U
   have hml:=Z88 n hUp
   have hdl:n/U<=n:=Nat.div_le_self _ _
   have hD:Y6 n U:=Qul hUp (by omega) (by have:=Q6 n;omega)
   have hqlt:n/U<n:=Z89 h0 (by omega)
   obtain ⟨q,hq⟩:∃q,n/U=q:=⟨_,rfl⟩
   obtain ⟨low,hlow⟩:∃low,n%U=low:=⟨_,rfl⟩
   unfold Y6 at hD
   rw [hq] at hdm hdl hD hqlt;rw [hlow] at hdm hml hD
   have hsq:sz q<=sz n:=Qf9 hdl
   obtain ⟨g1,g2⟩:=Qth (n:=low) (by omega)
   have hof:z33.F [(1000000000000000000:Int)]=some (lb U):=by rw [W8 (by omega),hU];rfl
   have hl2:=Qss (lb low) g2
   rw [g1] at hl2
   have body:∀{rec done:(J0×List J1)->Option (J0×List J1)},z92.l0P rec done (lb n,gs) =
     (bif decide (q=0) then z92.j1010a rec done ((low:Int),((lb low).length:Int)) 1 gs (lb q,lb low,0) else z92.j1010a rec done ((low:Int),((lb low).length:Int)) 18 gs (lb q,lb low,0)):=λ{rec done}=>by
    unfold z92.l0P
    simp only [W0,Zb]
    rw [Zf (by omega),Zo,Zd,hof]
    simp only [Zb]
    rw [hD]
    simp only [Zb]
    rw [Qb1 (by show List.length _<=_;omega)]
    simp only [Zb]
    rw [hl2]
    simp only [Zb,W0]
   rcases Z16 q with hq0|hq0
   ·subst hq0
    have hn:n=low:=by omega
    subst hn
    have hsz:sz n<=18:=Q3 (by rw [hU10];exact hml)
    refine ⟨[(toB 10 n).reverse.map ch],.last n h0 (by rw [hU10];exact hml),.step (y:=([],gs++[(toB 10 n).reverse.map ch])) (λrec=>?_) (.done λrec=>?_)⟩
    ·rw [body,bif_t rfl]
     refine (Qm1 (len:=1) (by omega) (by omega) (Qqe n 0 (.inr ⟨h0,by omega⟩)) (by show sz n<=20;omega) (by omega)).trans ?_
     rw [lb_zero]
    ·unfold z92.l0P
     rw [<-lb_zero]
     simp only [W0,Zb]
     rw [lb_zero];rfl
   ·obtain ⟨l,l1,l2⟩:=ih q hqlt (by omega) (gs++[(lsd 18 low).reverse.map ch]) (by
     have h1:sz q<sz n:=by
      have:=congrArg List.length (Qfn 18 low q hq0 (by rw [hU10];exact hml))
      rw [Z6,Qd3,hU10,show low+U*q=n by omega] at this
      unfold sz;omega
     simp only [Z6,Z25];omega)
    have hgn:Groups n (((lsd 18 low).reverse.map ch)::l):=by
     have:=Groups.more low q l (by rw [hU10];exact hml) hq0 l1
     rwa [hU10,show low+U*q=n by omega] at this
    refine ⟨_,hgn,.step (y:=(lb q,gs++[(lsd 18 low).reverse.map ch])) (λrec=>?_) (by rw [show gs++((lsd 18 low).reverse.map ch)::l=(gs++[(lsd 18 low).reverse.map ch])++l by simp];exact l2)⟩
    rw [body,Qc (by omega)]
    exact Qm1 (len:=18) (by omega) (by omega) (Qj8 18 low 0 (by omega) (by rw [hU10];exact hml)) (by rw [Qd3];omega) (by omega)
def byts (s:J1):J0:=s.map λc=>(c.toNat:Int)
theorem Qo0 (a b:J1):byts (a++b)=byts a++byts b:=by simp [byts]
theorem Qu3 (s:J1):(byts s).all Y7=true:=by
 rw [Z14]
 intro x hx
 obtain ⟨c,_,rfl⟩:=List.mem_map.1 hx
 have:=c.toNat_lt
 simp [Y7];omega
theorem Qt6 (s:J1):(byts s).map (λn=>UInt8.ofNat n.toNat)=s:=by
 unfold byts
 rw [List.map_map]
 conv=>rhs;rw [<-List.map_id s]
 exact Z63 λc _=>by simp
theorem Qdv (s:J1):(byts s).length=s.length:=by simp [byts]
theorem Qnf {gs:List J1} (hg:gs.length<=800000000) (hs:gs.flatten.length<=100000000):∀(k:Nat),k<=gs.length->∀acc:J1,acc.length+(gs.take k).flatten.length<=100000000 ->
  ∃i,Runs (λrec x=>z92.l4P gs rec some x) ((k:Int)-1,byts acc) (i,byts (acc++(gs.take k).reverse.flatten))
 |
  0,hk,acc,ha=>⟨-1,by
  refine .done λrec=>?_
  unfold z92.l4P
  simp only
  rw [Qc (by omega)];simp⟩
 |
  k+1,hk,acc,ha=>by
  have hk':k<gs.length:=by omega
  have hget:gs.getD k []=gs[k]:=by simp [List.getD,hk']
  have htk:gs.take (k+1)=gs.take k++[gs[k]]:=by rw [List.take_add_one,Z1 hk'];rfl
  have hfl:(gs.take (k+1)).flatten.length=(gs.take k).flatten.length+gs[k].length:=by rw [htk,Z53,Z6,List.flatten_singleton]
  obtain ⟨i,hi⟩:=Qnf hg hs k (by omega) (acc++gs[k]) (by rw [Z6];omega)
  refine ⟨i,.step (λrec=>?_) (by rw [htk,List.reverse_append,List.reverse_singleton,Z53,List.flatten_singleton,<-Z50];exact hi)⟩
  unfold z92.l4P
  simp only
  rw [show ((k+1:Nat):Int)-1=(k:Int) by omega,bif_t (by omega),if_pos (by omega),Zi,if_pos hk',hget]
  change (if ((byts acc).length+(byts gs[k]).length)*1<=140737488355328 then _ else none)=_
  rw [Qdv,Qdv,if_pos (by omega),Qg (by omega) (by omega),Qo0]
  rfl
theorem digits_Print {n:Nat} (hs:sz n<=100000000):z92.F (lb n)=some (txt n):=by
 unfold z92.F
 rw [W0]
 simp only [Zb]
 rcases Z16 n with h0|h0
 ·subst h0;rfl
 rw [Qc (by omega)]
 obtain ⟨gs,g1,g2⟩:=Qo6 n hs [] (by simp only [Z29];omega)
 have e0:z92.l0 (lb n,[])=some ([],gs):=g2.lfp
 obtain ⟨l1,l2⟩:=g1.len
 have ht:=g1.text
 have hn:0<gs.length:=by
  cases gs with
  |nil=>exfalso;cases g1;omega
  |cons=>simp
 rw [e0]
 simp only [Zb]
 obtain ⟨k,hk⟩:∃k,gs.length=k+1:=⟨gs.length-1,by omega⟩
 have hk':k<gs.length:=by omega
 have hget:gs.getD k []=gs[k]:=by simp [List.getD,hk']
 have htk:gs=gs.take k++[gs[k]]:=by
  have:=List.take_add_one (l:=gs) (i:=k)
  rw [Z1 hk',Z18 (by omega)] at this;exact this
 have hfl:gs.flatten.length=(gs.take k).flatten.length+gs[k].length:=by
  conv=>lhs;rw [htk]
  rw [Z53,Z6,List.flatten_singleton]
 rw [hk,Qg (n:=((k+1:Nat):Int)-1) (by omega) (by omega),show ((k+1:Nat):Int)-1=(k:Int) by omega,bif_t (by omega),if_pos (by omega),Zi,if_pos (by omega),hget]
 change (if (0+(byts gs[k]).length)*1<=140737488355328 then ((z92.l4 gs (wr .i64 ((k:Int)-1),[]++byts gs[k])).bind _) else none)=_
 rw [Qdv,if_pos (by omega),Qg (by omega) (by omega),List.nil_append]
 obtain ⟨i,hi⟩:=Qnf (gs:=gs) (by omega) (by omega) k (by omega) gs[k] (by omega)
 have e4:z92.l4 gs ((k:Int)-1,byts gs[k])=some (i,byts (gs[k]++(gs.take k).reverse.flatten)):=hi.lfp
 have hall:gs[k]++(gs.take k).reverse.flatten=gs.reverse.flatten:=by
  conv=>rhs;rw [htk]
  rw [List.reverse_append,List.reverse_singleton,Z53,List.flatten_singleton]
 rw [e4,hall]
 simp only [Zb]
 have hlen:gs.reverse.flatten.length=sz n:=by rw [ht];unfold sz;simp
 have hszp:0<sz n:=by omega
 rw [Qdv,if_pos (by omega),if_pos ⟨trivial,by omega,Qu3 _⟩,Qt6,ht]
 unfold txt
 rw [if_neg (by omega)]
def itxt (z:Int):J1:=if z<0 then 45::txt z.natAbs else txt z.natAbs
theorem Qgi (n:Nat):(txt n).length<=sz n+1:=by
 unfold txt;split
 ·simp
 ·unfold sz;simp
theorem Qt4 (z:Int):(itxt z).length<=sz z.natAbs+2:=by
 have:=Qgi z.natAbs
 unfold itxt;split
 ·simp only [Z8];omega
 ·omega
theorem Qje {z:Int} (hs:sz z.natAbs<=100000000):z93.F (lb z.natAbs) (neg z)=some (itxt z):=by
 have:=Qgi z.natAbs
 unfold z93.F itxt
 by_cases h:z<0
 ·rw [bif_t h,digits_Print hs,if_pos h]
  simp only [Zb]
  rw [if_pos (by simp only [Z25];omega)];rfl
 ·rw [Qc h,digits_Print hs,if_neg h];rfl
theorem Qi7 {z:Int} (hs:sz z.natAbs<=100000000):z11.F (dg z.natAbs) (neg z)=some (itxt z):=by
 have h1:=Qgi z.natAbs
 have h2:=Qq8 z.natAbs
 exact Qrm (by omega) (by omega)
def ltr (b:UInt8):Bool:=decide (97<=b.toNat)&&decide (b.toNat<=122)
def dgt (b:UInt8):Bool:=decide (48<=b.toNat)&&decide (b.toNat<=57)
def wrd (b:UInt8):Bool:=ltr b||dgt b||decide (b.toNat=45)
def nmr (b:UInt8):Bool:=dgt b||decide (b.toNat=45)||decide (b.toNat=46)
def bln (b:UInt8):Bool:=decide (b.toNat=32)||decide (b.toNat=9)||decide (b.toNat=10)||decide (b.toNat=13)
def sgn (b:UInt8):Bool:=decide (b.toNat=123)||decide (b.toNat=125)||decide (b.toNat=61)||decide (b.toNat=59)||decide (b.toNat=44)
def skp:Bool->J1->J1
 |_,[]=>[]
 |true,b::t=>if b.toNat=10 then skp false t else skp true t
 |false,b::t=>if b.toNat=35 then skp true t else if bln b then skp false t else b::t
theorem W1:∀(r:Bool) (s:J1),(skp r s).length<=s.length
 |_,[]=>by simp [skp]
 |
  true,b::t=>by
  have h1:=W1 false t;have h2:=W1 true t
  unfold skp;split<;>simp<;>omega
 |
  false,b::t=>by
  have h1:=W1 false t;have h2:=W1 true t
  unfold skp;split
  ·simp;omega
  ·split<;>simp<;>omega
theorem Qmm:∀(b:Bool) (l:J1),l.drop (l.length-(skp b l).length)=skp b l:=by
 intro b l
 induction l generalizing b with
 |nil=>simp [skp]
 |
  cons c t iht=>
  have drop1:∀b',(c::t).drop ((c::t).length-(skp b' t).length)=t.drop (t.length-(skp b' t).length):=λb'=>by
   have:=W1 b' t
   rw [show (c::t).length-(skp b' t).length=(t.length-(skp b' t).length)+1 by simp;omega];rfl
  cases b with
  |
   true=>
   rw [skp];split
   ·rw [drop1];exact iht false
   ·rw [drop1];exact iht true
  |
   false=>
   rw [skp];split
   ·rw [drop1];exact iht true
   ·split
    ·rw [drop1];exact iht false
    ·simp
def dtd (s:J1):Bool:=decide (s.length=10)&&(List.range 10).all λi=>if i=4\/i=7 then decide ((s.getD i 0).toNat=45) else dgt (s.getD i 0)
def tokOf (s:J1):Int×J1×Int:=
 if ltr (s.getD 0 0) then (0,s.takeWhile wrd,0)
 else if dgt (s.getD 0 0)||decide ((s.getD 0 0).toNat=45) then
  if dtd (s.takeWhile nmr) then (2,s.takeWhile nmr,0) else if (mDec (s.takeWhile nmr)).2.2=0 then (1,s.takeWhile nmr,0) else (0,[],5)
 else if sgn (s.getD 0 0) then (3,s.take 1,0) else (0,[],4)
theorem Qib {p:UInt8->Bool} {b:UInt8} {t:J1} (h:p b=true):1<=((b::t).takeWhile p).length/\((b::t).takeWhile p).length<=(b::t).length:=by
 refine ⟨by rw [List.takeWhile_cons_of_pos h];simp,?_⟩
 exact (List.takeWhile_prefix p).length_le
theorem Qdq {s:J1} (h:s≠[]) (he:(tokOf s).2.2=0):1<=(tokOf s).2.1.length/\(tokOf s).2.1.length<=s.length:=by
 cases s with
 |nil=>exact (h rfl).elim
 |
  cons b t=>
  unfold tokOf at he ⊢
  simp only [List.getD_cons_zero] at he ⊢
  by_cases h1:ltr b=true
  ·rw [if_pos h1];exact Qib (by simp [wrd,h1])
  ·rw [if_neg h1] at he ⊢
   by_cases h2:(dgt b||decide (b.toNat=45))=true
   ·rw [if_pos h2] at he ⊢
    have hp:=Qib (p:=nmr) (b:=b) (t:=t) (by simp only [nmr,h2,Bool.true_or])
    by_cases h3:dtd (List.takeWhile nmr (b::t))=true
    ·rw [if_pos h3];exact hp
    ·rw [if_neg h3] at he ⊢
     by_cases h4:(mDec (List.takeWhile nmr (b::t))).2.2=0
     ·rw [if_pos h4];exact hp
     ·rw [if_neg h4] at he;simp at he
   ·rw [if_neg h2] at he ⊢
    by_cases h3:sgn b=true
    ·rw [if_pos h3];simp
    ·rw [if_neg h3] at he;simp at he
structure Tk where
 k:Int
 s:List UInt8
 p:Int
def Tk.v (t:Tk):List V:=[.int .i64 t.k,.str t.s,.int .i64 t.p]
def lx (N:Nat) (r:J1):List Tk×Int×Int:=
 if h:r=[] then ([],0,0) else
 if h2:(tokOf r).2.2=0 then
  let m:=lx N (skp false (r.drop (tokOf r).2.1.length))
  if m.2.2=0 then (⟨(tokOf r).1,(tokOf r).2.1,(N:Int)-r.length⟩::m.1,0,0) else ([],m.2.1,m.2.2)
 else ([],(N:Int)-r.length,(tokOf r).2.2)
termination_by r.length
decreasing_by
 have h3:=Qdq h h2
 have h4:=W1 false (r.drop (tokOf r).2.1.length)
 rw [Z17] at h4
 omega
theorem lx_nil (N:Nat):lx N []=([],0,0):=by rw [lx];rfl
theorem Qb9 {N:Nat} {r:J1} (h:r≠[]) (h2:(tokOf r).2.2≠0):lx N r=([],(N:Int)-r.length,(tokOf r).2.2):=by
 rw [lx,dif_neg h,dif_neg h2]
theorem Qan {N:Nat} {r:J1} (h:r≠[]) (h2:(tokOf r).2.2=0):lx N r =
  if (lx N (skp false (r.drop (tokOf r).2.1.length))).2.2=0 then (⟨(tokOf r).1,(tokOf r).2.1,(N:Int)-r.length⟩::(lx N (skp false (r.drop (tokOf r).2.1.length))).1,0,0)
  else ([],(lx N (skp false (r.drop (tokOf r).2.1.length))).2.1,(lx N (skp false (r.drop (tokOf r).2.1.length))).2.2):=by
 rw [lx,dif_neg h,dif_pos h2]
def lexOf (s:J1):List Tk×Int×Int:=lx s.length (skp false s)
theorem Qja (s:J1) (i:Nat) (h:i<s.length):(ByteArray.get! ⟨s.toArray⟩ i)=s.getD i 0:=by
 have h2:i<s.toArray.size:=by simpa using h
 show s.toArray[i]! = _
 rw [getElem!_pos s.toArray i h2]
 simp [Zl,h]
theorem dec_low {s:J1} {i:Nat} (h:i<s.length) (hb:(s.getD i 0).toNat<128):Utf8.decode ⟨s.toArray⟩ i=((s.getD i 0).toNat,1):=by
 unfold Utf8.decode
 simp only [Z71,Qja s i h]
 rw [if_pos hb]
theorem Qpy {s:J1} {i:Nat} (h:i<s.length) (hb:128<=(s.getD i 0).toNat):128<=(Utf8.decode ⟨s.toArray⟩ i).1:=by
 unfold Utf8.decode
 simp only [Z71,Qja s i h]
 rw [if_neg (by omega)]
 repeat' split
 all_goals first|(simp only [Utf8.runeError];omega)|(simp only [Z4,decide_eq_true_eq] at *;omega)|(simp only;omega)
theorem lex_letter (n:Int):z108.F n=some (decide (97<=n/\n<=122)):=by
 unfold z108.F
 by_cases h:n>=97
 ·rw [bif_t h];congr 1;exact decide_eq_decide.2 (by omega)
 ·rw [Qc h];congr 1;symm;exact Zf (by omega)
theorem lex_digit (n:Int):z109.F n=some (decide (48<=n/\n<=57)):=by
 unfold z109.F
 by_cases h:n>=48
 ·rw [bif_t h];congr 1;exact decide_eq_decide.2 (by omega)
 ·rw [Qc h];congr 1;symm;exact Zf (by omega)
theorem lex_wordly (n:Int):z110.F n=some (decide ((97<=n/\n<=122)\/(48<=n/\n<=57)\/n=45)):=by
 unfold z110.F
 rw [lex_letter]
 simp only [Zb]
 by_cases h:97<=n/\n<=122
 ·rw [bif_t h];congr 1;symm;exact Zt (.inl h)
 ·rw [Qc h,lex_digit]
  simp only [Zb]
  by_cases h2:48<=n/\n<=57
  ·rw [bif_t h2];congr 1;symm;exact Zt (.inr (.inl h2))
  ·rw [Qc h2];congr 1;exact decide_eq_decide.2 (by omega)
theorem lex_numeric (n:Int):z111.F n=some (decide ((48<=n/\n<=57)\/n=45\/n=46)):=by
 unfold z111.F
 rw [lex_digit]
 simp only [Zb]
 by_cases h:48<=n/\n<=57
 ·rw [bif_t h];congr 1;symm;exact Zt (.inl h)
 ·rw [Qc h]
  by_cases h2:n=45
  ·rw [bif_t h2];congr 1;symm;exact Zt (.inr (.inl h2))
  ·rw [Qc h2];congr 1;exact decide_eq_decide.2 (by omega)
theorem wrd_iff (b:UInt8):wrd b=decide ((97<=(b.toNat:Int)/\(b.toNat:Int)<=122)\/(48<=(b.toNat:Int)/\(b.toNat:Int)<=57)\/(b.toNat:Int)=45):=by
 rw [Z61];simp only [wrd,ltr,dgt,Z58,Z4,decide_eq_true_eq];omega
theorem nmr_iff (b:UInt8):nmr b=decide ((48<=(b.toNat:Int)/\(b.toNat:Int)<=57)\/(b.toNat:Int)=45\/(b.toNat:Int)=46):=by
 rw [Z61];simp only [nmr,dgt,Z58,Z4,decide_eq_true_eq];omega
def Ji (G:Int->Option Bool) (s:J1) {R:Type} (rec:Nat->Option R) (done:((J1×Nat)⊕Nat)->Option R):Nat->Option R:=λi=>
 if i<s.length then (G ((Utf8.decode ⟨s.toArray⟩ i).1:Int)).bind λr=>
  bif (!r) then (if (0:Int)<=((i:Nat):Int)/\((i:Nat):Int)<=((s).length:Int) then done (.inl (s.take (((i:Nat):Int)).toNat,i+(Utf8.decode ⟨s.toArray⟩ i).2)) else none)
  else rec (i+(Utf8.decode ⟨s.toArray⟩ i).2)
 else done (.inr i)
theorem Qjy {s:J1} {i:Nat} (h:i<s.length):s.drop i=s.getD i 0::s.drop (i+1):=by
 rw [Z41 h,Zl,Z1 h];rfl
theorem scan_runs {G:Int->Option Bool} {p:UInt8->Bool} {s:J1} (hG:∀i,i<s.length->G ((Utf8.decode ⟨s.toArray⟩ i).1:Int)=some (p (s.getD i 0))/\(p (s.getD i 0)=true->(Utf8.decode ⟨s.toArray⟩ i).2=1)) :
  ∀(f i:Nat),i+f=s.length->(∃q,Runs (λrec x=>Ji G s rec some x) i (.inl (s.take (i+((s.drop i).takeWhile p).length),q))/\i+((s.drop i).takeWhile p).length<s.length)\/(Runs (λrec x=>Ji G s rec some x) i (.inr s.length)/\i+((s.drop i).takeWhile p).length=s.length)
 |
  0,i,h=>by
  refine .inr ⟨.done λrec=>?_,?_⟩
  ·unfold Ji;rw [if_neg (by omega),show i=s.length by omega]
  ·rw [Z74 (by omega)];simp;omega
 |
  f+1,i,h=>by
  have hi:i<s.length:=by omega
  obtain ⟨h1,h2⟩:=hG i hi
  rw [Qjy hi]
  cases hp:p (s.getD i 0) with
  |
   false=>
   refine .inl ⟨i+(Utf8.decode ⟨s.toArray⟩ i).2,.done λrec=>?_,?_⟩
   ·unfold Ji
    rw [if_pos hi,h1,hp]
    simp only [Zb,Zo,Zd]
    rw [if_pos (by omega),List.takeWhile_cons_of_neg (by rw [hp];simp)]
    rfl
   ·rw [List.takeWhile_cons_of_neg (by rw [hp];simp)];simpa using hi
  |
   true=>
   have hw:=h2 hp
   have hst:∀rec:Nat->Option ((J1×Nat)⊕Nat),Ji G s rec some i=rec (i+1):=λrec=>by
    unfold Ji
    rw [if_pos hi,h1,hp,hw];rfl
   have hl:i+(List.takeWhile p (s.getD i 0::s.drop (i+1))).length=(i+1)+(List.takeWhile p (s.drop (i+1))).length:=by
    rw [List.takeWhile_cons_of_pos hp,Z8];omega
   rw [hl]
   rcases scan_runs hG f (i+1) (by omega) with ⟨q,r,hlt⟩|⟨r,he⟩
   ·exact .inl ⟨q,.step hst r,hlt⟩
   ·exact .inr ⟨.step hst r,he⟩
theorem Qk8 (p:UInt8->Bool) (s:J1):s.take (s.takeWhile p).length=s.takeWhile p:=
 (List.prefix_iff_eq_take.1 (List.takeWhile_prefix p)).symm
theorem scan_at {G:Int->Option Bool} {p:UInt8->Bool} (s:J1) (hG:∀n:Nat,n<128->∀b:UInt8,b.toNat=n->G (n:Int)=some (p b)) (hH:∀n:Nat,128<=n->G (n:Int)=some false) (hp:∀b:UInt8,128<=b.toNat->p b=false) :
  (∃q,lfp (λrec x=>Ji G s rec some x) 0=some (.inl (s.takeWhile p,q))/\(s.takeWhile p).length<s.length)\/(lfp (λrec x=>Ji G s rec some x) 0=some (.inr s.length)/\s.takeWhile p=s):=by
 have h:=scan_runs (G:=G) (p:=p) (s:=s) (λi hi=>by
  by_cases hb:(s.getD i 0).toNat<128
  ·rw [dec_low hi hb]
   exact ⟨hG _ hb _ rfl,λ_=>rfl⟩
  ·have hb':128<=(s.getD i 0).toNat:=by omega
   rw [hp _ hb',hH _ (Qpy hi hb')]
   exact ⟨rfl,λh=>by simp at h⟩) s.length 0 (by omega)
 rw [Z59,Z24] at h
 rcases h with ⟨q,r,hlt⟩|⟨r,he⟩
 ·exact .inl ⟨q,by rw [r.lfp,Qk8],hlt⟩
 ·refine .inr ⟨r.lfp,?_⟩
  have:=Qk8 p s
  rw [he,Z62] at this;exact this.symm
theorem token_l0 (s:J1):(∃q,z116.l0 s s 0=some (.inl (s.takeWhile wrd,q)))\/(z116.l0 s s 0=some (.inr s.length)/\s.takeWhile wrd=s):=by
 rcases scan_at (G:=z110.F) (p:=wrd) s (λn hn b hb=>by rw [lex_wordly,wrd_iff,hb]) (λn hn=>by rw [lex_wordly];congr 1;exact Zf (by omega)) (λb hb=>by rw [wrd_iff];exact Zf (by omega)) with ⟨q,h,_⟩|h
 ·exact .inl ⟨q,h⟩
 ·exact .inr h
theorem token_l0a (s:J1):(∃q,z116.l0a s s 0=some (.inl (s.takeWhile nmr,q)))\/(z116.l0a s s 0=some (.inr s.length)/\s.takeWhile nmr=s):=by
 rcases scan_at (G:=z111.F) (p:=nmr) s (λn hn b hb=>by rw [lex_numeric,nmr_iff,hb]) (λn hn=>by rw [lex_numeric];congr 1;exact Zf (by omega)) (λb hb=>by rw [nmr_iff];exact Zf (by omega)) with ⟨q,h,_⟩|h
 ·exact .inl ⟨q,h⟩
 ·exact .inr h
abbrev shp:J1:=[48,48,48,48,45,48,48,45,48,48]
theorem Qu6 {i:Nat} (h:i<10):Utf8.decode ⟨shp.toArray⟩ i=(if i=4\/i=7 then 45 else 48,1):=by
 have:i=0\/i=1\/i=2\/i=3\/i=4\/i=5\/i=6\/i=7\/i=8\/i=9:=by omega
 rcases this with rfl|rfl|rfl|rfl|rfl|rfl|rfl|rfl|rfl|rfl<;>exact dec_low (by decide) (by decide)
abbrev okD (s:J1) (i:Nat):Bool:=if i=4\/i=7 then decide ((s.getD i 0).toNat=45) else dgt (s.getD i 0)
theorem Qfi (b:UInt8):wr .i32 (b.toNat:Int)=b.toNat:=Qil (by omega) (by have:=b.toNat_lt;omega)
theorem Qf0 (b:UInt8):dgt b=decide (48<=(b.toNat:Int)/\(b.toNat:Int)<=57):=by
 rw [Z61];simp only [dgt,Z4,decide_eq_true_eq];omega
theorem dated_loop {s:J1} (hl:s.length=10):∀(f i:Nat),i+f=10->(∃q,Runs (λrec x=>z112.l0P s shp rec some x) i (.inl (false,q))/\∃j,i<=j/\j<10/\okD s j=false)\/(Runs (λrec x=>z112.l0P s shp rec some x) i (.inr 10)/\∀j,i<=j->j<10->okD s j=true)
 |
  0,i,h=>by
  refine .inr ⟨.done λrec=>?_,λj h1 h2=>by omega⟩
  unfold z112.l0P
  rw [if_neg (by show ¬i<10;omega),show i=10 by omega]
 |
  f+1,i,h=>by
  have hi:i<10:=by omega
  have hst:∀rec:Nat->Option ((Bool×Nat)⊕Nat),z112.l0P s shp rec some i=if okD s i=true then rec (i+1) else some (.inl (false,i+1)):=λrec=>by
   unfold z112.l0P
   rw [if_pos (show i<shp.length from hi),Qu6 hi]
   rw [lex_digit]
   simp only [Zb,Zi]
   rw [if_pos (by omega),Qfi,lex_digit]
   simp only [Zb,okD]
   have hil:i<s.length:=by omega
   obtain ⟨c,hc⟩:∃c,s.getD i 0=c:=⟨_,rfl⟩
   simp only [hc]
   have e:wr .u8 45=45:=by decide
   by_cases h47:i=4\/i=7
   ·simp only [if_pos h47]
    by_cases h45:c.toNat=45
    ·rw [h45,if_pos (by omega)];simp [e]
    ·have h45':¬((45:Int)=(c.toNat:Int)):=by omega
     by_cases hd:48<=(c.toNat:Int)/\(c.toNat:Int)<=57
     ·simp [hd,h45]
     ·rw [Zf hd,if_pos (by omega)]
      simp [h45,e,h45']
   ·simp only [if_neg h47,Qf0]
    by_cases hd:48<=(c.toNat:Int)/\(c.toNat:Int)<=57
    ·rw [Zt hd];simp
    ·rw [Zf hd];simp
  cases ho:okD s i with
  |
   false=>
   refine .inl ⟨i+1,.done λrec=>?_,i,Z3 _,hi,ho⟩
   rw [hst,ho];rfl
  |
   true=>
   have hst':∀rec:Nat->Option ((Bool×Nat)⊕Nat),z112.l0P s shp rec some i=rec (i+1):=λrec=>by rw [hst,ho];rfl
   rcases dated_loop hl f (i+1) (by omega) with ⟨q,r,j,h1,h2,h3⟩|⟨r,hall⟩
   ·exact .inl ⟨q,.step hst' r,j,by omega,h2,h3⟩
   ·refine .inr ⟨.step hst' r,λj h1 h2=>?_⟩
    by_cases e:j=i
    ·subst e;exact ho
    ·exact hall j (by omega) h2
theorem lex_dated (s:J1):z112.F s=some (dtd s):=by
 unfold z112.F dtd
 by_cases hl:s.length=10
 ·rw [Zt (show (s.length:Int)=10 by omega),Zt hl]
  simp only [Zn,Zc,Z68]
  rcases dated_loop hl 10 0 rfl with ⟨q,r,j,_,h2,h3⟩|⟨r,hall⟩
  ·have e:z112.l0 s shp 0=some (.inl (false,q)):=r.lfp
   rw [e]
   simp only [Zb]
   congr 1;symm
   rw [Bool.eq_false_iff]
   intro h
   have:=Z14.1 h j (by simpa using h2)
   rw [show okD s j=true from this] at h3;simp at h3
  ·have e:z112.l0 s shp 0=some (.inr 10):=r.lfp
   rw [e]
   simp only [Zb]
   congr 1;symm
   exact Z14.2 λj hj=>hall j (Z64 _) (by simpa using hj)
 ·rw [Zf (show ¬(s.length:Int)=10 by omega),Zf hl];rfl
theorem Qv9 {n:Nat} (h:128<=n) (h2:n<256):∃a b:UInt8,(Utf8.encode (n:Int)).data.toList=[a,b]/\128<=b.toNat:=by
 unfold Utf8.encode
 have hv:Utf8.valid (n:Int)=true:=by unfold Utf8.valid;rw [Z58];left;simp only [Z4,decide_eq_true_eq];omega
 simp only [hv,if_true,Zi]
 rw [if_neg (by omega),if_pos (by omega)]
 refine ⟨_,_,rfl,?_⟩
 rw [UInt8.toNat_ofNat'];omega
theorem Qog {b:UInt8} (h:128<=b.toNat):sgn b=false:=by
 have hn:∀k:Nat,k<128->decide (b.toNat=k)=false:=λk hk=>Zf (by omega)
 unfold sgn
 rw [hn 123 (by decide),hn 125 (by decide),hn 61 (by decide),hn 59 (by decide),hn 44 (by decide)];rfl
theorem Qru (b:UInt8):z115.F [123,125,61,59,44] (b.toNat:Int)=some (sgn b):=by
 unfold z115.F z114.F
 have hb:=b.toNat_lt
 rw [bif_t (by omega)]
 unfold z114.j1
 by_cases h:(b.toNat:Int)<128
 ·rw [bif_t h]
  have e:z2.F [123,125,61,59,44] (wr .u8 (b.toNat:Int))=some (byteIdx [123,125,61,59,44] b):=by
   rw [Qak (by omega) (by omega)]
   unfold z2.F
   have:((b.toNat:Int).toNat).toUInt8=b:=by simp
   rw [this]
  unfold z106.F
  rw [e]
  simp only [Zb]
  congr 1
  have hn:byteIdx ([]:J1) b = -1:=rfl
  have key:∀(c:UInt8) (t:J1),(byteIdx (c::t) b>=0↔c=b\/byteIdx t b>=0):=λc t=>by
   rw [Yw]
   by_cases h1:c=b
   ·simp [h1]
   ·rw [if_neg h1];simp only [h1,false_or];split<;>omega
  rw [Z61,decide_eq_true_iff,key,key,key,key,key,hn]
  simp only [sgn,Z58,decide_eq_true_eq,<-UInt8.toNat_inj]
  constructor
  ·rintro (h|h|h|h|h|h)
   ·rw [<-h];decide
   ·rw [<-h];decide
   ·rw [<-h];decide
   ·rw [<-h];decide
   ·rw [<-h];decide
   ·omega
  ·rintro ((((h|h)|h)|h)|h)
   ·exact .inl h.symm
   ·exact .inr (.inl h.symm)
   ·exact .inr (.inr (.inl h.symm))
   ·exact .inr (.inr (.inr (.inl h.symm)))
   ·exact .inr (.inr (.inr (.inr (.inl h.symm))))
 ·have hbb:128<=b.toNat:=by omega
  rw [Qc h,Qc (by omega)]
  have hv:z113.F (b.toNat:Int)=some true:=by
   unfold z113.F z113.j1
   rw [bif_t (by omega),bif_t (by omega)]
  rw [hv]
  obtain ⟨a1,a2,he,ha⟩:=Qv9 (n:=b.toNat) (by omega) hb
  simp only [Zb,Zn,Zc,he]
  have e1:wr .i64 ((([a1,a2]:J1).length:Int)-1)=1:=by show wr .i64 (((2:Nat):Int)-1)=1;decide
  simp only [e1]
  have e2:wr .i64 ((1:Int)+1)=2:=by decide
  have h2:¬((125:Int)=(a2.toNat:Int)):=by omega
  have e3:z106.F (List.drop (Int.toNat 2) [123,125,61,59,44]) (a2.toNat:Int)=some (-1):=by
   unfold z106.F z2.F
   have:((a2.toNat:Int).toNat).toUInt8=a2:=by simp
   rw [this]
   have ne:∀c:UInt8,c.toNat<128->¬c=a2:=λc hc e=>by subst e;omega
   show some (byteIdx [61,59,44] a2)=some (-1)
   rw [Yw,if_neg (ne _ (by decide)),Yw,if_neg (ne _ (by decide)),Yw,if_neg (ne _ (by decide))];rfl
  have e4:(([123,125,61,59,44]:J1).getD (Int.toNat 1) 0).toNat=125:=rfl
  have e5:(([a1,a2]:J1).getD (Int.toNat 1) 0).toNat=a2.toNat:=rfl
  rw [bif_t (by decide),if_pos (by decide),if_pos (by simp),e4,e5,show (((125:Nat):Int))=125 from rfl,Zf h2]
  simp only [Zo,Zd,e2]
  rw [if_pos (by decide),if_pos (by simp),e3]
  simp only [Zb]
  rw [bif_t (by decide),Zb,Qog hbb];rfl
theorem lex_token {s:J1} (h:s≠[]):z116.F s=some ((tokOf s).1,(tokOf s).2.1,0,(tokOf s).2.2):=by
 have hl:=Z30.2 h
 have h5:∀t:J1,((z112.F t).bind λr10=>(bif r10 then (some ((2:Int),t,(0:Int),(0:Int))) else ((z67.F t).bind λr11=>(bif (!decide (r11.2.2.2=(0:Int))) then (some ((0:Int),([]:J1),(0:Int),(5:Int))) else (some ((1:Int),t,(0:Int),(0:Int))))))) =
   some (if dtd t then (2,t,0,0) else if (mDec t).2.2=0 then (1,t,0,0) else (0,[],0,5)):=λt=>by
  rw [lex_dated]
  simp only [Zb]
  cases dtd t with
  |true=>rfl
  |
   false=>
   rw [dec_Parse]
   simp only [Zb,Zc]
   by_cases h0:(mDec t).2.2=0
   ·rw [Zt h0,if_pos h0];rfl
   ·rw [Zf h0,if_neg h0];rfl
 have hnum:z116.j6 true s=some (if dtd (s.takeWhile nmr) then (2,s.takeWhile nmr,0,0) else if (mDec (s.takeWhile nmr)).2.2=0 then (1,s.takeWhile nmr,0,0) else (0,[],0,5)):=by
  unfold z116.j6
  simp only [Zd]
  rcases token_l0a s with ⟨q,e⟩|⟨e,he⟩
  ·rw [e];simp only [Zb];exact h5 _
  ·rw [e];simp only [Zb];rw [he];exact h5 s
 unfold z116.F tokOf
 rw [if_pos (by omega),Qfi,lex_letter]
 simp only [Zb]
 generalize hb:s.getD 0 0=b
 have e1:decide (97<=(b.toNat:Int)/\(b.toNat:Int)<=122)=ltr b:=by
  rw [Z61];simp only [ltr,Z4,decide_eq_true_eq];omega
 rw [e1]
 cases h1:ltr b with
 |
  true=>
  simp only [Zd,if_true]
  rcases token_l0 s with ⟨q,e⟩|⟨e,he⟩
  ·rw [e];rfl
  ·rw [e];simp only [Zb];rw [he]
 |
  false=>
  rw [lex_digit]
  simp only [Zb,Zc,Z20,if_false]
  rw [<-Qf0]
  have fin:z116.j6 true s=some ((if dtd (s.takeWhile nmr) then ((2:Int),s.takeWhile nmr,(0:Int)) else if (mDec (s.takeWhile nmr)).2.2=0 then (1,s.takeWhile nmr,0) else (0,[],5)).1,(if dtd (s.takeWhile nmr) then ((2:Int),s.takeWhile nmr,(0:Int)) else if (mDec (s.takeWhile nmr)).2.2=0 then (1,s.takeWhile nmr,0) else (0,[],5)).2.1,0,(if dtd (s.takeWhile nmr) then ((2:Int),s.takeWhile nmr,(0:Int)) else if (mDec (s.takeWhile nmr)).2.2=0 then (1,s.takeWhile nmr,0) else (0,[],5)).2.2):=by
   rw [hnum]
   split
   ·rfl
   ·split<;>rfl
  cases h2:dgt b with
  |true=>simp only [Zd,Bool.true_or,if_true];exact fin
  |
   false=>
   simp only [Zc,Z90]
   by_cases h3:b.toNat=45
   ·rw [Zt (show (b.toNat:Int)=45 by omega),Zt h3]
    simp only [if_true];exact fin
   ·rw [Zf (show ¬(b.toNat:Int)=45 by omega),Zf h3]
    simp only [Z20,if_false]
    unfold z116.j6
    simp only [Zc]
    rw [hb,Qfi,Qru]
    simp only [Zb]
    cases sgn b with
    |true=>simp only [Zd,if_true];rw [if_pos (by omega)]
    |false=>simp only [Zc,Z20,if_false]
theorem Qf1 (b:UInt8):([32,9,10,13]:J1).contains b=bln b:=by
 rw [Z61]
 simp only [List.contains_cons,List.contains_nil,Bool.or_false,Z58,beq_iff_eq,bln,decide_eq_true_eq,<-UInt8.toNat_inj]
 simp only [show (32:UInt8).toNat=32 from rfl,show (9:UInt8).toNat=9 from rfl,show (10:UInt8).toNat=10 from rfl,show (13:UInt8).toNat=13 from rfl]
 omega
theorem Qj2:∀l:J1,skp false (trimL l [32,9,10,13])=skp false l
 |[]=>rfl
 |
  b::t=>by
  by_cases hb:bln b=true
  ·have e:trimL (b::t) [32,9,10,13]=trimL t [32,9,10,13]:=by unfold trimL;exact List.dropWhile_cons_of_pos (by rw [Qf1];exact hb)
   rw [e,Qj2 t]
   have h35:¬b.toNat=35:=λe=>by simp [bln,e] at hb
   conv=>rhs;rw [skp]
   rw [if_neg h35,if_pos hb]
  ·have e:trimL (b::t) [32,9,10,13]=b::t:=by unfold trimL;exact List.dropWhile_cons_of_neg (by rw [Qf1];exact hb)
   rw [e]
theorem Qu9 {l:J1} {b:UInt8} {t:J1} (h:trimL l [32,9,10,13]=b::t):bln b=false:=by
 have:=List.head?_dropWhile_not (λc=>([32,9,10,13]:J1).contains c) l
 unfold trimL at h
 rw [h] at this
 simpa [<-Qf1] using this
theorem Qvx (l:J1):(trimL l [32,9,10,13]).length<=l.length:=(List.dropWhile_suffix _).length_le
theorem Qff:∀(t:J1) (c:UInt8),byteIdx t c<t.length/\-1<=byteIdx t c
 |[],c=>by simp [byteIdx]
 |
  b::t,c=>by
  have ih:=Qff t c
  rw [Yw,Z8]
  split
  ·omega
  ·split<;>omega
theorem Qmb:∀t:J1,skp true t=if byteIdx t 10<0 then [] else skp false (t.drop (byteIdx t 10).toNat)
 |[]=>rfl
 |
  b::t=>by
  have hlt:=Qff t 10
  rw [Yw,skp]
  by_cases h:b=10
  ·subst h
   rw [if_pos rfl,if_pos (show UInt8.toNat 10=10 from rfl),if_neg (by decide)]
   show skp false t=skp false (10::t)
   conv=>rhs;rw [skp]
   rw [if_neg (by decide),if_pos (by decide)]
  ·rw [if_neg h,if_neg (show ¬b.toNat=10 from λe=>h (UInt8.toNat_inj.1 e)),Qmb t]
   by_cases h2:byteIdx t 10<0
   ·rw [if_pos h2,if_pos h2,if_pos (by decide)]
   ·rw [if_neg h2,if_neg h2,if_neg (by omega)]
    have:(byteIdx t 10+1).toNat=(byteIdx t 10).toNat+1:=by omega
    rw [this];rfl
theorem Qeu (r:J1):z105.F r [35]=some (decide (r.getD 0 0=35)):=by
 unfold z105.F z62.F
 cases r with
 |nil=>rfl
 |
  cons b t=>
  rw [bif_t (by simp only [Z8,Z29];omega),if_pos (by simp only [Z8,Z29];omega)]
  simp only [Zb,List.getD_cons_zero]
  congr 1
  exact decide_eq_decide.2 (by simp)
theorem Qlt {s:J1} (hs:s.length<=4611686018427387904):∀(n:Nat) (l:J1),l.length<=n->l.length<=s.length->Runs (λrec x=>z107.l0P s rec some x) l (((s.length-(skp false l).length:Nat):Int))
 |
  n,l,hn,hls=>by
  have htl:=Qvx l
  have ht:z5.F l [32,9,10,13]=some (trimL l [32,9,10,13]):=by unfold z5.F;rw [if_pos ⟨by decide,by decide⟩]
  have hsk:=Qj2 l
  cases hr:trimL l [32,9,10,13] with
  |
   nil=>
   refine .done λrec=>?_
   unfold z107.l0P
   rw [ht,hr]
   simp only [Zb]
   rw [Qeu]
   simp only [Zb]
   rw [show (!decide (([]:J1).getD 0 0=35))=true from rfl]
   simp only [Zd]
   rw [<-hsk,hr,Qg (by simp only [Z29];omega) (by simp only [Z29];omega)]
   rfl
  |
   cons b t=>
   have hb:=Qu9 hr
   rw [hr] at hsk htl
   have hlen:(b::t).length=t.length+1:=rfl
   by_cases h35:b=35
   ·subst h35
    have hi:=Qff t 10
    have e1:skp false (35::t)=skp true t:=by rw [skp];rfl
    have e2:byteIdx (35::t) 10=if byteIdx t 10<0 then -1 else byteIdx t 10+1:=by rw [Yw,if_neg (by decide)]
    have e3:z106.F (35::t) 10=some (byteIdx (35::t) 10):=rfl
    rw [<-hsk,e1,Qmb]
    by_cases hneg:byteIdx t 10<0
    ·refine .done λrec=>?_
     unfold z107.l0P
     rw [ht,hr]
     simp only [Zb]
     rw [Qeu]
     simp only [Zb]
     rw [show (!decide ((35::t:J1).getD 0 0=35))=false from rfl]
     simp only [Zc]
     rw [e3]
     simp only [Zb]
     rw [e2,if_pos hneg,bif_t (by decide),if_pos hneg]
     simp
    ·rw [if_neg hneg]
     match n,hn with
     |0,hn=>simp at htl;omega
     |
      n+1,hn=>
      have hd:(t.drop (byteIdx t 10).toNat).length<=t.length:=by rw [Z17];omega
      refine .step (λrec=>?_) (Qlt hs n (t.drop (byteIdx t 10).toNat) (by omega) (by omega))
      unfold z107.l0P
      rw [ht,hr]
      simp only [Zb]
      rw [Qeu]
      simp only [Zb]
      rw [show (!decide ((35::t:J1).getD 0 0=35))=false from rfl]
      simp only [Zc]
      rw [e3]
      simp only [Zb]
      rw [e2,if_neg hneg,Qc (by omega),if_pos (by simp only [Z8];omega)]
      have:(byteIdx t 10+1).toNat=(byteIdx t 10).toNat+1:=by omega
      rw [this];rfl
   ·refine .done λrec=>?_
    unfold z107.l0P
    rw [ht,hr]
    simp only [Zb]
    rw [Qeu]
    simp only [Zb,List.getD_cons_zero]
    rw [Zf h35]
    simp only [Zo,Zd]
    have e1:skp false (b::t)=b::t:=by rw [skp,if_neg (show ¬b.toNat=35 from λe=>h35 (UInt8.toNat_inj.1 e)),if_neg (by rw [hb];simp)]
    rw [<-hsk,e1,Qg (by omega) (by omega)]
    congr 1;omega
theorem lex_between {s:J1} (hs:s.length<=4611686018427387904):z107.F s=some (((s.length-(skp false s).length:Nat):Int)):=by
 unfold z107.F
 have e:z107.l0 s s=some _:=(Qlt hs s.length s (Z3 _) (Z3 _)).lfp
 rw [e];rfl
theorem Qr8 {s:J1} (hs:s.length<=1048576):∀(n:Nat) (r:J1) (acc:J2),r.length<=n->r.length<=s.length->s.drop (s.length-r.length)=r->acc.length+r.length<=s.length ->
  ∃x,z117.l0 s ((s.length:Int)-r.length,acc)=some x/\(if (lx s.length r).2.2=0 then x=.inl ((s.length:Int),acc++(lx s.length r).1.map Tk.v) else ∃a,x=.inr ([],(lx s.length r).2.1,(lx s.length r).2.2,a))
 |
  n,r,acc,hn,hrs,hd,hacc=>by
  suffices h:∃x,Runs (λrec y=>z117.l0P s rec some y) ((s.length:Int)-r.length,acc) x/\(if (lx s.length r).2.2=0 then x=.inl ((s.length:Int),acc++(lx s.length r).1.map Tk.v) else ∃a,x=.inr ([],(lx s.length r).2.1,(lx s.length r).2.2,a)) by
   obtain ⟨x,h1,h2⟩:=h
   exact ⟨x,h1.lfp,h2⟩
  revert n
  have key:∀(n:Nat) (r:J1) (acc:J2),r.length<=n->r.length<=s.length->s.drop (s.length-r.length)=r->acc.length+r.length<=s.length ->
    ∃x,Runs (λrec y=>z117.l0P s rec some y) ((s.length:Int)-r.length,acc) x/\(if (lx s.length r).2.2=0 then x=.inl ((s.length:Int),acc++(lx s.length r).1.map Tk.v) else ∃a,x=.inr ([],(lx s.length r).2.1,(lx s.length r).2.2,a)):=by
   intro n
   induction n with
   |
    zero=>
    intro r acc hn hrs hd hacc
    have:r=[]:=Z5 (by omega)
    subst this
    refine ⟨.inl ((s.length:Int),acc),.done λrec=>?_,?_⟩
    ·unfold z117.l0P
     simp only
     rw [Qc (by simp)];simp
    ·rw [lx_nil];simp
   |
    succ n ih=>
    intro r acc hn hrs hd hacc
    by_cases hr:r=[]
    ·subst hr
     refine ⟨.inl ((s.length:Int),acc),.done λrec=>?_,?_⟩
     ·unfold z117.l0P
      simp only
      rw [Qc (by simp)];simp
     ·rw [lx_nil];simp
    have hpos:=Z30.2 hr
    have hat:((s.length:Int)-r.length).toNat=s.length-r.length:=by omega
    have htok:z116.F (s.drop ((s.length:Int)-r.length).toNat)=some ((tokOf r).1,(tokOf r).2.1,0,(tokOf r).2.2):=by rw [hat,hd,lex_token hr]
    by_cases he:(tokOf r).2.2=0
    ·obtain ⟨l1,l2⟩:=Qdq hr he
     have hu:s.drop (s.length-r.length+(tokOf r).2.1.length)=r.drop (tokOf r).2.1.length:=by rw [<-Z92,hd]
     generalize hu':r.drop (tokOf r).2.1.length=u at *
     have hul:u.length=r.length-(tokOf r).2.1.length:=by rw [<-hu',Z17]
     have hsl:=W1 false u
     have hbt:=lex_between (s:=u) (by omega)
     have hd2:s.drop (s.length-(skp false u).length)=skp false u:=by
      have hul2:u.length=s.length-(s.length-r.length+(tokOf r).2.1.length):=by rw [<-hu,Z17]
      calc s.drop (s.length-(skp false u).length)=(s.drop (s.length-r.length+(tokOf r).2.1.length)).drop (u.length-(skp false u).length):=by rw [Z92];congr 1;omega
       _=u.drop (u.length-(skp false u).length):=by rw [hu]
       _=skp false u:=Qmm false u
     obtain ⟨x,hx,hx2⟩:=ih (skp false u) (acc++[[.int .i64 (tokOf r).1,.str (tokOf r).2.1,.int .i64 ((s.length:Int)-r.length)]]) (by omega) (by omega) hd2 (by simp;omega)
     refine ⟨x,.step (λrec=>?_) hx,?_⟩
     ·unfold z117.l0P
      simp only
      rw [bif_t (by omega),if_pos (by omega),htok]
      simp only [Zb]
      rw [Zt he]
      simp only [Zn,Zc]
      rw [if_pos (by simp;omega)]
      have ew:wr .i64 ((s.length:Int)-r.length+(tokOf r).2.1.length)=((s.length-r.length+(tokOf r).2.1.length:Nat):Int):=by
       rw [Qg (by omega) (by omega)];omega
      rw [ew,if_pos (by omega),Zi,hu,hbt]
      simp only [Zb]
      rw [Qg (by omega) (by omega)]
      congr 2
      omega
     ·rw [Qan hr he,hu']
      by_cases hm:(lx s.length (skp false u)).2.2=0
      ·rw [if_pos hm] at hx2 ⊢
       rw [if_pos rfl,hx2]
       simp [Tk.v]
      ·rw [if_neg hm] at hx2 ⊢
       rw [if_neg hm]
       exact hx2
    ·refine ⟨.inr ([],(s.length:Int)-r.length,(tokOf r).2.2,acc),.done λrec=>?_,?_⟩
     ·unfold z117.l0P
      simp only
      rw [bif_t (by omega),if_pos (by omega),htok]
      simp only [Zb]
      rw [Zf he];rfl
     ·rw [Qb9 hr he,if_neg he];exact ⟨acc,rfl⟩
  intro n hn
  exact key n r acc hn hrs hd hacc
theorem lex_Lex (s:J1):z117.F s=some (if 1048576<s.length then ([],0,7) else ((lexOf s).1.map Tk.v,(lexOf s).2.1,(lexOf s).2.2)):=by
 unfold z117.F
 by_cases hs:1048576<s.length
 ·rw [bif_t (by omega),if_pos hs]
 ·rw [Qc (by omega),if_neg hs,lex_between (by omega)]
  simp only [Zb]
  have hsl:=W1 false s
  have hsuf:=Qmm false s
  obtain ⟨x,h1,h2⟩:=Qr8 (s:=s) (by omega) s.length (skp false s) [] (by omega) (by omega) hsuf (by simp;omega)
  have e:((s.length-(skp false s).length:Nat):Int)=(s.length:Int)-(skp false s).length:=by omega
  rw [e,h1]
  unfold lexOf
  by_cases hm:(lx s.length (skp false s)).2.2=0
  ·rw [if_pos hm] at h2
   rw [h2,hm]
   have:(lx s.length (skp false s)).2.1=0:=by
    have key:∀(n:Nat) (r:J1),r.length<=n->(lx s.length r).2.2=0->(lx s.length r).2.1=0:=by
     intro n r _ h
     by_cases hr:r=[]
     ·subst hr;rw [lx_nil]
     ·by_cases he:(tokOf r).2.2=0
      ·rw [Qan hr he] at h ⊢
       split at h
       ·rename_i h3;rw [if_pos h3]
       ·rename_i h3;exact (h3 h).elim
      ·rw [Qb9 hr he] at h;exact (he h).elim
    exact key _ _ (Z3 _) hm
   rw [this];simp
  ·rw [if_neg hm] at h2
   obtain ⟨a,rfl⟩:=h2
   have:(lx s.length (skp false s)).1=[]:=by
    by_cases hr:skp false s=[]
    ·rw [hr,lx_nil] at hm;exact (hm rfl).elim
    ·by_cases he:(tokOf (skp false s)).2.2=0
     ·rw [Qan hr he] at hm ⊢
      split
      ·rename_i h3;rw [if_pos h3] at hm;exact (hm rfl).elim
      ·rfl
     ·rw [Qb9 hr he]
   rw [this];rfl
theorem Qp8 (r:J1):((tokOf r).1=2->(tokOf r).2.2=0->dtd (tokOf r).2.1=true)/\((tokOf r).1=1->(mDec (tokOf r).2.1).2.2=0):=by
 unfold tokOf
 split
 ·exact ⟨λh=>by simp at h,λh=>by simp at h⟩
 ·split
  ·split
   ·rename_i h;exact ⟨λ_ _=>h,λh=>by simp at h⟩
   ·split
    ·rename_i h;exact ⟨λh=>by simp at h,λ_=>h⟩
    ·exact ⟨λh=>by simp at h,λh=>by simp at h⟩
  ·split
   ·exact ⟨λh=>by simp at h,λh=>by simp at h⟩
   ·exact ⟨λh=>by simp at h,λh=>by simp at h⟩
theorem Qt9 (N:Nat):∀(n:Nat) (r:J1),r.length<=n->r.length<=N->(lx N r).1.length<=r.length/\∀t∈(lx N r).1,(t.k=2->dtd t.s=true)/\t.s.length<=r.length/\0<=t.p/\t.p<=N:=by
 intro n
 induction n with
 |
  zero=>
  intro r hn _
  have:r=[]:=Z5 (by omega)
  subst this
  rw [lx_nil];exact ⟨Z3 _,λt h=>by simp at h⟩
 |
  succ n ih=>
  intro r hn hN
  by_cases hr:r=[]
  ·subst hr;rw [lx_nil];exact ⟨Z3 _,λt h=>by simp at h⟩
  by_cases he:(tokOf r).2.2=0
  ·obtain ⟨l1,l2⟩:=Qdq hr he
   have h4:=W1 false (r.drop (tokOf r).2.1.length)
   rw [Z17] at h4
   rw [Qan hr he]
   obtain ⟨i1,i2⟩:=ih (skp false (r.drop (tokOf r).2.1.length)) (by omega) (by omega)
   split
   ·refine ⟨by simp only [Z8];omega,λt ht=>?_⟩
    rcases Z48.1 ht with rfl|ht
    ·exact ⟨λh=>(Qp8 r).1 h he,l2,by show (0:Int)<=(N:Int)-r.length;omega,by show (N:Int)-r.length<=N;omega⟩
    ·obtain ⟨j1,j2,j3⟩:=i2 t ht
     exact ⟨j1,by omega,j3⟩
   ·exact ⟨Z64 _,λt h=>by simp at h⟩
  ·rw [Qb9 hr he];exact ⟨Z64 _,λt h=>by simp at h⟩
abbrev D9:=Int×Int×Int×Int
def mDate (s:J1):D9:=
 if right (tv 0 (s.take 4)) (tv 0 ((s.drop 5).take 2)) (tv 0 (s.drop 8)) then (tv 0 (s.take 4),tv 0 ((s.drop 5).take 2),tv 0 (s.drop 8),0) else (0,0,0,11)
theorem Qjk {s:J1} (hl:s.length<=6) (hs:∀i,i<s.length->dgt (s.getD i 0)=true):∀(f i:Nat) (n:Int),i+f=s.length->0<=n->n<(10^i:Nat)->Runs (λrec x=>z102.l0P s (s.length:Int) rec some x) (n,(i:Int)) (.inl (tv n (s.drop i),(s.length:Int)))
 |
  0,i,n,h,h1,h2=>by
  refine .done λrec=>?_
  unfold z102.l0P
  simp only
  rw [Qc (by omega),Z74 (by omega),show (i:Int)=(s.length:Int) by omega];rfl
 |
  f+1,i,n,h,h1,h2=>by
  have hi:i<s.length:=by omega
  have hd:=hs i hi
  have hb:48<=(s.getD i 0).toNat/\(s.getD i 0).toNat<=57:=by simpa [dgt] using hd
  have hp:(10^(i+1):Nat)=10*10^i:=by rw [Z55];omega
  have hp2:(10^i:Nat)<=10^6:=Z70 (by decide) (by omega)
  have hp3:(10^6:Nat)=1000000:=by decide
  rw [Qjy hi,tv]
  refine .step (λrec=>?_) (Qjk hl hs f (i+1) (10*n+((s.getD i 0).toNat:Int)-48) (by omega) (by omega) (by rw [hp];omega))
  unfold z102.l0P
  simp only
  have hc:(0:Int)<=(i:Int)/\(i:Int)<(s.length:Int):=by omega
  rw [bif_t (by omega),if_pos hc,Zi,Qc (by omega),if_pos hc,Qc (by omega),if_pos hc]
  rw [Qak (by omega) (by omega),Qg (n:=((s.getD i 0).toNat:Int)-48) (by omega) (by omega),Qg (n:=10*n) (by omega) (by omega),Qg (by omega) (by omega),Qg (by omega) (by omega)]
  congr 2
  omega
theorem date_number {s:J1} (hl:s.length<=6) (hs:∀i,i<s.length->dgt (s.getD i 0)=true):z102.F s=some (tv 0 s,true):=by
 have e:z102.l0 s (s.length:Int) (0,0)=some (.inl (tv 0 s,(s.length:Int))):=(Qjk hl hs s.length 0 0 (by omega) (by omega) (by simp)).lfp
 unfold z102.F
 rw [e];rfl
theorem Qau {s:J1} (h:dtd s=true):s.length=10/\∀i,i<10->okD s i=true:=by
 unfold dtd at h
 rw [Z4,decide_eq_true_eq] at h
 exact ⟨h.1,λi hi=>Z14.1 h.2 i (by simpa using hi)⟩
theorem Qhz {s:J1} (h:dtd s=true) {i:Nat} (hi:i<10) (h4:i≠4) (h7:i≠7):dgt (s.getD i 0)=true:=by
 have:=(Qau h).2 i hi
 unfold okD at this
 rwa [if_neg (by omega)] at this
theorem Qb0 {s:J1} (h:dtd s=true) {i:Nat} (hi:i=4\/i=7):(s.getD i 0).toNat=45:=by
 have:=(Qau h).2 i (by omega)
 unfold okD at this
 rw [if_pos hi] at this
 simpa using this
theorem date_Parse {s:J1} (h:dtd s=true):z103.F s=some (mDate s):=by
 obtain ⟨hl,_⟩:=Qau h
 have g1:∀i,i<(s.take 4).length->dgt ((s.take 4).getD i 0)=true:=λi hi=>by
  rw [Z10] at hi
  have:(s.take 4).getD i 0=s.getD i 0:=by
   rw [Zl,Zl,Z44];rw [if_pos (by omega)]
  rw [this];exact Qhz h (by omega) (by omega) (by omega)
 have g2:∀i,i<((s.drop 5).take 2).length->dgt (((s.drop 5).take 2).getD i 0)=true:=λi hi=>by
  rw [Z10] at hi
  have:((s.drop 5).take 2).getD i 0=s.getD (5+i) 0:=by
   rw [Zl,Zl,Z44,if_pos (by omega),List.getElem?_drop]
  rw [this];exact Qhz h (by omega) (by omega) (by omega)
 have g3:∀i,i<(s.drop 8).length->dgt ((s.drop 8).getD i 0)=true:=λi hi=>by
  rw [Z17] at hi
  have:(s.drop 8).getD i 0=s.getD (8+i) 0:=by
   rw [Zl,Zl,List.getElem?_drop]
  rw [this];exact Qhz h (by omega) (by omega) (by omega)
 have n1:=date_number (s:=s.take 4) (by rw [Z10];omega) g1
 have n2:=date_number (s:=(s.drop 5).take 2) (by rw [Z10];omega) g2
 have n3:=date_number (s:=s.drop 8) (by rw [Z17];omega) g3
 unfold z103.F
 rw [Zt (show (s.length:Int)=10 by omega)]
 simp only [Zn,Zc]
 have h4:=Qb0 h (.inl rfl)
 have h7:=Qb0 h (.inr rfl)
 rw [if_pos (by omega),Zt (show ((s.getD 4 0).toNat:Int)=45 by omega)]
 simp only [Zn,Zc]
 rw [if_pos (by omega),Zt (show ((s.getD 7 0).toNat:Int)=45 by omega)]
 unfold z103.j1
 rw [if_pos (by omega),n1,Zb,if_pos (by omega),show (7:Nat)-5=2 from rfl,n2,Zb,if_pos (by omega),n3,Zb]
 simp only [Zn,Zc]
 unfold z103.j5 mDate
 rw [date_Check,Zb]
 split<;>rfl
def kPay:J1:=[112,97,121]
def kPre:J1:=[112,114,101,112,97,121]
def Qn5:J1:=[114,101,115,101,116]
def Qoe:J1:=[112,97,115,115]
def kDue:J1:=[100,117,101]
def Wy:List J1:=[kPay,kPre,Qn5,Qoe]
def idxW:List J1->J1->Int->Int
 |[],_,_=>-1
 |w::t,s,i=>if s=w then i else idxW t s (i+1)
def kindOf (s:J1):Int:=idxW Wy s 0
def iend:Int⊕Int->Int | .inl _=>-1 | .inr q=>q
theorem Qik {L:List J1} (hL:L.length<=1000000) (s:J1):∀(f i:Nat),i+f=L.length->∃x,Runs (λrec x=>z101.l0P L s (L.length:Int) rec some x) (i:Int) x/\iend x=idxW (L.drop i) s i
 |
  0,i,h=>by
  refine ⟨.inl (i:Int),.done λrec=>?_,?_⟩
  ·unfold z101.l0P
   rw [Qc (by omega)]
  ·rw [Z74 (by omega)];rfl
 |
  f+1,i,h=>by
  have hi:i<L.length:=by omega
  have hg:L.getD i []=L[i]:=by rw [Zl,Z1 hi];rfl
  have hst:∀rec:Int->Option (Int⊕Int),z101.l0P L s (L.length:Int) rec some (i:Int)=if s=L[i] then some (.inr (i:Int)) else rec ((i+1:Nat):Int):=λrec=>by
   unfold z101.l0P
   rw [bif_t (by omega),if_pos (by omega),Zi,hg,Qg (by omega) (by omega)]
   by_cases hs:s=L[i]
   ·rw [if_pos hs,Zt hs];rfl
   ·rw [if_neg hs,Zf hs];rfl
  rw [Z41 hi,idxW]
  by_cases hs:s=L[i]
  ·exact ⟨.inr (i:Int),.done λrec=>by rw [hst,if_pos hs],by rw [if_pos hs];rfl⟩
  ·obtain ⟨x,r,hx⟩:=Qik hL s f (i+1) (by omega)
   exact ⟨x,.step (λrec=>by rw [hst,if_neg hs]) r,by rw [if_neg hs,hx];rfl⟩
theorem Qs3 (s:J1):z101.F Wy s=some (kindOf s):=by
 obtain ⟨x,r,hx⟩:=Qik (L:=Wy) (by decide) s Wy.length 0 (by omega)
 have e:z101.l0 Wy s ((Wy.length:Nat):Int) 0=some x:=r.lfp
 unfold z101.F
 rw [e]
 have:iend x=kindOf s:=hx
 rw [<-this]
 cases x<;>rfl
theorem Qqg (s:J1):-1<=kindOf s/\kindOf s<=3:=by
 unfold kindOf Wy idxW idxW idxW idxW idxW
 repeat' split
 all_goals omega
def Jh (v:J1):Int:=if (mMoney v).2≠0 then (mMoney v).2 else if (mMoney v).1=0 then 19 else 0
def mVal (k:Int) (v:J1):Int:=
 if k=3 then (if v=[] then 0 else 4) else if k=2 then (Jb v).2 else if k=0/\v=kDue then 0 else Jh v
theorem script_money (v:J1):z85.F v=some (Jh v):=by
 unfold z85.F Jh
 rw [terms_Money,Zb]
 by_cases h:(mMoney v).2=0
 ·simp only [h,decide_true,Zd,ne_eq,not_true_eq_false,if_false]
  rw [Qav,Zb]
  by_cases h0:(mMoney v).1=0
  ·rw [if_pos h0,bif_t (Qnl.2 h0)]
  ·rw [if_neg h0,Qc (λe=>h0 (Qnl.1 e))]
 ·rw [if_pos h,Qc h]
theorem script_value {k:Int} (hk:0<=k/\k<=3) (y m d:Int) (v:J1):z86.F k y m d v=some (mVal k v):=by
 unfold z86.F mVal
 by_cases h0:k=0
 ·rw [bif_t h0,if_neg (by omega),if_neg (by omega)]
  by_cases hv:v=kDue
  ·rw [if_pos ⟨h0,hv⟩];exact bif_t hv
  ·rw [if_neg (λh=>hv h.2)]
   refine (Qc hv).trans ?_
   rw [script_money];rfl
 ·rw [Qc h0,if_neg (show ¬(k=0/\v=kDue) from λh=>h0 h.1)]
  by_cases h1:k=1
  ·rw [bif_t h1,if_neg (by omega),if_neg (by omega),script_money];rfl
  ·rw [Qc h1]
   by_cases h2:k=2
   ·rw [bif_t h2,if_neg (by omega),if_pos h2,terms_Rate];rfl
   ·rw [Qc h2,if_pos (show k=3 by omega)]
    by_cases hv:v=[]
    ·rw [if_pos hv,Zt hv];rfl
    ·rw [if_neg hv,Zf hv];rfl
def mWorth (k:Int) (t:Tk):Int×J1:=
 if t.k=0/\k=0 then (if t.s=kDue then (0,kDue) else (14,[]))
 else if t.k≠1 then (4,[])
 else if k=2 then (mVal 2 t.s,t.s)
 else if (mDec t.s).2.2≠0 then ((mDec t.s).2.2,[])
 else if (mDec t.s).2.1≠2 then (10,[])
 else (mVal k (itxt (mDec t.s).1),itxt (mDec t.s).1)
theorem dump_Cents (s:J1):z99.F s=some (if (mDec s).2.2≠0 then ([],false,(mDec s).2.2) else if (mDec s).2.1≠2 then ([],false,10) else (lb (mDec s).1.natAbs,neg (mDec s).1,0)):=by
 unfold z99.F
 rw [dec_Parse,Zb]
 by_cases h:(mDec s).2.2=0
 ·rw [if_neg (λhh=>hh h),Zt (show (decR (mDec s)).2.2.2=0 from h)]
  simp only [Zn,Zc]
  unfold z79.F z70.F
  simp only [Zb]
  by_cases h2:(mDec s).2.1=2
  ·rw [if_neg (λhh=>hh h2),Zt (show (decR (mDec s)).2.2.1=2 from by show ((mDec s).2.1:Int)=2;omega)];rfl
  ·rw [if_pos h2,Zf (show ¬(decR (mDec s)).2.2.1=2 from by show ¬((mDec s).2.1:Int)=2;omega)];rfl
 ·rw [if_pos h,Zf (show ¬(decR (mDec s)).2.2.2=0 from h)];rfl
def hd (N:Int):List Tk->Tk
 |[]=>⟨-1,[],N⟩
 |t::_=>t
theorem Qee (l:List Tk) (N p:Int):∃z,z98.F (l.map Tk.v) N p=some ((hd N l).k,(hd N l).s,z,l.tail.map Tk.v,N,(hd N l).p):=by
 unfold z98.F
 cases l with
 |nil=>exact ⟨0,rfl⟩
 |
  cons t u=>
  refine ⟨t.p,?_⟩
  have hl:((((t::u).map Tk.v).length:Nat):Int)=(u.length:Int)+1:=by simp
  rw [Qc (by rw [hl];omega),if_pos (by rw [hl];omega)]
  show (if (0:Int)<=1/\(1:Int)<=_ then _ else none)=_
  rw [if_pos (by rw [hl];omega)];rfl
theorem Qs5 {k:Int} (hk:0<=k/\k<3) (y m d N p:Int) (l:List Tk):∃w,z100.F (l.map Tk.v) N p k y m d []=some ((mWorth k (hd N l)).1,l.tail.map Tk.v,N,(hd N l).p,k,y,m,d,w)/\((mWorth k (hd N l)).1=0->w=(mWorth k (hd N l)).2):=by
 obtain ⟨z,hz⟩:=Qee l N p
 have hb:=(Qjq (hd N l).s).2
 unfold z100.F
 rw [hz,Zb]
 generalize hd N l=t at *
 generalize l.tail.map Tk.v=u
 have rest:¬(t.k=0/\k=0)->∃w,z100.j3 false (t.k,t.s,z,u,N,t.p) k y m d []=some ((mWorth k t).1,u,N,t.p,k,y,m,d,w)/\((mWorth k t).1=0->w=(mWorth k t).2):=λhn=>by
  unfold z100.j3 mWorth
  simp only [if_neg hn,Zc]
  by_cases h1:t.k=1
  ·rw [Zt h1]
   simp only [if_neg (show ¬(t.k≠1) from λh=>h h1),Zn,Zc]
   by_cases h2:k=2
   ·rw [bif_t h2,script_value (by omega)]
    simp only [if_pos h2]
    subst h2
    exact ⟨t.s,rfl,λ_=>rfl⟩
   ·rw [Qc h2,dump_Cents,Zb]
    simp only [if_neg h2]
    by_cases h3:(mDec t.s).2.2=0
    ·simp only [if_neg (show ¬((mDec t.s).2.2≠0) from λh=>h h3)]
     by_cases h4:(mDec t.s).2.1=2
     ·simp only [if_neg (show ¬((mDec t.s).2.1≠2) from λh=>h h4)]
      simp only [decide_true,Zn,Zc]
      rw [Qje (by omega),Zb,script_value (by omega)]
      exact ⟨_,rfl,λ_=>rfl⟩
     ·simp only [if_pos h4]
      exact ⟨[],rfl,λh=>by simp at h⟩
    ·simp only [if_pos h3]
     rw [Zf h3]
     exact ⟨[],rfl,λh=>(h3 h).elim⟩
  ·rw [Zf h1]
   simp only [if_pos h1]
   exact ⟨[],rfl,λh=>by simp at h⟩
 by_cases h0:t.k=0
 ·simp only [Zt h0,Zd]
  by_cases hk0:k=0
  ·simp only [Zt hk0,Zd]
   unfold z100.j2 mWorth
   simp only [if_pos (show t.k=0/\k=0 from ⟨h0,hk0⟩)]
   by_cases hd:t.s=kDue
   ·simp only [if_pos hd]
    rw [Zt (show t.s=[100,117,101] from hd)]
    simp only [Zn,Zc,Zt h0,Zt hk0,Zd]
    exact ⟨kDue,rfl,λ_=>rfl⟩
   ·simp only [if_neg hd]
    rw [Zf (show ¬t.s=[100,117,101] from hd)]
    exact ⟨[],rfl,λh=>by simp at h⟩
  ·simp only [Zf hk0,Zc]
   unfold z100.j2
   simp only [Zf hk0,Zc,Zt h0,Zd]
   exact rest (λh=>hk0 h.2)
 ·simp only [Zf h0,Zc]
  unfold z100.j2
  simp only [Zc,Zf h0]
  exact rest (λh=>h0 h.1)
structure Evt where
 k:Int
 y:Int
 m:Int
 d:Int
 v:List UInt8
deriving DecidableEq
def Evt.r (e:Evt):List V:=[.int .i64 e.k,.int .i64 e.y,.int .i64 e.m,.int .i64 e.d,.str e.v]
def mFin (N:Int) (e:Evt) (l:List Tk):(Int×Int)⊕(Evt×List Tk):=
 if (hd N l).k=3/\(hd N l).s=[59] then .inr (e,l.tail) else .inl (4,(hd N l).p)
def mEvent (N:Int) (l:List Tk) (y m d:Int):(Int×Int)⊕(Evt×List Tk):=
 if (hd N l).k≠0 then .inl (4,(hd N l).p)
 else if kindOf (hd N l).s<0 then .inl (14,(hd N l).p)
 else if (hd N l.tail).k≠2 then .inl (4,(hd N l.tail).p)
 else if (mDate (hd N l.tail).s).2.2.2≠0 then .inl ((mDate (hd N l.tail).s).2.2.2,(hd N l.tail).p)
 else if dcmp (mDate (hd N l.tail).s).1 (mDate (hd N l.tail).s).2.1 (mDate (hd N l.tail).s).2.2.1 y m d<0 then .inl (12,(hd N l.tail).p)
 else if kindOf (hd N l).s=3 then mFin N ⟨kindOf (hd N l).s,(mDate (hd N l.tail).s).1,(mDate (hd N l.tail).s).2.1,(mDate (hd N l.tail).s).2.2.1,[]⟩ l.tail.tail
 else if (mWorth (kindOf (hd N l).s) (hd N l.tail.tail)).1≠0 then .inl ((mWorth (kindOf (hd N l).s) (hd N l.tail.tail)).1,(hd N l.tail.tail).p)
 else mFin N ⟨kindOf (hd N l).s,(mDate (hd N l.tail).s).1,(mDate (hd N l.tail).s).2.1,(mDate (hd N l.tail).s).2.2.1,(mWorth (kindOf (hd N l).s) (hd N l.tail.tail)).2⟩ l.tail.tail.tail
def Yj (N:Int):Nat->List Tk->Int->Int->Int->List Evt->List Evt×Int×Int
 |0,_,_,_,_,acc=>(acc,0,0)
 |
  n+1,l,y,m,d,acc=>if l=[] then (acc,0,0) else
  match mEvent N l y m d with
  |.inl e=>([],e.2,e.1)
  |.inr r=>Yj N n r.2 r.1.y r.1.m r.1.d (acc++[r.1])
def Y9 (s:J1):List Evt×Int×Int:=
 if (lexOf s).2.2≠0 then ([],(lexOf s).2.1,(lexOf s).2.2) else Yj (s.length:Int) (lexOf s).1.length (lexOf s).1 0 0 0 []
def Qko (R:Int×Int×Int×Int×J1×Int×J2×Int×Int) (N:Int):(Int×Int)⊕(Evt×List Tk)->Prop
 |.inl e=>R.2.2.2.2.2.1=e.1/\e.1≠0/\R.2.2.2.2.2.2.2.2=e.2
 |.inr r=>∃q,R=(r.1.k,r.1.y,r.1.m,r.1.d,r.1.v,0,r.2.map Tk.v,N,q)
theorem Qmo (l:List Tk) (N p k y m d:Int) (v:J1):∃R,z104.j15 (l.map Tk.v) N p k y m d v=some R/\Qko R N (mFin N ⟨k,y,m,d,v⟩ l):=by
 obtain ⟨z,hz⟩:=Qee l N p
 unfold z104.j15 mFin
 rw [hz,Zb]
 by_cases h3:(hd N l).k=3
 ·by_cases h4:(hd N l).s=[59]
  ·rw [if_pos ⟨h3,h4⟩,Zt h3,Zt h4]
   exact ⟨_,rfl,_,rfl⟩
  ·rw [if_neg (λh=>h4 h.2),Zt h3,Zf h4]
   exact ⟨_,rfl,rfl,(by simp),rfl⟩
 ·rw [if_neg (λh=>h3 h.1),Zf h3]
  exact ⟨_,rfl,rfl,(by simp),rfl⟩
theorem Qst {l:List Tk} (hl:∀t∈l,t.k=2->dtd t.s=true) (N:Int) (h:(hd N l).k=2):dtd (hd N l).s=true:=by
 cases l with
 |nil=>simp [hd] at h
 |cons t u=>exact hl t (by simp) h
theorem Qo7 {l:List Tk} (hl:∀t∈l,t.k=2->dtd t.s=true) (N p y m d:Int):∃R,z104.F (l.map Tk.v) N p y m d=some R/\Qko R N (mEvent N l y m d):=by
 obtain ⟨z0,e0⟩:=Qee l N p
 obtain ⟨z1,e1⟩:=Qee l.tail N (hd N l).p
 have hl1:∀t∈l.tail,t.k=2->dtd t.s=true:=λt ht=>hl t (List.mem_of_mem_tail ht)
 unfold z104.F mEvent
 rw [e0,Zb]
 by_cases h0:(hd N l).k=0
 ·rw [if_neg (λh=>h h0),Zt h0]
  simp only [Zn,Zc]
  rw [show z90.F=some Wy from rfl,Zb,Qs3,Zb]
  have hk:=Qqg (hd N l).s
  generalize kindOf (hd N l).s=k at *
  by_cases h1:k<0
  ·rw [if_pos h1,bif_t h1]
   exact ⟨_,rfl,rfl,(by simp),rfl⟩
  ·rw [if_neg h1,Qc h1,e1,Zb]
   by_cases h2:(hd N l.tail).k=2
   ·rw [if_neg (λh=>h h2),Zt h2]
    simp only [Zn,Zc]
    rw [date_Parse (Qst hl1 N h2),Zb]
    generalize mDate (hd N l.tail).s=D at *
    by_cases h3:D.2.2.2=0
    ·rw [if_neg (λh=>h h3),Zt h3]
     simp only [Zn,Zc]
     rw [date_Cmp,Zb]
     by_cases h4:dcmp D.1 D.2.1 D.2.2.1 y m d<0
     ·rw [if_pos h4,bif_t h4]
      exact ⟨_,rfl,rfl,(by simp),rfl⟩
     ·rw [if_neg h4,Qc h4]
      by_cases h5:k=3
      ·rw [if_pos h5,Zt h5]
       exact Qmo l.tail.tail N _ k D.1 D.2.1 D.2.2.1 []
      ·rw [if_neg h5,Zf h5]
       simp only [Zo,Zd]
       obtain ⟨w,e2,hw⟩:=Qs5 (k:=k) (by omega) D.1 D.2.1 D.2.2.1 N (hd N l.tail).p l.tail.tail
       rw [e2,Zb]
       by_cases h6:(mWorth k (hd N l.tail.tail)).1=0
       ·rw [if_neg (λh=>h h6),Zt h6,hw h6]
        exact Qmo l.tail.tail.tail N _ k D.1 D.2.1 D.2.2.1 _
       ·rw [if_pos h6,Zf h6]
        exact ⟨_,rfl,rfl,h6,rfl⟩
    ·rw [if_pos h3,Zf h3]
     exact ⟨_,rfl,rfl,h3,rfl⟩
   ·rw [if_pos h2,Zf h2]
    exact ⟨_,rfl,rfl,(by simp),rfl⟩
 ·rw [if_pos h0,Zf h0]
  exact ⟨_,rfl,rfl,(by simp),rfl⟩
theorem Ql0 {N:Int} {e:Evt} {l:List Tk} {r:Evt×List Tk} (h:mFin N e l=.inr r):r.1=e/\r.2=l.tail/\l≠[]:=by
 unfold mFin at h
 split at h
 ·rename_i hc
  refine ⟨by cases h;rfl,by cases h;rfl,λhn=>?_⟩
  subst hn;simp [hd] at hc
 ·simp at h
theorem Qqs {N:Int} {l:List Tk} {y m d:Int} {r:Evt×List Tk} (h:mEvent N l y m d=.inr r):l≠[]/\r.2.length+3<=l.length/\∃k,k<=l.length/\r.2=l.drop k:=by
 unfold mEvent at h
 split at h
 ·simp at h
 ·rename_i h0
  have hl:l≠[]:=λhn=>by subst hn;simp [hd] at h0
  have hpos:=Z30.2 hl
  split at h
  ·simp at h
  split at h
  ·simp at h
  rename_i h2
  have hl1:l.tail≠[]:=λhn=>by rw [hn] at h2;simp [hd] at h2
  have hpos1:=Z30.2 hl1
  rw [List.length_tail] at hpos1
  split at h
  ·simp at h
  split at h
  ·simp at h
  split at h
  ·obtain ⟨_,h5,h6⟩:=Ql0 h
   have hpos2:=Z30.2 h6
   simp only [List.length_tail] at hpos2
   have e:r.2=l.drop 3:=by rw [h5];simp only [<-List.drop_one,Z92]
   exact ⟨hl,by rw [e,Z17];omega,3,by omega,e⟩
  ·split at h
   ·simp at h
   ·obtain ⟨_,h5,h6⟩:=Ql0 h
    have hpos2:=Z30.2 h6
    simp only [List.length_tail] at hpos2
    have e:r.2=l.drop 4:=by rw [h5];simp only [<-List.drop_one,Z92]
    exact ⟨hl,by rw [e,Z17];omega,4,by omega,e⟩
abbrev PS:=J2×Int×Int×J2×Int×Int×Int
abbrev PT:=J2×Int×Int×J2×Int×Int×J2×Int×Int×Int
def outP:PS⊕PT->J2×Int×Int
 |.inl p=>(p.2.2.2.1,0,0)
 |.inr q=>(q.1,q.2.1,q.2.2.1)
def encM (r:List Evt×Int×Int):J2×Int×Int:=(r.1.map Evt.r,r.2.1,r.2.2)
theorem Qo3 (N:Int):∀(n:Nat) (l:List Tk) (p y m d:Int) (acc:List Evt),l.length<=n->(∀t∈l,t.k=2->dtd t.s=true)->acc.length+l.length<=9999 ->
  ∃x,Runs (λrec x=>z118.l0P rec some x) (l.map Tk.v,N,p,acc.map Evt.r,y,m,d) x/\outP x=encM (Yj N n l y m d acc):=by
 intro n
 induction n with
 |
  zero=>
  intro l p y m d acc hn hl ha
  have:l=[]:=Z5 (by omega)
  subst this
  refine ⟨.inl ([],N,p,acc.map Evt.r,y,m,d),.done λrec=>?_,?_⟩
  ·unfold z118.l0P
   simp only [List.map_nil]
   rw [Qc (by simp)]
  ·rfl
 |
  succ n ih=>
  intro l p y m d acc hn hl ha
  by_cases hnil:l=[]
  ·subst hnil
   refine ⟨.inl ([],N,p,acc.map Evt.r,y,m,d),.done λrec=>?_,?_⟩
   ·unfold z118.l0P
    simp only [List.map_nil]
    rw [Qc (by simp)]
   ·rw [Yj,if_pos rfl];rfl
  ·have hpos:=Z30.2 hnil
   obtain ⟨R,hR,ho⟩:=Qo7 hl N p y m d
   have hst:∀rec:PS->Option (PS⊕PT),z118.l0P rec some (l.map Tk.v,N,p,acc.map Evt.r,y,m,d)=(bif (!decide (R.2.2.2.2.2.1=(0:Int))) then (some (.inr ([],R.2.2.2.2.2.2.2.2,R.2.2.2.2.2.1,R.2.2.2.2.2.2.1,R.2.2.2.2.2.2.2.1,R.2.2.2.2.2.2.2.2,acc.map Evt.r,y,m,d))) else (rec (R.2.2.2.2.2.2.1,R.2.2.2.2.2.2.2.1,R.2.2.2.2.2.2.2.2,(acc.map Evt.r++([[(.int .i64 R.1),(.int .i64 R.2.1),(.int .i64 R.2.2.1),(.int .i64 R.2.2.2.1),(.str R.2.2.2.2.1)]]:J2)),R.2.1,R.2.2.1,R.2.2.2.1))):=λrec=>by
    unfold z118.l0P
    simp only
    have l1:(l.map Tk.v).length=l.length:=by simp
    have l2:(acc.map Evt.r).length=acc.length:=by simp
    rw [l1,l2,bif_t (by omega),Qc (by omega),hR,Zb,if_pos (by show (acc.length+1)*48<=_;omega)]
   cases he:mEvent N l y m d with
   |
    inl e=>
    rw [he] at ho
    obtain ⟨h1,h2,h3⟩:=ho
    refine ⟨.inr ([],R.2.2.2.2.2.2.2.2,R.2.2.2.2.2.1,R.2.2.2.2.2.2.1,R.2.2.2.2.2.2.2.1,R.2.2.2.2.2.2.2.2,acc.map Evt.r,y,m,d),.done λrec=>?_,?_⟩
    ·rw [hst,Zf (by rw [h1];exact h2)];rfl
    ·rw [Yj,if_neg hnil,he]
     show (([]:J2),R.2.2.2.2.2.2.2.2,R.2.2.2.2.2.1)=([],e.2,e.1)
     rw [h1,h3]
   |
    inr r=>
    rw [he] at ho
    obtain ⟨q,hq⟩:=ho
    obtain ⟨h1,h2,k,_,h3⟩:=Qqs he
    obtain ⟨x,hx,hx2⟩:=ih r.2 q r.1.y r.1.m r.1.d (acc++[r.1]) (by omega) (λt ht=>hl t (by rw [h3] at ht;exact Z57 ht)) (by simp;omega)
    refine ⟨x,.step (λrec=>?_) hx,?_⟩
    ·rw [hst,hq]
     simp only [Z52,List.map_cons,List.map_nil];rfl
    ·rw [Yj,if_neg hnil,he];exact hx2
theorem Qiw (s:J1):(lexOf s).1.length<=s.length/\∀t∈(lexOf s).1,(t.k=2->dtd t.s=true)/\t.s.length<=s.length/\0<=t.p/\t.p<=s.length:=by
 have h:=W1 false s
 obtain ⟨h1,h2⟩:=Qt9 s.length (skp false s).length (skp false s) (Z3 _) h
 exact ⟨by unfold lexOf;omega,λt ht=>by obtain ⟨a,b,c⟩:=h2 t ht;exact ⟨a,by omega,c⟩⟩
theorem Qiz {s:J1} (hs:s.length<=1048576) (hk:(lexOf s).1.length<=9999):z118.F s=some (encM (Y9 s)):=by
 obtain ⟨h1,h2⟩:=Qiw s
 unfold z118.F Y9
 rw [lex_Lex,if_neg (by omega),Zb]
 by_cases he:(lexOf s).2.2=0
 ·rw [if_neg (λh=>h he)]
  simp only [he,decide_true,Zn,Zc]
  obtain ⟨x,r,hx⟩:=Qo3 (s.length:Int) (lexOf s).1.length (lexOf s).1 0 0 0 0 [] (Z3 _) (λt ht=>(h2 t ht).1) (by simp;omega)
  have e:z118.l0 ((lexOf s).1.map Tk.v,(s.length:Int),0,[],0,0,0)=some x:=r.lfp
  rw [e,<-hx]
  cases x<;>rfl
 ·rw [if_pos he]
  simp only [he,decide_false,Zo,Zd]
  rfl
theorem script_Parse {s:J1} (hs:s.length<=9999):z118.F s=some (encM (Y9 s)):=
 Qiz (by omega) (by have:=(Qiw s).1;omega)
def cd (v:Int):UInt8:=UInt8.ofNat (48+v%10).toNat
theorem Yr {v:Int} (hv:0<=v):((cd v).toNat:Int)=48+v%10:=by
 unfold cd
 rw [UInt8.toNat_ofNat']
 omega
def dtxt (y m d:Int):J1:=[cd (y/10/10/10),cd (y/10/10),cd (y/10),cd y,45,cd (m/10),cd m,45,cd (d/10),cd d]
theorem Jw {n:Int} (hn:0<=n/\n<1000000) {b1 b2 i:Nat} (hi:i<b2) {L:J0} (hL:b1+i<L.length) (hb:i<100000) (rec:(Int×Int×J0)->Option (Int×Int×J0)) :
  z89.l0P b1 b2 rec some (n,(i:Int),L)=rec (n/10,(i:Int)-1,L.set (b1+i) (48+n%10)):=by
 have e1:Int.tdiv n 10=n/10:=Int.tdiv_eq_ediv_of_nonneg hn.1
 have e2:Int.tmod n 10=n%10:=Z38 hn.1
 unfold z89.l0P
 simp only
 rw [bif_t (by omega),if_pos (by omega),Zi,if_pos hL,e1,e2,Qg (n:=n/10) (by omega) (by omega),Qg (n:=(i:Int)-1) (by omega) (by omega),Qg (n:=48+n%10) (by omega) (by omega),Qak (by omega) (by omega)]
theorem Qfa {n:Int} {b1 b2:Nat} {L:J0}:Runs (λrec x=>z89.l0P b1 b2 rec some x) (n,(-1:Int),L) (n,-1,L):=.done λrec=>by
 unfold z89.l0P
 simp only
 rw [Qc (by decide)]
theorem date_Print {y m d:Int} (h:right y m d):z89.F y m d=some (dtxt y m d,0):=by
 obtain ⟨hy,hm1,hm2,hd1,hd2⟩:=Yi h
 have r1:z89.l0 0 4 (y,3,[48,48,48,48,45,48,48,45,48,48])=some (y/10/10/10/10,-1,[48+y/10/10/10%10,48+y/10/10%10,48+y/10%10,48+y%10,45,48,48,45,48,48]):=by
  refine Runs.lfp ?_
  refine .step (Jw (b1:=0) (b2:=4) (i:=3) (by omega) (by decide) (by decide) (by decide)) ?_
  refine .step (Jw (b1:=0) (b2:=4) (i:=2) (by omega) (by decide) (show 2<10 by decide) (by decide)) ?_
  refine .step (Jw (b1:=0) (b2:=4) (i:=1) (by omega) (by decide) (show 1<10 by decide) (by decide)) ?_
  refine .step (Jw (b1:=0) (b2:=4) (i:=0) (by omega) (by decide) (show 0<10 by decide) (by decide)) ?_
  exact Qfa
 have r2:∀(a b c e:Int),z89.l0 5 (7-5) (m,wr .i64 ((((7-5):Nat):Int)-(1:Int)),[a,b,c,e,45,48,48,45,48,48])=some (m/10/10,-1,[a,b,c,e,45,48+m/10%10,48+m%10,45,48,48]):=λa b c e=>by
  rw [show wr .i64 ((((7-5):Nat):Int)-(1:Int))=1 by decide]
  refine Runs.lfp ?_
  refine .step (Jw (b1:=5) (b2:=2) (i:=1) (by omega) (by decide) (show 6<10 by decide) (by decide)) ?_
  refine .step (Jw (b1:=5) (b2:=2) (i:=0) (by omega) (by decide) (show 5<10 by decide) (by decide)) ?_
  exact Qfa
 have r3:∀(a b c e f g:Int),z89.l0 8 ([a,b,c,e,45,f,g,45,48,48].length-8) (d,wr .i64 ((((([a,b,c,e,45,f,g,45,48,48]:J0).length-8):Nat):Int)-(1:Int)),[a,b,c,e,45,f,g,45,48,48])=some (d/10/10,-1,[a,b,c,e,45,f,g,45,48+d/10%10,48+d%10]):=λa b c e f g=>by
  show z89.l0 8 2 (d,wr .i64 (((2:Nat):Int)-1),_)=_
  rw [show wr .i64 (((2:Nat):Int)-(1:Int))=1 by decide]
  refine Runs.lfp ?_
  refine .step (Jw (b1:=8) (b2:=2) (i:=1) (by omega) (by decide) (show 9<10 by decide) (by decide)) ?_
  refine .step (Jw (b1:=8) (b2:=2) (i:=0) (by omega) (by decide) (show 8<10 by decide) (by decide)) ?_
  exact Qfa
 unfold z89.F
 rw [date_Check,if_pos h,Zb]
 rw [show (!decide ((0:Int)=0))=false from rfl]
 simp only [Zc]
 rw [if_pos (by decide),r1,Zb]
 simp only
 rw [if_pos (by simp only [Z8,Z29];decide),r2,Zb]
 simp only
 rw [if_pos (by simp only [Z8,Z29];decide),r3,Zb]
 rfl
def Wn (k:Int):J1:=Wy.getD k.toNat []
def vtxt (e:Evt):J1:=if e.k=2\/e.v=kDue then e.v else decTxt (mWhole e.v).1.natAbs 2
def etxt (e:Evt):J1:=Wn e.k++32::dtxt e.y e.m e.d++(if e.k=3 then [] else 32::vtxt e)++[59,10]
structure EvtOK (e:Evt):Prop where
 k:0<=e.k/\e.k<=3
 d:right e.y e.m e.d
 v:mVal e.k e.v=0
 l:e.v.length<=4096
def Seq:Int->Int->Int->List Evt->Prop
 |_,_,_,[]=>True
 |y,m,d,e::t=>¬dcmp e.y e.m e.d y m d<0/\EvtOK e/\Seq e.y e.m e.d t
theorem Qes {v:J1} (h:Jh v=0):(mWhole v).2=0/\0<(mWhole v).1/\(mWhole v).1<=10^30:=by
 have e:mMoney v=if (mWhole v).2≠0 then (0,(mWhole v).2) else if (mWhole v).1<0\/10^30<(mWhole v).1 then (0,19) else ((mWhole v).1,0):=rfl
 unfold Jh at h
 by_cases h1:(mWhole v).2=0
 ·rw [if_neg (λhh=>hh h1)] at e
  by_cases h2:(mWhole v).1<0\/10^30<(mWhole v).1
  ·rw [if_pos h2] at e;rw [e] at h;simp at h
  ·rw [if_neg h2] at e
   rw [e] at h
   by_cases h3:(mWhole v).1=0
   ·simp [h3] at h
   ·exact ⟨h1,by omega,by omega⟩
 ·rw [if_pos h1] at e
  rw [e] at h
  simp [h1] at h
theorem EvtOK.paid {e:Evt} (h:EvtOK e) (h2:¬(e.k=2\/e.v=kDue)) (h3:e.k≠3):Jh e.v=0:=by
 have:=h.v
 unfold mVal at this
 rw [if_neg h3,if_neg (λhh=>h2 (.inl hh)),if_neg (λhh=>h2 (.inr hh.2))] at this
 exact this
theorem Quz (c:Nat):Lib.repeatL [48] c=List.replicate c 48:=by
 induction c with
 |zero=>rfl
 |succ c ih=>show 48::Lib.repeatL [48] c=_;rw [ih];rfl
theorem dump_Point {n:Nat} (hn:n<=10^30):z95.F (lb (Int.natAbs (n:Int))) (neg (n:Int))=some (decTxt n 2):=by
 have hl:(txt n).length<=31:=J5 (by omega) (by decide)
 have hsz:sz n<=100000000:=Z45 (Q3 (k:=31) (by omega)) (by decide)
 have hp:=Qbs n 2
 unfold z95.F z69.F z68.F
 rw [Qc (by decide),Zb,show decide ((2:Int)>64)=false from rfl]
 simp only [Zc,Zb]
 have hit:itxt (n:Int)=txt n:=by unfold itxt;rw [if_neg (by omega)];rfl
 have hcut:cutNeg (txt n)=(txt n,false):=Qhq (Qbb n)
 have key:z94.F (lb (Int.natAbs (n:Int))) (neg (n:Int)) 2=some (decTxt n 2):=by
  unfold z94.F
  rw [Qje (by exact hsz),Zb,Qfr,Zb,hit,hcut]
  simp only
  have e1:wr .i64 ((2:Int)+1)=3:=by decide
  rw [e1,Qg (n:=3-((txt n).length:Int)) (by omega) (by omega)]
  have e2:z6.F [48] (if 3-((txt n).length:Int)>0 then 3-((txt n).length:Int) else 0)=some (List.replicate (2+1-(txt n).length) 48):=by
   unfold z6.F
   have:(if 3-((txt n).length:Int)>0 then 3-((txt n).length:Int) else 0)=((2+1-(txt n).length:Nat):Int):=by split<;>omega
   rw [this,if_pos (by simp only [Z25];omega),Zi,Quz]
  rw [e2,Zb,show List.replicate (2+1-(txt n).length) 48++txt n=padded n 2 from rfl]
  have e3:wr .i64 (((padded n 2).length:Int)-2)=(((padded n 2).length-2:Nat):Int):=by rw [Qg (by omega) (by omega)];omega
  rw [e3,Zi]
  have lt:((padded n 2).take ((padded n 2).length-2)).length<=100:=by rw [Z10];omega
  have ld:((padded n 2).drop ((padded n 2).length-2)).length<=100:=by rw [Z17];omega
  rw [if_pos (by rw [Z82];omega),bif_t (by decide),if_pos (by omega),if_pos (by simp only [Z25];omega),if_pos (by omega),if_pos (by rw [Z6];simp only [Z25];omega)]
  unfold z94.j4
  simp only [Zc,Z50]
  rfl
 rw [key];rfl
theorem Qh2 {e:Evt} (h:EvtOK e) (h3:e.k≠3):(vtxt e).length<=4096:=by
 unfold vtxt
 split
 ·exact h.l
 ·rename_i h2
  obtain ⟨_,p1,p2⟩:=Qes (h.paid h2 h3)
  have hl:(txt (mWhole e.v).1.natAbs).length<=31:=J5 (by omega) (by decide)
  have hp:=Qbs (mWhole e.v).1.natAbs 2
  unfold decTxt
  rw [Z6,Z8,Z10,Z17]
  omega
theorem Qg8 {k:Int} (hk:0<=k/\k<=3):(Wn k).length<=6:=by
 have:k=0\/k=1\/k=2\/k=3:=by omega
 rcases this with rfl|rfl|rfl|rfl<;>decide
theorem Qga {e:Evt} (h:EvtOK e):0<(etxt e).length/\(etxt e).length<=5000:=by
 have h1:=Qg8 h.k
 have h2:(dtxt e.y e.m e.d).length=10:=rfl
 unfold etxt
 by_cases h3:e.k=3
 ·rw [if_pos h3];simp only [Z6,Z8,Z29];omega
 ·have:=Qh2 h h3
  rw [if_neg h3];simp only [Z6,Z8,Z29];omega
theorem Qsj (a b:J1):Lib.join [a,b] [32]=a++32::b:=by
 unfold Lib.join;simp [List.intercalate]
theorem Qn1 (a b c:J1):Lib.join [a,b,c] [32]=a++32::b++32::c:=by
 unfold Lib.join;simp [List.intercalate]
theorem script_text {e:Evt} (h:EvtOK e):z96.F e.k e.y e.m e.d e.v=some (etxt e):=by
 have hk:=h.k
 have h1:=Qg8 h.k
 have h2:(dtxt e.y e.m e.d).length=10:=rfl
 have hw:Wy.getD e.k.toNat []=Wn e.k:=rfl
 have last:∀V:J1,V.length<=4096->(if (([Wy.getD e.k.toNat [],dtxt e.y e.m e.d]:List J1).length+([V]:List J1).length)*16<=140737488355328 then ((z7.F ([Wy.getD e.k.toNat [],dtxt e.y e.m e.d]++[V]) ([32]:J1)).bind λr7=>(if r7.length+([59,10]:J1).length<=9223372036854775807 then (some (r7++([59,10]:J1))) else none)) else none)=some (Wn e.k++32::dtxt e.y e.m e.d++32::V++[59,10]):=λV hV=>by
  rw [if_pos (by show (2+1)*16<=_;decide),hw]
  unfold z7.F
  rw [show [Wn e.k,dtxt e.y e.m e.d]++[V]=[Wn e.k,dtxt e.y e.m e.d,V] from rfl,Qn1]
  rw [if_pos ⟨by show 3<=_;decide,by simp only [Z6,Z8];omega⟩,Zb,if_pos (by simp only [Z6,Z8,Z29];omega)]
 unfold z96.F
 rw [date_Print h.d,Zb,show z90.F=some Wy from rfl,Zb,if_pos (by show 0<=e.k/\e.k<((4:Nat):Int);omega)]
 simp only
 unfold etxt
 by_cases h3:e.k=3
 ·rw [bif_t h3,if_pos h3,hw]
  unfold z7.F
  rw [Qsj,if_pos ⟨by show 2<=_;decide,by simp only [Z6,Z8];omega⟩,Zb,if_pos (by simp only [Z6,Z8,Z29];omega)]
  simp
 ·rw [Qc h3,if_neg h3]
  have hv:=Qh2 h h3
  unfold vtxt at hv ⊢
  by_cases h4:e.k=2
  ·rw [bif_t h4]
   rw [if_pos (show e.k=2\/e.v=kDue from .inl h4)] at hv ⊢
   unfold z96.j3
   simp only [Zd]
   exact last _ hv
  ·rw [Qc h4]
   unfold z96.j3
   by_cases h5:e.v=kDue
   ·rw [Zt (show e.v=[100,117,101] from h5)]
    rw [if_pos (show e.k=2\/e.v=kDue from .inr h5)] at hv ⊢
    simp only [Zd]
    exact last _ hv
   ·rw [Zf (show ¬e.v=[100,117,101] from h5)]
    have h6:¬(e.k=2\/e.v=kDue):=λhh=>hh.elim h4 h5
    rw [if_neg h6] at hv ⊢
    simp only [Zc]
    obtain ⟨p0,p1,p2⟩:=Qes (h.paid h6 h3)
    have hn:((mWhole e.v).1.natAbs:Int)=(mWhole e.v).1:=by omega
    rw [whole_Parse,Zb]
    have hp:=dump_Point (n:=(mWhole e.v).1.natAbs) (by omega)
    rw [hn] at hp
    rw [hp,Zb]
    exact last _ hv
theorem script_wrong {e:Evt} (h:EvtOK e) {y m d:Int} (hs:¬dcmp e.y e.m e.d y m d<0):z87.F e.k e.y e.m e.d e.v y m d=some 0:=by
 have hk:=h.k
 unfold z87.F
 rw [Qc (by omega),Zf (by omega)]
 unfold z87.j1
 simp only [Zc]
 rw [date_Check,if_pos h.d,Zb,show (!decide ((0:Int)=0))=false from rfl]
 simp only [Zc]
 rw [date_Cmp,Zb,Qc hs,script_value hk,h.v];rfl
theorem eK {R:Type} (t:Evt) (K:Int->Option R):V.asInt .i64 ((Evt.r t).getD 0 .undef) K=K t.k:=rfl
theorem eY {R:Type} (t:Evt) (K:Int->Option R):V.asInt .i64 ((Evt.r t).getD 1 .undef) K=K t.y:=rfl
theorem eM {R:Type} (t:Evt) (K:Int->Option R):V.asInt .i64 ((Evt.r t).getD 2 .undef) K=K t.m:=rfl
theorem eD {R:Type} (t:Evt) (K:Int->Option R):V.asInt .i64 ((Evt.r t).getD 3 .undef) K=K t.d:=rfl
theorem eV {R:Type} (t:Evt) (K:J1->Option R):V.asStr ((Evt.r t).getD 4 .undef) K=K t.v:=rfl
theorem Qcf {L:List Evt} {i:Nat} (h:i<L.length):(L.map Evt.r).getD i []=Evt.r L[i]:=by
 rw [Zl,Z77,Z1 h];rfl
theorem Qkf {L:List Evt} (hL:L.length<=10000):∀(f i:Nat) (y m d:Int),i+f=L.length->Seq y m d (L.drop i)->∃x,Runs (λrec x=>z88.l0P (L.map Evt.r) (L.length:Int) rec some x) ((i:Int),y,m,d) (.inl x)
 |
  0,i,y,m,d,h,_=>by
  refine ⟨((i:Int),y,m,d),.done λrec=>?_⟩
  unfold z88.l0P
  simp only
  rw [Qc (by omega)]
 |
  f+1,i,y,m,d,h,hs=>by
  have hi:i<L.length:=by omega
  rw [Z41 hi] at hs
  obtain ⟨s1,s2,s3⟩:=hs
  obtain ⟨x,hx⟩:=Qkf hL f (i+1) _ _ _ (by omega) s3
  refine ⟨x,.step (λrec=>?_) hx⟩
  have l2:(L.map Evt.r).length=L.length:=by simp
  unfold z88.l0P
  simp only
  rw [bif_t (by omega),if_pos (by omega),Zi,Qcf hi]
  simp only [eK,eY,eM,eD,eV]
  rw [script_wrong s2 s1,Zb,Qg (by omega) (by omega)];rfl
theorem script_Check {L:List Evt} (hL:L.length<=10000) (hs:Seq 0 0 0 L):z88.F (L.map Evt.r)=some (0,0):=by
 have l2:(L.map Evt.r).length=L.length:=by simp
 obtain ⟨x,hx⟩:=Qkf hL L.length 0 0 0 0 (by omega) hs
 have e:z88.l0 (L.map Evt.r) (L.length:Int) (0,0,0,0)=some (.inl x):=hx.lfp
 unfold z88.F
 rw [l2,Qc (by omega),e];rfl
def stxt (L:List Evt):J1:=(L.map etxt).flatten
theorem Ju (e:Evt) (t:List Evt):stxt (e::t)=etxt e++stxt t:=by simp [stxt]
def Wo (s:J1):J0:=s.map λc=>(c.toNat:Int)
theorem Qra (s:J1):(Wo s).map (λn=>UInt8.ofNat n.toNat)=s:=by
 unfold Wo
 rw [List.map_map]
 refine (Z63 λb _=>?_).trans (List.map_id s)
 show UInt8.ofNat ((b.toNat:Int)).toNat=b
 simp
theorem Qvu (s:J1):(Wo s).all Y7=true:=by
 unfold Wo
 rw [Z14]
 intro n hn
 obtain ⟨b,_,rfl⟩:=List.mem_map.1 hn
 have:=b.toNat_lt
 simp only [Y7,Z4,decide_eq_true_eq]
 omega
theorem Qb2:∀{L:List Evt} {y m d:Int},Seq y m d L->∀e∈L,EvtOK e
 |[],_,_,_,_,e,he=>by simp at he
 |
  a::t,_,_,_,h,e,he=>by
  rcases Z48.1 he with rfl|he
  ·exact h.2.1
  ·exact Qb2 h.2.2 e he
theorem Qjc {L:List Evt} (hL:L.length<=10000) (hok:∀e∈L,EvtOK e):∀(f i:Nat) (T:J1),i+f=L.length->T.length<=5000*i->Runs (λrec x=>z97.l0P (L.map Evt.r) (L.length:Int) rec some x) ((i:Int),Wo T) ((L.length:Int),Wo (T++stxt (L.drop i)))
 |
  0,i,T,h,hT=>by
  refine .done λrec=>?_
  unfold z97.l0P
  simp only
  rw [Qc (by omega),Z74 (by omega),show (i:Int)=(L.length:Int) by omega]
  simp [stxt]
 |
  f+1,i,T,h,hT=>by
  have hi:i<L.length:=by omega
  have ho:=hok L[i] (Z9 hi)
  have hl:=Qga ho
  have l2:(L.map Evt.r).length=L.length:=by simp
  have ih:=Qjc hL hok f (i+1) (T++etxt L[i]) (by omega) (by rw [Z6];omega)
  have e:T++etxt L[i]++stxt (L.drop (i+1))=T++stxt (L.drop i):=by
   rw [Z41 hi,Ju,Z50]
  rw [e] at ih
  refine .step (λrec=>?_) ih
  unfold z97.l0P
  simp only
  rw [bif_t (by omega),if_pos (by omega),Zi,Qcf hi]
  simp only [eK,eY,eM,eD,eV]
  rw [script_text ho,Zb,if_pos (by unfold Wo;rw [Z28,Z28];omega),Qg (by omega) (by omega)]
  unfold Wo
  rw [Z52];rfl
theorem script_Print_nil:z97.F ([]:J2)=some ([],0):=by
 unfold z97.F
 have h:=script_Check (L:=[]) (by decide) trivial
 rw [List.map_nil] at h
 rw [h,Zb,show (!decide ((0:Int)=0))=false from rfl]
 simp only [Zc]
 rw [Qc (by decide)];rfl
theorem script_Print {L:List Evt} (hL:L.length<=10000) (hne:L≠[]) (hs:Seq 0 0 0 L):z97.F (L.map Evt.r)=some (stxt L,0):=by
 have hpos:=Z30.2 hne
 have hok:=Qb2 hs
 have ho:=hok L[0] (Z9 hpos)
 have hl:=Qga ho
 have l2:(L.map Evt.r).length=L.length:=by simp
 have r:=Qjc hL hok (L.length-1) 1 (etxt L[0]) (by omega) (by omega)
 have e1:etxt L[0]++stxt (L.drop 1)=stxt L:=by
  conv=>rhs;rw [<-Z59 (l:=L),Z41 hpos,Ju]
 rw [e1] at r
 have e:z97.l0 (L.map Evt.r) (L.length:Int) (1,Wo (etxt L[0]))=some ((L.length:Int),Wo (stxt L)):=r.lfp
 have hsl:0<(Wo (stxt L)).length:=by unfold Wo;rw [Z28,<-e1,Z6];omega
 unfold z97.F
 rw [script_Check hL hs,Zb,show (!decide ((0:Int)=0))=false from rfl]
 simp only [Zc]
 rw [l2,bif_t (by omega),if_pos (by omega),Qcf hpos]
 simp only [eK,eY,eM,eD,eV]
 rw [script_text ho,Zb]
 change (if (([]:J0).length+(Wo (etxt L[0])).length)*1<=140737488355328 then ((z97.l0 (L.map Evt.r) (L.length:Int) (1,[]++Wo (etxt L[0]))).bind _) else none)=_
 rw [if_pos (by unfold Wo;rw [Z28];simp only [Z29];omega),List.nil_append,e,Zb]
 simp only
 rw [if_pos hsl,if_pos ⟨trivial,hsl,Qvu _⟩,Qra]
def lxF (N:Nat):Nat->J1->List Tk×Int×Int
 |0,_=>([],0,0)
 |
  f+1,r=>if r=[] then ([],0,0) else
  if (tokOf r).2.2=0 then
   if (lxF N f (skp false (r.drop (tokOf r).2.1.length))).2.2=0 then (⟨(tokOf r).1,(tokOf r).2.1,(N:Int)-r.length⟩::(lxF N f (skp false (r.drop (tokOf r).2.1.length))).1,0,0) else ([],(lxF N f (skp false (r.drop (tokOf r).2.1.length))).2.1,(lxF N f (skp false (r.drop (tokOf r).2.1.length))).2.2)
  else ([],(N:Int)-r.length,(tokOf r).2.2)
theorem Qpr (N:Nat):∀(f:Nat) (r:J1),r.length<=f->lxF N f r=lx N r:=by
 intro f
 induction f with
 |
  zero=>
  intro r h
  have:r=[]:=Z5 (by omega)
  subst this
  rw [lx_nil];rfl
 |
  succ f ih=>
  intro r h
  rw [lxF]
  by_cases hr:r=[]
  ·rw [if_pos hr,hr,lx_nil]
  ·rw [if_neg hr]
   by_cases he:(tokOf r).2.2=0
   ·obtain ⟨l1,l2⟩:=Qdq hr he
    have h4:=W1 false (r.drop (tokOf r).2.1.length)
    rw [Z17] at h4
    rw [if_pos he,Qan hr he,ih _ (by omega)]
   ·rw [if_neg he,Qb9 hr he]
def Qmd (s:J1):List Evt×Int×Int:=
 if (lxF s.length s.length (skp false s)).2.2≠0 then ([],(lxF s.length s.length (skp false s)).2.1,(lxF s.length s.length (skp false s)).2.2) else Yj (s.length:Int) (lxF s.length s.length (skp false s)).1.length (lxF s.length s.length (skp false s)).1 0 0 0 []
theorem Qm2 (s:J1):Qmd s=Y9 s:=by
 unfold Qmd Y9 lexOf
 rw [Qpr _ _ _ (W1 false s)]
def wkA:J1:=[112,97,121,32,50,48,50,52,45,48,50,45,48,49,32,100,117,101,59,32,114,101,115,101,116,32,50,48,50,52,45,48,51,45,49,53,32,53,46,53,59]
def wkB:J1:=[112,97,115,115,32,50,48,50,52,45,48,50,45,48,49,59,32,112,97,115,115,32,50,48,50,52,45,48,49,45,48,49,59]
def wkL:List Evt:=[⟨0,2024,2,1,kDue⟩,⟨2,2024,3,15,[53,46,53]⟩]
theorem wk1:Y9 wkA=(wkL,0,0):=by rw [<-Qm2];decide +kernel
theorem wk2:Y9 wkB=([],22,12):=by rw [<-Qm2];decide +kernel
theorem Qsv:Seq 0 0 0 wkL:=by
 refine ⟨by decide +kernel,⟨by decide,by decide +kernel,by decide +kernel,by decide⟩,by decide +kernel,⟨by decide,by decide +kernel,by decide +kernel,by decide⟩,trivial⟩
theorem wkT:stxt wkL=[112,97,121,32,50,48,50,52,45,48,50,45,48,49,32,100,117,101,59,10,114,101,115,101,116,32,50,48,50,52,45,48,51,45,49,53,32,53,46,53,59,10]:=by decide +kernel
theorem Qu4:z119.F=some true:=by
 unfold z119.F
 have e1:z118.F wkA=some (encM (wkL,0,0)):=by rw [script_Parse (by decide),wk1]
 have e2:z118.F wkB=some (encM ([],22,12)):=by rw [script_Parse (by decide),wk2]
 have e3:z97.F (wkL.map Evt.r)=some (stxt wkL,0):=script_Print (by decide) (by decide) Qsv
 change ((z118.F wkA).bind _)=_
 rw [e1,Zb]
 change ((z97.F (wkL.map Evt.r)).bind _)=_
 rw [e3,Zb]
 change ((z118.F wkB).bind _)=_
 rw [e2,Zb,wkT]
 rfl
theorem Qic (L:List Evt) (hL:L.length<=1000000):∀(f i:Nat),i+f=L.length->∃x,Runs (λrec x=>z120.l0P (L.map Evt.r) (L.map Evt.r) (L.length:Int) rec some x) (i:Int) (.inl x)
 |
  0,i,h=>by
  refine ⟨(i:Int),.done λrec=>?_⟩
  unfold z120.l0P
  rw [Qc (by omega)]
 |
  f+1,i,h=>by
  have hi:i<L.length:=by omega
  obtain ⟨x,hx⟩:=Qic L hL f (i+1) (by omega)
  refine ⟨x,.step (λrec=>?_) hx⟩
  have l2:(L.map Evt.r).length=L.length:=by simp
  have c:(0:Int)<=(i:Int)/\(i:Int)<((L.map Evt.r).length:Int):=by omega
  unfold z120.l0P
  rw [bif_t (by omega),if_pos c,Zi,Qcf hi]
  simp only [eK,eY,eM,eD,eV,if_pos c,decide_true,Bool.and_self,Zn,Zc]
  rw [Qg (by omega) (by omega)];rfl
theorem Qn3 (L:List Evt) (hL:L.length<=1000000):z120.F (L.map Evt.r) (L.map Evt.r)=some true:=by
 have l2:(L.map Evt.r).length=L.length:=by simp
 obtain ⟨x,hx⟩:=Qic L hL L.length 0 (by omega)
 have e:z120.l0 (L.map Evt.r) (L.map Evt.r) (L.length:Int) 0=some (.inl x):=hx.lfp
 unfold z120.F
 rw [l2,Zt (show ((L.length:Nat):Int)=(L.length:Nat) from rfl),e];rfl
structure NumTok (v:List UInt8):Prop where
 hd:∃b t,v=b::t/\ltr b=false/\(dgt b||decide (b.toNat=45))=true
 all:∀x∈v,nmr x=true
 dtd:dtd v=false
 dec:(mDec v).2.2=0
structure Can (e:Evt):Prop where
 rate:e.k=2->NumTok e.v
 paid:e.k<2->(e.v=kDue/\e.k=0)\/∃n:Nat,0<n/\n<=10^30/\e.v=txt n
 len:e.v.length<=800
theorem Qdo {p:UInt8->Bool}:∀(l:J1),∀x∈l.takeWhile p,p x=true
 |[],x,hx=>by simp at hx
 |
  b::t,x,hx=>by
  by_cases hb:p b=true
  ·rw [List.takeWhile_cons_of_pos hb] at hx
   rcases Z48.1 hx with rfl|hx
   ·exact hb
   ·exact Qdo t x hx
  ·rw [List.takeWhile_cons_of_neg hb] at hx;simp at hx
theorem Qfx {p:UInt8->Bool} {c:UInt8} (hc:p c=false) (R:J1):∀(T:J1),(∀x∈T,p x=true)->(T++c::R).takeWhile p=T
 |[],_=>List.takeWhile_cons_of_neg (by rw [hc];simp)
 |
  b::t,h=>by
  rw [Z86,List.takeWhile_cons_of_pos (h b (by simp)),Qfx hc R t λx hx=>h x (by simp [hx])]
theorem Qhu {b:UInt8} {t:J1} (hb:ltr b=true) (h:∀x∈b::t,wrd x=true) {c:UInt8} (hc:wrd c=false) (R:J1):tokOf (b::t++c::R)=(0,b::t,0):=by
 unfold tokOf
 rw [show (b::t++c::R).getD 0 0=b from rfl,if_pos hb,Qfx hc R (b::t) h]
theorem Qjx {b:UInt8} {t:J1} (hb:ltr b=false) (hd:(dgt b||decide (b.toNat=45))=true) (h:∀x∈b::t,nmr x=true) {c:UInt8} (hc:nmr c=false) (R:J1) :
  tokOf (b::t++c::R)=if dtd (b::t) then (2,b::t,0) else if (mDec (b::t)).2.2=0 then (1,b::t,0) else (0,[],5):=by
 unfold tokOf
 rw [show (b::t++c::R).getD 0 0=b from rfl,if_neg (by rw [hb];simp),if_pos hd,Qfx hc R (b::t) h]
theorem Qts (R:J1):tokOf (59::R)=(3,[59],0):=by
 unfold tokOf
 rw [show (59::R).getD 0 0=59 from rfl,if_neg (by decide),if_neg (by decide),if_pos (by decide)];rfl
theorem Qa7 {N:Nat} {k:Int} {T R:J1} {l:List Tk} (ht:tokOf (T++R)=(k,T,0)) (hne:T≠[]) (hl:lx N (skp false R)=(l,0,0)):∃p,lx N (T++R)=(⟨k,T,p⟩::l,0,0):=by
 have h0:(tokOf (T++R)).2.2=0:=by rw [ht]
 have h1:(tokOf (T++R)).2.1=T:=by rw [ht]
 have h2:(tokOf (T++R)).1=k:=by rw [ht]
 refine ⟨(N:Int)-(T++R).length,?_⟩
 rw [Qan (by simp [hne]) h0,h1,h2,List.drop_left,hl]
 rfl
theorem Qhj (R:J1):skp false (32::R)=skp false R:=by rw [skp,if_neg (by decide),if_pos (by decide)]
theorem Qp0 (R:J1):skp false (10::R)=skp false R:=by rw [skp,if_neg (by decide),if_pos (by decide)]
theorem Qda {b:UInt8} (h1:b.toNat≠35) (h2:bln b=false) (R:J1):skp false (b::R)=b::R:=by rw [skp,if_neg h1,if_neg (by rw [h2];simp)]
theorem Wd {v:Int} (hv:0<=v):dgt (cd v)=true:=by
 rw [Qf0,Yr hv];exact Zt (by omega)
theorem Yq {b:UInt8} (h:dgt b=true):nmr b=true:=by simp [nmr,h]
theorem Qg4 {b:UInt8} (h:dgt b=true):ltr b=false:=by
 simp only [dgt,Z4,decide_eq_true_eq] at h
 unfold ltr;rw [Zf (by omega)];rfl
theorem Qpo {y m d:Int} (hy:0<=y) (hm:0<=m) (hd:0<=d):dtd (dtxt y m d)=true:=by
 have a0:=Wd (v:=y/10/10/10) (by omega)
 have a1:=Wd (v:=y/10/10) (by omega)
 have a2:=Wd (v:=y/10) (by omega)
 have a3:=Wd (v:=y) hy
 have a5:=Wd (v:=m/10) (by omega)
 have a6:=Wd (v:=m) hm
 have a8:=Wd (v:=d/10) (by omega)
 have a9:=Wd (v:=d) hd
 have e:∀i,i<10->(if i=4\/i=7 then decide (((dtxt y m d).getD i 0).toNat=45) else dgt ((dtxt y m d).getD i 0))=true:=λi hi=>by
  have:i=0\/i=1\/i=2\/i=3\/i=4\/i=5\/i=6\/i=7\/i=8\/i=9:=by omega
  rcases this with rfl|rfl|rfl|rfl|rfl|rfl|rfl|rfl|rfl|rfl
  ·exact a0
  ·exact a1
  ·exact a2
  ·exact a3
  ·rfl
  ·exact a5
  ·exact a6
  ·rfl
  ·exact a8
  ·exact a9
 unfold dtd
 rw [Z4]
 exact ⟨rfl,Z14.2 λi hi=>e i (by simpa using hi)⟩
theorem Qu7 {y m d:Int} (h:right y m d):mDate (dtxt y m d)=(y,m,d,0):=by
 obtain ⟨hy,hm1,hm2,hd1,hd2⟩:=Yi h
 have e1:tv 0 ((dtxt y m d).take 4)=y:=by
  show 10*(10*(10*(10*0+((cd (y/10/10/10)).toNat:Int)-48)+((cd (y/10/10)).toNat:Int)-48)+((cd (y/10)).toNat:Int)-48)+((cd y).toNat:Int)-48=y
  rw [Yr (by omega),Yr (by omega),Yr (by omega),Yr (by omega)];omega
 have e2:tv 0 (((dtxt y m d).drop 5).take 2)=m:=by
  show 10*(10*0+((cd (m/10)).toNat:Int)-48)+((cd m).toNat:Int)-48=m
  rw [Yr (by omega),Yr (by omega)];omega
 have e3:tv 0 ((dtxt y m d).drop 8)=d:=by
  show 10*(10*0+((cd (d/10)).toNat:Int)-48)+((cd d).toNat:Int)-48=d
  rw [Yr (by omega),Yr (by omega)];omega
 unfold mDate
 rw [e1,e2,e3,if_pos h]
theorem Qif {y m d:Int} (h:right y m d) {c:UInt8} (hc:nmr c=false) (R:J1):tokOf (dtxt y m d++c::R)=(2,dtxt y m d,0):=by
 obtain ⟨hy,hm1,hm2,hd1,hd2⟩:=Yi h
 have hdt:=Qpo (y:=y) (m:=m) (d:=d) (by omega) (by omega) (by omega)
 have hg:∀x∈dtxt y m d,nmr x=true:=λx hx=>by
  simp only [dtxt,Z48,List.not_mem_nil,or_false] at hx
  rcases hx with rfl|rfl|rfl|rfl|rfl|rfl|rfl|rfl|rfl|rfl
  ·exact Yq (Wd (by omega))
  ·exact Yq (Wd (by omega))
  ·exact Yq (Wd (by omega))
  ·exact Yq (Wd (by omega))
  ·rfl
  ·exact Yq (Wd (by omega))
  ·exact Yq (Wd (by omega))
  ·rfl
  ·exact Yq (Wd (by omega))
  ·exact Yq (Wd (by omega))
 have h0:=Wd (v:=y/10/10/10) (by omega)
 have:=Qjx (b:=cd (y/10/10/10)) (t:=(dtxt y m d).tail) (Qg4 h0) (by rw [h0];rfl) hg hc R
 rw [show cd (y/10/10/10)::(dtxt y m d).tail=dtxt y m d from rfl,if_pos hdt] at this
 exact this
theorem Qoy {n:Nat} (hn:n<=10^30):NumTok (decTxt n 2)/\mDec (decTxt n 2)=((n:Int),2,0):=by
 have hl:(txt n).length<=31:=J5 (by omega) (by decide)
 have hm:=Qpm (n:=n) (k:=2) (by decide) (by omega)
 have hp:=Qbs n 2
 have hpd:=Qkb n 2
 have hdg:∀x∈padded n 2,dgt x=true:=λx hx=>by
  have:=hpd x hx
  unfold digit at this
  simp only [dgt,Z4,decide_eq_true_eq];exact this
 have hall:∀x∈decTxt n 2,dgt x=true\/x=46:=λx hx=>by
  unfold decTxt at hx
  rcases Z22.1 hx with hx|hx
  ·exact .inl (hdg x (Z42 hx))
  ·rcases Z48.1 hx with rfl|hx
   ·exact .inr rfl
   ·exact .inl (hdg x (Z57 hx))
 have hfirst:∃b t,decTxt n 2=b::t/\dgt b=true:=by
  cases hq:padded n 2 with
  |nil=>rw [hq] at hp;simp at hp
  |
   cons b t=>
   refine ⟨b,t.take ((padded n 2).length-2-1)++46::(padded n 2).drop ((padded n 2).length-2),?_,hdg b (by rw [hq];simp)⟩
   unfold decTxt
   conv=>lhs;arg 1;rw [hq]
   have:(b::t).length-2=((padded n 2).length-2-1)+1:=by rw [hq] at hp ⊢;omega
   rw [this,List.take_succ_cons];rfl
 obtain ⟨b,t,e,hb⟩:=hfirst
 refine ⟨⟨⟨b,t,e,Qg4 hb,by rw [hb];rfl⟩,λx hx=>?_,?_,by rw [hm]⟩,hm⟩
 ·rcases hall x hx with h|rfl
  ·exact Yq h
  ·rfl
 ·rw [Bool.eq_false_iff]
  intro hd
  obtain ⟨h10,_⟩:=Qau hd
  have h4:=Qb0 hd (i:=4) (.inl rfl)
  have hmem:(decTxt n 2).getD 4 0∈decTxt n 2:=by
   rw [Zl,Z1 (by omega)]
   exact Z9 _
  rcases hall _ hmem with h|h
  ·simp only [dgt,Z4,decide_eq_true_eq] at h;omega
  ·rw [h] at h4;simp at h4
def vk (e:Evt):Int:=if e.v=kDue then 0 else 1
theorem Quk (h:NumTok kDue):False:=by
 obtain ⟨b,t,e,hb,_⟩:=h.hd
 have:b=100:=by simp only [kDue,List.cons.injEq] at e;exact e.1.symm
 subst this
 exact absurd hb (by decide)
theorem vtok {e:Evt} (ho:EvtOK e) (hc:Can e) (h3:e.k≠3) (R:J1):tokOf (vtxt e++59::R)=(vk e,vtxt e,0)/\vtxt e≠[]/\∀p,(mWorth e.k ⟨vk e,vtxt e,p⟩)=(0,e.v):=by
 have num:∀v:J1,NumTok v->tokOf (v++59::R)=(1,v,0)/\v≠[]:=λv hv=>by
  obtain ⟨b,t,e,hb,hd⟩:=hv.hd
  have:=Qjx hb hd (by rw [<-e];exact hv.all) (c:=59) (by decide) R
  rw [<-e,if_neg (by rw [hv.dtd];simp),if_pos hv.dec] at this
  exact ⟨this,by rw [e];simp⟩
 by_cases h2:e.k=2
 ·have hn:=hc.rate h2
  have hd:e.v≠kDue:=λhh=>Quk (hh▸hn)
  have e1:vtxt e=e.v:=by unfold vtxt;rw [if_pos (.inl h2)]
  have e2:vk e=1:=by unfold vk;rw [if_neg hd]
  rw [e1,e2]
  refine ⟨(num _ hn).1,(num _ hn).2,λp=>?_⟩
  unfold mWorth
  have hv:=ho.v
  rw [h2] at hv ⊢
  rw [if_neg (by simp),if_neg (by simp),if_pos rfl,hv]
 ·have hk:=ho.k
  rcases hc.paid (by omega) with ⟨hd,h0⟩|⟨n,n1,n2,hv⟩
  ·have e1:vtxt e=kDue:=by unfold vtxt;rw [if_pos (.inr hd),hd]
   have e2:vk e=0:=by unfold vk;rw [if_pos hd]
   rw [e1,e2,hd]
   refine ⟨Qhu (b:=100) (t:=[117,101]) (by decide) (by decide) (by decide) R,by decide,λp=>?_⟩
   unfold mWorth
   rw [if_pos ⟨rfl,h0⟩,if_pos rfl]
  ·have hdg:=Qbb n
   have hd:e.v≠kDue:=λhh=>by
    rw [hv] at hh
    have:=hdg 100 (by rw [hh];decide)
    unfold digit at this;simp at this
   have hl:(txt n).length<=31:=J5 (by omega) (by decide)
   have e1:vtxt e=decTxt n 2:=by
    unfold vtxt;rw [if_neg (λhh=>hh.elim h2 hd),hv,Qji (by omega)];rfl
   have e2:vk e=1:=by unfold vk;rw [if_neg hd]
   obtain ⟨d1,d2⟩:=Qoy n2
   have hvl:=ho.v
   rw [e1,e2]
   refine ⟨(num _ d1).1,(num _ d1).2,λp=>?_⟩
   unfold mWorth
   have hi:itxt (n:Int)=e.v:=by rw [hv];unfold itxt;rw [if_neg (by omega)];rfl
   simp only [d2,hi,hvl]
   rw [if_neg (by omega),if_neg (by simp),if_neg h2,if_neg (by simp),if_neg (by simp)]
def Qb8:List Evt->List Tk->Prop
 |[],l=>l=[]
 |e::t,l=>∃p0 p1 p2 p3 l',l=⟨0,Wn e.k,p0⟩::⟨2,dtxt e.y e.m e.d,p1⟩::(if e.k=3 then ⟨3,[59],p3⟩::l' else ⟨vk e,vtxt e,p2⟩::⟨3,[59],p3⟩::l')/\Qb8 t l'
theorem Qc2 {k:Int} (hk:0<=k/\k<=3):kindOf (Wn k)=k/\∃b t,Wn k=b::t/\ltr b=true/\(∀x∈b::t,wrd x=true):=by
 have:k=0\/k=1\/k=2\/k=3:=by omega
 rcases this with rfl|rfl|rfl|rfl
 ·exact ⟨by decide,112,[97,121],rfl,by decide,by decide⟩
 ·exact ⟨by decide,112,[114,101,112,97,121],rfl,by decide,by decide⟩
 ·exact ⟨by decide,114,[101,115,101,116],rfl,by decide,by decide⟩
 ·exact ⟨by decide,112,[97,115,115],rfl,by decide,by decide⟩
theorem Qsq {e:Evt} (hk:0<=e.k/\e.k<=3) (S:J1):skp false (etxt e++S)=etxt e++S:=by
 obtain ⟨_,b,t,hw,hb,_⟩:=Qc2 hk
 have hbn:97<=b.toNat/\b.toNat<=122:=by simpa [ltr] using hb
 unfold etxt
 rw [hw]
 refine Qda (by omega) ?_ _
 unfold bln
 rw [Zf (show ¬b.toNat=32 by omega),Zf (show ¬b.toNat=9 by omega),Zf (show ¬b.toNat=10 by omega),Zf (show ¬b.toNat=13 by omega)];rfl
theorem Qvd {N:Nat} {e:Evt} (ho:EvtOK e) (hc:Can e) {S:J1} {l:List Tk} (hl:lx N (skp false S)=(l,0,0)) :
  ∃p0 p1 p2 p3,lx N (etxt e++S)=(⟨0,Wn e.k,p0⟩::⟨2,dtxt e.y e.m e.d,p1⟩::(if e.k=3 then ⟨3,[59],p3⟩::l else ⟨vk e,vtxt e,p2⟩::⟨3,[59],p3⟩::l),0,0):=by
 obtain ⟨_,b,t,hw,hb,hall⟩:=Qc2 ho.k
 obtain ⟨hy,hm1,hm2,hd1,hd2⟩:=Yi ho.d
 have date_stay:∀R,skp false (dtxt e.y e.m e.d++R)=dtxt e.y e.m e.d++R:=λR=>by
  have h0:=Wd (v:=e.y/10/10/10) (by omega)
  have hbn:48<=(cd (e.y/10/10/10)).toNat/\(cd (e.y/10/10/10)).toNat<=57:=by simpa [dgt] using h0
  refine Qda (b:=cd (e.y/10/10/10)) (by omega) ?_ _
  unfold bln
  rw [Zf (show ¬(cd (e.y/10/10/10)).toNat=32 by omega),Zf (show ¬(cd (e.y/10/10/10)).toNat=9 by omega),Zf (show ¬(cd (e.y/10/10/10)).toNat=10 by omega),Zf (show ¬(cd (e.y/10/10/10)).toNat=13 by omega)];rfl
 have end_stay:∀R,skp false (59::R)=59::R:=λR=>Qda (by decide) (by decide) R
 obtain ⟨p3,h3⟩:=Qa7 (N:=N) (k:=3) (T:=[59]) (R:=10::S) (Qts _) (by simp) (l:=l) (by rw [Qp0];exact hl)
 have h3':lx N (59::10::S)=(⟨3,[59],p3⟩::l,0,0):=h3
 by_cases hk:e.k=3
 ·obtain ⟨p1,h1⟩:=Qa7 (N:=N) (k:=2) (T:=dtxt e.y e.m e.d) (R:=59::10::S) (Qif ho.d (by decide) _) (by simp [dtxt]) (l:=⟨3,[59],p3⟩::l) (by rw [end_stay,h3'])
  obtain ⟨p0,h0⟩:=Qa7 (N:=N) (k:=0) (T:=b::t) (R:=32::(dtxt e.y e.m e.d++59::10::S)) (Qhu hb hall (by decide) _) (by simp) (l:=_) (by rw [Qhj,date_stay,h1])
  refine ⟨p0,p1,0,p3,?_⟩
  rw [if_pos hk]
  have e1:etxt e++S=(b::t)++32::(dtxt e.y e.m e.d++59::10::S):=by unfold etxt;rw [if_pos hk,hw];simp
  rw [e1,h0,hw]
 ·obtain ⟨v1,v2,_⟩:=vtok ho hc hk (10::S)
  obtain ⟨p2,h2⟩:=Qa7 (N:=N) (k:=vk e) (T:=vtxt e) (R:=59::10::S) v1 v2 (l:=⟨3,[59],p3⟩::l) (by rw [end_stay,h3'])
  have v_stay:skp false (vtxt e++59::10::S)=vtxt e++59::10::S:=by
   cases hq:vtxt e with
   |nil=>exact (v2 hq).elim
   |
    cons c u=>
    rw [hq] at v1
    have hcb:ltr c=true\/(dgt c||decide (c.toNat=45))=true:=by
     rw [Z86] at v1
     unfold tokOf at v1
     rw [show (c::(u++59::10::S)).getD 0 0=c from rfl] at v1
     by_cases x1:ltr c=true
     ·exact .inl x1
     ·by_cases x2:(dgt c||decide (c.toNat=45))=true
      ·exact .inr x2
      ·rw [if_neg x1,if_neg x2] at v1
       split at v1
       ·have hv:vk e=3:=(Prod.mk.inj v1).1.symm
        unfold vk at hv;split at hv<;>omega
       ·have:=(Prod.mk.inj (Prod.mk.inj v1).2).2;simp at this
    have hn:c.toNat≠35/\bln c=false:=by
     simp only [ltr,dgt,Z58,Z4,decide_eq_true_eq] at hcb
     refine ⟨by omega,?_⟩
     unfold bln
     rw [Zf (show ¬c.toNat=32 by omega),Zf (show ¬c.toNat=9 by omega),Zf (show ¬c.toNat=10 by omega),Zf (show ¬c.toNat=13 by omega)];rfl
    exact Qda hn.1 hn.2 _
  obtain ⟨p1,h1⟩:=Qa7 (N:=N) (k:=2) (T:=dtxt e.y e.m e.d) (R:=32::(vtxt e++59::10::S)) (Qif ho.d (by decide) _) (by simp [dtxt]) (l:=_) (by rw [Qhj,v_stay,h2])
  obtain ⟨p0,h0⟩:=Qa7 (N:=N) (k:=0) (T:=b::t) (R:=32::(dtxt e.y e.m e.d++32::(vtxt e++59::10::S))) (Qhu hb hall (by decide) _) (by simp) (l:=_) (by rw [Qhj,date_stay,h1])
  refine ⟨p0,p1,p2,p3,?_⟩
  rw [if_neg hk]
  have e1:etxt e++S=(b::t)++32::(dtxt e.y e.m e.d++32::(vtxt e++59::10::S)):=by unfold etxt;rw [if_neg hk,hw];simp
  rw [e1,h0,hw]
theorem Qnk:∀(L:List Evt),(∀e∈L,EvtOK e)->skp false (stxt L)=stxt L
 |[],_=>rfl
 |e::t,h=>by rw [Ju];exact Qsq (h e (by simp)).k _
theorem Qit (N:Nat):∀(L:List Evt),(∀e∈L,EvtOK e)->(∀e∈L,Can e)->∃l,lx N (stxt L)=(l,0,0)/\Qb8 L l/\l.length<=4*L.length
 |[],_,_=>⟨[],lx_nil N,rfl,by simp⟩
 |
  e::t,ho,hc=>by
  obtain ⟨l,h1,h2,h3⟩:=Qit N t (λx hx=>ho x (by simp [hx])) (λx hx=>hc x (by simp [hx]))
  obtain ⟨p0,p1,p2,p3,h4⟩:=Qvd (N:=N) (ho e (by simp)) (hc e (by simp)) (S:=stxt t) (l:=l) (by rw [Qnk t λx hx=>ho x (by simp [hx])];exact h1)
  refine ⟨_,by rw [Ju];exact h4,⟨p0,p1,p2,p3,l,rfl,h2⟩,?_⟩
  split<;>simp only [Z8]<;>omega
theorem Qpq {N:Int} {e:Evt} {t:List Evt} {l:List Tk} (ho:EvtOK e) (hc:Can e) (hs:Qb8 (e::t) l) {y m d:Int} (hd:¬dcmp e.y e.m e.d y m d<0):∃l',mEvent N l y m d=.inr (e,l')/\Qb8 t l'/\l≠[]/\l'.length<l.length:=by
 obtain ⟨p0,p1,p2,p3,l',rfl,hs⟩:=hs
 obtain ⟨hk,_⟩:=Qc2 ho.k
 have hk0:=ho.k
 refine ⟨l',?_,hs,by simp,by split<;>simp only [Z8]<;>omega⟩
 obtain ⟨L2,h2⟩:∃L2,L2=(if e.k=3 then (⟨3,[59],p3⟩:Tk)::l' else ⟨vk e,vtxt e,p2⟩::⟨3,[59],p3⟩::l'):=⟨_,rfl⟩
 rw [<-h2]
 obtain ⟨L1,h1⟩:∃L1,L1=(⟨2,dtxt e.y e.m e.d,p1⟩:Tk)::L2:=⟨_,rfl⟩
 rw [<-h1]
 obtain ⟨L0,h0⟩:∃L0,L0=(⟨0,Wn e.k,p0⟩:Tk)::L1:=⟨_,rfl⟩
 rw [<-h0]
 have a0:A.hd N L0=⟨0,Wn e.k,p0⟩:=by rw [h0];rfl
 have b0:L0.tail=L1:=by rw [h0];rfl
 have a1:A.hd N L1=⟨2,dtxt e.y e.m e.d,p1⟩:=by rw [h1];rfl
 have b1:L1.tail=L2:=by rw [h1];rfl
 unfold mEvent
 rw [b0,b1,a0,a1]
 simp only [hk,Qu7 ho.d]
 rw [if_neg (by simp),if_neg (by omega),if_neg (by simp),if_neg (by simp),if_neg hd]
 by_cases h3:e.k=3
 ·rw [if_pos h3]
  rw [if_pos h3] at h2
  subst h2
  unfold mFin
  have hv:e.v=[]:=by
   have:=ho.v
   unfold mVal at this
   rw [if_pos h3] at this
   by_cases hn:e.v=[]
   ·exact hn
   ·rw [if_neg hn] at this;simp at this
  rw [if_pos (show (A.hd N ((⟨3,[59],p3⟩:Tk)::l')).k=3/\(A.hd N ((⟨3,[59],p3⟩:Tk)::l')).s=[59] from ⟨rfl,rfl⟩),<-hv];rfl
 ·rw [if_neg h3]
  rw [if_neg h3] at h2
  obtain ⟨_,_,hw⟩:=vtok ho hc h3 []
  have hw:=hw p2
  have a2:A.hd N L2=⟨vk e,vtxt e,p2⟩:=by rw [h2];rfl
  have b2:L2.tail=⟨3,[59],p3⟩::l':=by rw [h2];rfl
  rw [a2,b2,hw]
  unfold mFin
  rw [if_neg (by simp),if_pos (show (A.hd N ((⟨3,[59],p3⟩:Tk)::l')).k=3/\(A.hd N ((⟨3,[59],p3⟩:Tk)::l')).s=[59] from ⟨rfl,rfl⟩)];rfl
theorem Qvy (N:Int):∀(n:Nat) (L:List Evt) (l:List Tk) (y m d:Int) (acc:List Evt),l.length<=n->Qb8 L l->Seq y m d L->(∀e∈L,Can e)->Yj N n l y m d acc=(acc++L,0,0):=by
 intro n
 induction n with
 |
  zero=>
  intro L l y m d acc hn hs hq hc
  have:l=[]:=Z5 (by omega)
  subst this
  cases L with
  |nil=>simp [Yj]
  |cons e t=>obtain ⟨_,_,_,_,_,h,_⟩:=hs;simp at h
 |
  succ n ih=>
  intro L l y m d acc hn hs hq hc
  cases L with
  |
   nil=>
   rw [show l=[] from hs,Yj,if_pos rfl];simp
  |
   cons e t=>
   obtain ⟨q1,q2,q3⟩:=hq
   obtain ⟨l',h1,h2,h3,h4⟩:=Qpq (N:=N) q2 (hc e (by simp)) hs q1
   rw [Yj,if_neg h3,h1]
   simp only
   rw [ih t l' e.y e.m e.d (acc++[e]) (by omega) h2 q3 λx hx=>hc x (by simp [hx])]
   simp
theorem Qv3 {L:List Evt} (hq:Seq 0 0 0 L) (hc:∀e∈L,Can e):Y9 (stxt L)=(L,0,0)/\(lexOf (stxt L)).1.length<=4*L.length:=by
 have ho:=Qb2 hq
 obtain ⟨l,h1,h2,h3⟩:=Qit (stxt L).length L ho hc
 have e:lexOf (stxt L)=(l,0,0):=by unfold lexOf;rw [Qnk L ho,h1]
 refine ⟨?_,by rw [e];exact h3⟩
 unfold Y9
 rw [e]
 rw [if_neg (by simp)]
 rw [Qvy _ _ L l 0 0 0 [] (Z3 _) h2 hq hc];simp
theorem Qh5 {L:List Evt} (hL:L.length<=10000) (hs:Seq 0 0 0 L):z97.F (L.map Evt.r)=some (stxt L,0):=by
 by_cases h:L=[]
 ·subst h;exact script_Print_nil
 ·exact script_Print hL h hs
theorem Qv7 {e:Evt} (ho:EvtOK e) (hc:Can e):(etxt e).length<=820:=by
 have h1:=Qg8 ho.k
 have h2:(dtxt e.y e.m e.d).length=10:=rfl
 have hv:e.k≠3->(vtxt e).length<=800:=λh3=>by
  by_cases h4:e.k=2\/e.v=kDue
  ·unfold vtxt;rw [if_pos h4];exact hc.len
  ·obtain ⟨_,p1,p2⟩:=Qes (ho.paid h4 h3)
   unfold vtxt
   rw [if_neg h4]
   have hl:(txt (mWhole e.v).1.natAbs).length<=31:=J5 (by omega) (by decide)
   have hp:=Qbs (mWhole e.v).1.natAbs 2
   unfold decTxt
   rw [Z6,Z8,Z10,Z17]
   omega
 unfold etxt
 by_cases h3:e.k=3
 ·rw [if_pos h3];simp only [Z6,Z8,Z29];omega
 ·have:=hv h3
  rw [if_neg h3];simp only [Z6,Z8,Z29];omega
theorem Qdi:∀(L:List Evt),(∀e∈L,EvtOK e)->(∀e∈L,Can e)->(stxt L).length<=820*L.length
 |[],_,_=>by simp [stxt]
 |
  e::t,ho,hc=>by
  have h1:=Qv7 (ho e (by simp)) (hc e (by simp))
  have h2:=Qdi t (λx hx=>ho x (by simp [hx])) (λx hx=>hc x (by simp [hx]))
  rw [Ju,Z6,Z8];omega
theorem Qlm {b:UInt8} (h:48<=b.toNat):ch ((b.toNat:Int)-48)=b:=by
 unfold ch
 have:48+((b.toNat:Int)-48).toNat=b.toNat:=by omega
 rw [this];simp
theorem Qof:∀(k:Nat) (s:J1),s.length=k->numOK s=true->txt (tv 0 s).toNat=s:=by
 intro k
 induction k with
 |
  zero=>
  intro s hs h
  exact ((Qdl h).2.1 (Z5 hs)).elim
 |
  succ k ih=>
  intro s hs h
  obtain ⟨h1,h2,h3⟩:=Qdl h
  rcases List.eq_nil_or_concat s with h0|⟨t,b,h0⟩
  ·exact (h2 h0).elim
  ·rw [List.concat_eq_append] at h0
   have hb:=h1 b (by rw [h0];simp)
   unfold digit at hb
   have htv:tv 0 s=10*tv 0 t+(b.toNat:Int)-48:=by rw [h0,Qdd];rfl
   by_cases ht:t=[]
   ·subst ht
    have e:(tv 0 s).toNat=b.toNat-48:=by rw [htv];show (10*0+(b.toNat:Int)-48).toNat=_;omega
    rw [e,h0]
    by_cases hz:b.toNat=48
    ·rw [hz]
     have:b=48:=UInt8.toNat_inj.1 hz
     subst this;rfl
    ·unfold txt
     rw [if_neg (by omega),Wq (by decide) (by omega),show (b.toNat-48)/10=0 by omega,toB_zero]
     have:(((b.toNat-48)%10:Nat):Int)=(b.toNat:Int)-48:=by omega
     simp only [this,List.reverse_cons,List.reverse_nil,List.nil_append,List.map_cons,List.map_nil,Qlm hb.1]
   ·have hpos:=Z30.2 ht
    have hl:s.length=t.length+1:=by rw [h0];simp
    have hg:s.getD 0 0=t.getD 0 0:=by
     cases t with
     |nil=>exact (ht rfl).elim
     |cons c u=>rw [h0];rfl
    have hhd:=h3 (by omega)
    have hdt:Qw t:=λx hx=>h1 x (by rw [h0];simp [hx])
    have htOK:numOK t=true:=by
     unfold numOK
     rw [Zf ht,Yv.2 hdt,Zf (show ¬(t.getD 0 0).toNat=48 by rw [<-hg];exact hhd)];simp
    have hit:=ih t (by omega) htOK
    have hnz:(tv 0 t).toNat≠0:=λe=>by
     have:=(Qqx htOK).1 e
     rw [hg,this] at hhd;exact hhd rfl
    have hb0:=Jg hdt
    have e:(tv 0 s).toNat=10*(tv 0 t).toNat+(b.toNat-48):=by rw [htv];omega
    have hm:(10*(tv 0 t).toNat+(b.toNat-48))%10=b.toNat-48:=by omega
    have hd:(10*(tv 0 t).toNat+(b.toNat-48))/10=(tv 0 t).toNat:=by omega
    have:((b.toNat-48:Nat):Int)=(b.toNat:Int)-48:=by omega
    rw [e]
    unfold txt at hit ⊢
    rw [if_neg hnz] at hit
    rw [if_neg (by omega),Wq (by decide) (by omega),hm,hd,this]
    simp only [List.reverse_cons,Z52,List.map_cons,List.map_nil,hit,Qlm hb.1]
    exact h0.symm
theorem Qv1 {s:J1} (h0:(mWhole s).2=0) (h1:0<(mWhole s).1):s=txt (mWhole s).1.toNat:=by
 unfold mWhole at h0 h1 ⊢
 by_cases hd:(mDigits (cutNeg s).1).2=0
 ·rw [if_neg (λhh=>hh hd)] at h0 h1 ⊢
  by_cases hb:(cutNeg s).2=true
  ·exfalso
   split at h1
   ·simp at h1
   ·simp only [hb,if_true] at h1;omega
  ·have hb':(cutNeg s).2=false:=by simpa using hb
   simp only [hb',Z60,Z20,if_false] at h1 ⊢
   have hs:(cutNeg s).1=s:=by
    cases s with
    |nil=>rfl
    |
     cons b t=>
     unfold cutNeg at hb' ⊢
     simp only at hb' ⊢
     split at hb'
     ·simp at hb'
     ·rename_i hh;rw [if_neg hh]
   rw [hs] at hd h1 ⊢
   unfold mDigits at hd h1 ⊢
   split at hd
   ·simp at hd
   ·rename_i hl
    split at hd
    ·rename_i hok
     rw [if_neg hl,if_pos hok]
     simp only [Zi]
     exact (Qof s.length s rfl hok).symm
    ·simp at hd
 ·rw [if_pos hd] at h1;simp at h1
theorem Qjp {v:J1} (h:(mDec v).2.2=0):NumTok v:=by
 have hdec:=h
 unfold mDec at h
 by_cases hl:4096<v.length
 ·rw [if_pos hl] at h;simp at h
 rw [if_neg hl] at h
 unfold Y5 at h
 split at h
 ·simp at h
 rename_i hc
 simp only [Z58,not_or,Z49,Bool.not_eq_false,Z4] at hc
 obtain ⟨⟨p1,p2⟩,p3⟩:=hc
 obtain ⟨d1,n1⟩:=Jz (by simpa using p1)
 have dg_of:∀{l:J1},Qw l->∀x∈l,dgt x=true:=λhd x hx=>by
  have:=hd x hx
  unfold digit at this
  simp only [dgt,Z4,decide_eq_true_eq];exact this
 have ht:(∀x∈(cutNeg v).1,dgt x=true\/x=46)/\∃c u,(cutNeg v).1=c::u/\dgt c=true:=by
  obtain ⟨c,u,hcu⟩:∃c u,(cutDot (cutNeg v).1).1=c::u:=by
   cases hq:(cutDot (cutNeg v).1).1 with
   |nil=>exact (n1 hq).elim
   |cons c u=>exact ⟨c,u,rfl⟩
  have hc0:dgt c=true:=dg_of d1 c (by rw [hcu];simp)
  cases ho:(cutDot (cutNeg v).1).2 with
  |
   none=>
   have e:=Qem ho
   refine ⟨λx hx=>.inl (dg_of d1 x (by rw [e];exact hx)),c,u,by rw [<-e];exact hcu,hc0⟩
  |
   some b=>
   have e:=Qdw ho
   have hb:plainB b=true:=by
    by_cases hpb:plainB b=true
    ·exact hpb
    ·exfalso
     apply p2
     rw [ho];exact ⟨rfl,by simpa using hpb⟩
   obtain ⟨d2,_⟩:=Jz hb
   refine ⟨λx hx=>?_,c,u++46::b,by rw [e,hcu];rfl,hc0⟩
   rw [e] at hx
   rcases Z22.1 hx with hx|hx
   ·exact .inl (dg_of d1 x hx)
   ·rcases Z48.1 hx with rfl|hx
    ·exact .inr rfl
    ·exact .inl (dg_of d2 x hx)
 obtain ⟨hall,c,u,hcu,hc0⟩:=ht
 have hn:∀x,dgt x=true\/x=46->nmr x=true:=λx hx=>by
  rcases hx with hx|rfl
  ·exact Yq hx
  ·rfl
 have hno:∀x,dgt x=true\/x=46->x.toNat≠45:=λx hx e=>by
  rcases hx with hx|rfl
  ·simp only [dgt,Z4,decide_eq_true_eq] at hx;omega
  ·simp at e
 cases v with
 |nil=>simp [cutNeg] at hcu
 |
  cons b t=>
  by_cases hb:b=45
  ·subst hb
   have e:(cutNeg (45::t)).1=t:=rfl
   rw [e] at hall hcu
   refine ⟨⟨45,t,rfl,by decide,by decide⟩,λx hx=>?_,?_,hdec⟩
   ·rcases Z48.1 hx with rfl|hx
    ·rfl
    ·exact hn x (hall x hx)
   ·rw [Bool.eq_false_iff]
    intro hd
    obtain ⟨h10,_⟩:=Qau hd
    have h4:=Qb0 hd (i:=4) (.inl rfl)
    have hlt:3<t.length:=by rw [Z8] at h10;omega
    have:(45::t).getD 4 0=t[3]:=by
     rw [Zl];simp [hlt]
    rw [this] at h4
    exact hno _ (hall _ (Z9 hlt)) h4
  ·have e:(cutNeg (b::t)).1=b::t:=by unfold cutNeg;simp only;rw [if_neg hb]
   rw [e] at hall hcu
   simp only [List.cons.injEq] at hcu
   obtain ⟨rfl,rfl⟩:=hcu
   refine ⟨⟨b,t,rfl,Qg4 hc0,by rw [hc0];rfl⟩,λx hx=>hn x (hall x hx),?_,hdec⟩
   rw [Bool.eq_false_iff]
   intro hd
   obtain ⟨h10,_⟩:=Qau hd
   have h4:=Qb0 hd (i:=4) (.inl rfl)
   have hlt:4<(b::t).length:=by omega
   have:(b::t).getD 4 0=(b::t)[4]:=by
    rw [Zl,Z1 hlt];rfl
   rw [this] at h4
   exact hno _ (hall _ (Z9 hlt)) h4
theorem Qsz {e:Evt} (ho:EvtOK e) (hl:e.v.length<=800):Can e:=by
 refine ⟨λh2=>?_,λh2=>?_,hl⟩
 ·have hv:=ho.v
  unfold mVal at hv
  rw [if_neg (by omega),if_pos h2] at hv
  apply Qjp
  unfold Jb at hv
  by_cases hd:(mDec e.v).2.2=0
  ·exact hd
  ·rw [if_pos hd] at hv;exact hv
 ·by_cases h0:e.k=0/\e.v=kDue
  ·exact .inl ⟨h0.2,h0.1⟩
  ·have hv:=ho.v
   have hk:=ho.k
   unfold mVal at hv
   rw [if_neg (by omega),if_neg (by omega),if_neg h0] at hv
   obtain ⟨p0,p1,p2⟩:=Qes hv
   refine .inr ⟨(mWhole e.v).1.toNat,by omega,?_,Qv1 p0 p1⟩
   have:(mWhole e.v).1<=((10^30:Nat):Int):=p2
   omega
theorem Qrn (y m d:Int):dcmp y m d y m d=0:=by
 unfold dcmp
 rw [if_neg (by omega),if_neg (by omega),if_neg (by omega),if_neg (by omega),if_neg (by omega),if_neg (by omega)]
theorem Qkz {y m d:Int} (h:right y m d):¬dcmp y m d 0 0 0<0:=by
 obtain ⟨hy,_⟩:=Yi h
 unfold dcmp
 rw [if_neg (by omega),if_pos (by omega)];omega
end Go.Proofs.YtihfdjkjpncjfaaGreatDoor.A
end
section
namespace Go.Proofs.YtihfdjkjpncjfaaGreatDoor.A
open Go Go.RowKit Go.ChangeShapes Go.WideShapes Go.ChangeAt
abbrev MS:=Int×J2×Int×Int×Int
theorem Qba {z:Int} (h:0<=z/\z<=4294967296):(itxt z).length<=20/\sz z.natAbs<=100000000:=by
 have h1:sz z.natAbs<=10:=Q3 (k:=10) (by omega)
 have h2:=Qt4 z
 exact ⟨by omega,by omega⟩
end Go.Proofs.YtihfdjkjpncjfaaGreatDoor.A
end
section
namespace Go.Proofs.YtihfdjkjpncjfaaGreatDoor.A
open Go
def kd (y m d:Int):Int:=372*y+31*m+d
theorem Qns {y m d y' m' d':Int} (h:right y m d) (h':right y' m' d') (hk:kd y' m' d'<=kd y m d):¬dcmp y m d y' m' d'<0:=by
 obtain ⟨_,a1,a2,a3,a4⟩:=Yi h
 obtain ⟨_,b1,b2,b3,b4⟩:=Yi h'
 unfold kd at hk
 unfold dcmp
 split
 ·omega
 ·split
  ·omega
  ·split
   ·omega
   ·split
    ·omega
    ·split
     ·omega
     ·split<;>omega
def lastOf:Int->Int->Int->List Evt->D3
 |y,m,d,[]=>(y,m,d)
 |_,_,_,e::t=>lastOf e.y e.m e.d t
theorem Qge:∀{L:List Evt} {y m d:Int} {e:Evt},Seq y m d L->EvtOK e->¬dcmp e.y e.m e.d (lastOf y m d L).1 (lastOf y m d L).2.1 (lastOf y m d L).2.2<0->Seq y m d (L++[e])
 |[],_,_,_,_,_,ho,hd=>⟨hd,ho,trivial⟩
 |a::t,_,_,_,_,h,ho,hd=>⟨h.1,h.2.1,Qge h.2.2 ho hd⟩
theorem Ql4:∀(L:List Evt) (y m d:Int) (e:Evt),lastOf y m d (L++[e])=(e.y,e.m,e.d)
 |[],_,_,_,_=>rfl
 |a::t,_,_,_,e=>Ql4 t a.y a.m a.d e
theorem Qrp {y m d:Int} (h:right y m d):∃y' m' d' ok,z14.F y m d=some (y',m',d',ok)/\(ok=true->right y' m' d'/\kd y m d<=kd y' m' d'):=by
 obtain ⟨hy,hm1,hm2,hd1,hd2⟩:=Yi h
 unfold z14.F
 rw [Qe5,Zb]
 by_cases h1:d<dDays y m
 ·rw [bif_t h1,Qg (by omega) (by omega)]
  exact ⟨_,_,_,_,rfl,λ_=>⟨⟨by omega,by omega⟩,by unfold kd;omega⟩⟩
 ·rw [Qc h1]
  by_cases h2:m<12
  ·rw [bif_t h2,Qg (by omega) (by omega)]
   have:=Qe0 (y:=y) (m:=m+1) hy (by omega)
   exact ⟨_,_,_,_,rfl,λ_=>⟨⟨by omega,by omega⟩,by unfold kd;omega⟩⟩
  ·rw [Qc h2,Qg (by omega) (by omega)]
   refine ⟨_,_,_,_,rfl,λhk=>?_⟩
   simp only [decide_eq_true_eq] at hk
   have:=Qe0 (y:=y+1) (m:=1) (by omega) (by omega)
   exact ⟨⟨by omega,by omega⟩,by unfold kd;omega⟩
theorem Qg3 {D:J0} {i:Nat} (hi:i<D.length) (hi2:i<=100) (hD:0<=D.getD i 0/\D.getD i 0<256):∀(f k:Nat) (y m d:Int),k+f=((D.getD i 0)%71).toNat->right y m d->∃y' m' d',Runs (λrec x=>z18.l2P (i:Int) D rec some x) ((k:Int),y,m,d) ((((D.getD i 0)%71).toNat:Int),y',m',d')/\right y' m' d'/\kd y m d<=kd y' m' d'
 |
  0,k,y,m,d,h,hr=>by
  have e2:Int.tmod (D.getD i 0) 71=(D.getD i 0)%71:=Z38 hD.1
  refine ⟨y,m,d,.done λrec=>?_,hr,Int.le_refl _⟩
  unfold z18.l2P
  simp only
  rw [if_pos (by omega),Zi,Qg (by omega) (by omega),e2,Qc (by omega)]
  congr 2;omega
 |
  f+1,k,y,m,d,h,hr=>by
  have e2:Int.tmod (D.getD i 0) 71=(D.getD i 0)%71:=Z38 hD.1
  obtain ⟨y1,m1,d1,ok,hn,hok⟩:=Qrp hr
  have hst:∀rec:(Int×Int×Int×Int)->Option (Int×Int×Int×Int),z18.l2P (i:Int) D rec some ((k:Int),y,m,d)=if ok=true then rec (((k+1:Nat):Int),y1,m1,d1) else rec (((k+1:Nat):Int),y,m,d):=λrec=>by
   unfold z18.l2P
   simp only
   rw [if_pos (by omega),Zi,Qg (by omega) (by omega),e2,bif_t (by omega),hn,Zb,Qg (n:=(k:Int)+1) (by omega) (by omega)]
   cases ok<;>rfl
  cases ok with
  |
   true=>
   obtain ⟨g1,g2⟩:=hok rfl
   obtain ⟨y',m',d',r,hr',hk'⟩:=Qg3 hi hi2 hD f (k+1) y1 m1 d1 (by omega) g1
   exact ⟨y',m',d',.step (λrec=>by rw [hst,if_pos rfl]) r,hr',by omega⟩
  |
   false=>
   obtain ⟨y',m',d',r,hr',hk'⟩:=Qg3 hi hi2 hD f (k+1) y m d (by omega) hr
   exact ⟨y',m',d',.step (λrec=>by rw [hst,if_neg (by simp)]) r,hr',hk'⟩
theorem Qvt {n:Nat} (h0:0<n) (h:n<=10^30):Jh (txt n)=0:=by
 unfold Jh
 rw [Qnm h,if_neg (by simp),if_neg (by simp only;omega)]
theorem Qvr {n:Nat} (h:n<=10^30):mDec (txt n)=((n:Int),0,0):=by
 have hl:(txt n).length<=31:=J5 (by omega) (by decide)
 have hd:=Qbb n
 have hok:=Qke n
 obtain ⟨_,hne,hz⟩:=Qdl hok
 have hcd:cutDot (txt n)=(txt n,none):=by
  have:∀{s:J1},Qw s->cutDot s=(s,none):=by
   intro s
   induction s with
   |nil=>intro _;rfl
   |
    cons b t ih=>
    intro h
    have hb:=h b (by simp)
    unfold digit at hb
    unfold cutDot
    rw [if_neg (by rintro rfl;simp at hb),ih λx hx=>h x (by simp [hx])]
  exact this hd
 have hpl:plainB (txt n)=true:=by
  unfold plainB
  rw [Zf hne,Yv.2 hd];rfl
 have hlead:(decide (1<(txt n).length)&&decide (((txt n).getD 0 0).toNat=48))=false:=by
  by_cases h1:1<(txt n).length
  ·rw [Zf (hz h1),Bool.and_false]
  ·rw [Zf h1,Z60]
 unfold mDec
 rw [if_neg (by omega),Qhq hd,hcd]
 unfold Y5
 simp only [hpl,hlead,Option.isSome_none,Zn,Z60,Bool.or_self,Z20,if_false,Option.getD_none,Z29,Z35]
 rw [if_neg (by decide),Qe1]
theorem Qrb {n:Nat} (h:n<900):mVal 2 (txt n)=0:=by
 unfold mVal
 rw [if_neg (by decide),if_pos rfl]
 unfold Jb
 rw [Qvr (by omega)]
 simp only [ne_eq,not_true_eq_false,if_false]
 rw [if_neg (by simp only [Nat.pow_zero];omega)]
theorem Qu8 {k v y m d:Int} (hk:0<=k/\k<256) (hv:1<=v/\v<=4294967296) (hr:right y m d) :
  ((Int.tmod k 4=3->EvtOK ⟨Int.tmod k 4,y,m,d,[]⟩)/\(Int.tmod k 4=2->EvtOK ⟨Int.tmod k 4,y,m,d,itxt (v%900)⟩)/\(Int.tmod k 4=0->EvtOK ⟨Int.tmod k 4,y,m,d,kDue⟩)/\(Int.tmod k 4<2->EvtOK ⟨Int.tmod k 4,y,m,d,itxt v⟩))/\0<=Int.tmod k 4/\Int.tmod k 4<=3:=by
 have e:Int.tmod k 4=k%4:=Z38 hk.1
 have hk4:0<=Int.tmod k 4/\Int.tmod k 4<=3:=by rw [e];omega
 generalize Int.tmod k 4=q at *
 have it:∀z:Int,0<=z->itxt z=txt z.toNat:=λz hz=>by
  unfold itxt;rw [if_neg (by omega)]
  congr 1;omega
 refine ⟨⟨λh=>?_,λh=>?_,λh=>?_,λh=>?_⟩,hk4⟩
 ·subst h;exact ⟨⟨by simp only;omega,by simp only;omega⟩,hr,rfl,by simp⟩
 ·subst h
  have l:=(Qba (z:=v%900) (by omega)).1
  exact ⟨⟨by simp only;omega,by simp only;omega⟩,hr,by rw [it _ (by omega)];exact Qrb (by omega),by show (itxt (v%900)).length<=4096;omega⟩
 ·subst h
  exact ⟨⟨by simp only;omega,by simp only;omega⟩,hr,rfl,by show kDue.length<=4096;decide⟩
 ·have l:=(Qba (z:=v) (by omega)).1
  refine ⟨by show 0<=q/\q<=3;omega,hr,?_,by show (itxt v).length<=4096;omega⟩
  show mVal q (itxt v)=0
  unfold mVal
  rw [if_neg (by omega),if_neg (by omega)]
  split
  ·rfl
  ·rw [it _ (by omega)];exact Qvt (by omega) (by omega)
structure Qhg (e:Evt) (o:Int×Int×Int×Int):Prop where
 ok:EvtOK e
 len:e.v.length<=200
 y:e.y=o.2.1
 m:e.m=o.2.2.1
 d:e.d=o.2.2.2
theorem Qgp {acc:List Evt} (hacc:acc.length<=100) {i:Nat} (hi:i<=100) {k v:Int} (hk:0<=k/\k<256) (hv:1<=v/\v<=4294967296) {o:Int×Int×Int×Int} (hr:right o.2.1 o.2.2.1 o.2.2.2) {t:J1}
  (ht:(Int.tmod k 4=3/\t=[])\/(Int.tmod k 4=2/\t=itxt (v%900))\/(Int.tmod k 4<2/\t=itxt v)) :
  ∃e:Evt,Qhg e o/\∀rec:MS->Option MS,z18.j1021a rec some k (acc.map Evt.r) o (i:Int) t=rec (((i+1:Nat):Int),(acc++[e]).map Evt.r,o.2.1,o.2.2.1,o.2.2.2):=by
 have w:wr .i64 ((i:Int)+1)=((i+1:Nat):Int):=by rw [Qg (by omega) (by omega)];rfl
 obtain ⟨⟨g3,g2,g0,g1⟩,hk4⟩:=Qu8 (y:=o.2.1) (m:=o.2.2.1) (d:=o.2.2.2) hk hv hr
 have push:∀(v:J1) (rec:MS->Option MS),(if ((acc.map Evt.r).length+(([[(.int .i64 (Int.tmod k (4:Int))),(.int .i64 o.2.1),(.int .i64 o.2.2.1),(.int .i64 o.2.2.2),(.str v)]]:J2)).length)*48<=140737488355328 then (rec ((wr .i64 ((i:Int)+(1:Int))),((acc.map Evt.r)++([[(.int .i64 (Int.tmod k (4:Int))),(.int .i64 o.2.1),(.int .i64 o.2.2.1),(.int .i64 o.2.2.2),(.str v)]]:J2)),o.2.1,o.2.2.1,o.2.2.2)) else none)=rec (((i+1:Nat):Int),(acc++[(⟨Int.tmod k 4,o.2.1,o.2.2.1,o.2.2.2,v⟩:Evt)]).map Evt.r,o.2.1,o.2.2.1,o.2.2.2):=λv rec=>by
  have l2:(acc.map Evt.r).length=acc.length:=by simp
  rw [l2,if_pos (by show (acc.length+1)*48<=_;omega),w,Z52];rfl
 have tok:EvtOK ⟨Int.tmod k 4,o.2.1,o.2.2.1,o.2.2.2,t⟩/\t.length<=200:=by
  rcases ht with ⟨h,rfl⟩|⟨h,rfl⟩|⟨h,rfl⟩
  ·exact ⟨g3 h,by simp⟩
  ·have l:=(Qba (z:=v%900) (by omega)).1
   exact ⟨g2 h,by omega⟩
  ·have l:=(Qba (z:=v) (by omega)).1
   exact ⟨g1 h,by omega⟩
 by_cases h0:Int.tmod k 4=0
 ·by_cases h1:Int.tmod (wr .i64 (Int.tdiv k 4)) 3=0
  ·refine ⟨⟨Int.tmod k 4,o.2.1,o.2.2.1,o.2.2.2,t⟩,⟨tok.1,tok.2,rfl,rfl,rfl⟩,λrec=>?_⟩
   unfold z18.j1021a
   rw [bif_t h0,Zt h1]
   exact push t rec
  ·refine ⟨⟨Int.tmod k 4,o.2.1,o.2.2.1,o.2.2.2,kDue⟩,⟨g0 h0,(show kDue.length<=200 by decide),rfl,rfl,rfl⟩,λrec=>?_⟩
   unfold z18.j1021a
   rw [bif_t h0,Zf h1]
   exact push kDue rec
 ·refine ⟨⟨Int.tmod k 4,o.2.1,o.2.2.1,o.2.2.2,t⟩,⟨tok.1,tok.2,rfl,rfl,rfl⟩,λrec=>?_⟩
  unfold z18.j1021a
  rw [Qc h0]
  exact push t rec
theorem Qkv {acc:List Evt} (hacc:acc.length<=100) {i:Nat} (hi:i<=100) {k v:Int} (hk:0<=k/\k<256) (hv:1<=v/\v<=4294967296) {o:Int×Int×Int×Int} (hr:right o.2.1 o.2.2.1 o.2.2.2) :
  ∃e:Evt,Qhg e o/\∀rec:MS->Option MS,z18.j1015a rec some v k (acc.map Evt.r) o (i:Int)=rec (((i+1:Nat):Int),(acc++[e]).map Evt.r,o.2.1,o.2.2.1,o.2.2.2):=by
 have e2:Int.tmod v 900=v%900:=Z38 (by omega)
 have e4:Int.tmod k 4=k%4:=Z38 hk.1
 by_cases h2:Int.tmod k 4=2
 ·obtain ⟨l1,l2⟩:=Qba (z:=v%900) (by omega)
  obtain ⟨e,h3,h4⟩:=Qgp hacc hi hk hv hr (t:=itxt (v%900)) (.inr (.inl ⟨h2,rfl⟩))
  refine ⟨e,h3,λrec=>?_⟩
  unfold z18.j1015a
  rw [Qct (z:=v) (by omega),Zb,bif_t h2,e2,Qct (z:=v%900) (by omega),Zb]
  unfold z18.j1019a
  rw [Zf (show ¬Int.tmod k 4=3 by omega)]
  simp only [Zo,Zd]
  rw [Qi7 l2,Zb]
  exact h4 rec
 ·by_cases h3:Int.tmod k 4=3
  ·obtain ⟨e,g3,g4⟩:=Qgp hacc hi hk hv hr (t:=[]) (.inl ⟨h3,rfl⟩)
   refine ⟨e,g3,λrec=>?_⟩
   unfold z18.j1015a
   rw [Qct (z:=v) (by omega),Zb,Qc h2]
   unfold z18.j1019a
   rw [Zt h3]
   exact g4 rec
  ·obtain ⟨l1,l2⟩:=Qba (z:=v) (by omega)
   obtain ⟨e,g3,g4⟩:=Qgp hacc hi hk hv hr (t:=itxt v) (.inr (.inr ⟨by omega,rfl⟩))
   refine ⟨e,g3,λrec=>?_⟩
   unfold z18.j1015a
   rw [Qct (z:=v) (by omega),Zb,Qc h2]
   unfold z18.j1019a
   rw [Zf h3]
   simp only [Zo,Zd]
   rw [Qi7 l2,Zb]
   exact g4 rec
structure Qde (acc:List Evt) (y m d:Int):Prop where
 seq:Seq 0 0 0 acc
 len:∀e∈acc,e.v.length<=200
 r:right y m d
 ahead:∀y' m' d',right y' m' d'->kd y m d<=kd y' m' d'->¬dcmp y' m' d' (lastOf 0 0 0 acc).1 (lastOf 0 0 0 acc).2.1 (lastOf 0 0 0 acc).2.2<0
theorem Qm0 {D K U:J0} (hD:∀n∈D,0<=n/\n<256) (hK:∀n∈K,0<=n/\n<256) (hU:∀n∈U,0<=n/\n<4294967296):∀(f i:Nat) (acc:List Evt) (y m d:Int),i+f=16->acc.length<=i->Qde acc y m d ->
  ∃x:MS,∃E:List Evt,Runs (λrec x=>z18.l0P D K U rec some x) ((i:Int),acc.map Evt.r,y,m,d) x/\x.2.1=E.map Evt.r/\E.length<=16/\∃y' m' d',Qde E y' m' d'
 |
  0,i,acc,y,m,d,h,ha,hv=>by
  refine ⟨((i:Int),acc.map Evt.r,y,m,d),acc,.done λrec=>?_,rfl,by omega,_,_,_,hv⟩
  unfold z18.l0P
  simp only
  by_cases hl:(i:Int)<((D.length:Nat):Int)
  ·rw [bif_t hl,Qc (by omega)]
  ·rw [Qc hl]
 |
  f+1,i,acc,y,m,d,h,ha,hv=>by
  by_cases hl:i<D.length
  ·have mem:∀{l:J0} {j:Nat},j<l.length->l.getD j 0∈l:=λ{l j} hj=>by
    rw [Zl,Z1 hj];exact Z9 hj
   obtain ⟨y1,m1,d1,r,hr1,hkd⟩:=Qg3 hl (by omega) (hD _ (mem hl)) _ 0 y m d (Z24 _) hv.r
   have e1:z18.l2 (i:Int) D (0,y,m,d)=some ((((D.getD i 0)%71).toNat:Int),y1,m1,d1):=r.lfp
   generalize ((((D.getD i 0)%71).toNat:Nat):Int)=q at e1
   have hval:∀k:Int,0<=k/\k<256->∃e:Evt,Qhg e (q,y1,m1,d1)/\∀rec:MS->Option MS,z18.j1014a rec some (i:Int) U k (acc.map Evt.r) (q,y1,m1,d1)=rec (((i+1:Nat):Int),(acc++[e]).map Evt.r,y1,m1,d1):=λk hk=>by
    by_cases hu:i<U.length
    ·have:=hU _ (mem hu)
     obtain ⟨e,h1,h2⟩:=Qkv (acc:=acc) (by omega) (i:=i) (by omega) hk (v:=1+U.getD i 0) (by omega) (o:=(q,y1,m1,d1)) hr1
     refine ⟨e,h1,λrec=>?_⟩
     unfold z18.j1014a
     rw [bif_t (by omega),if_pos (by omega),Zi,Qg (n:=U.getD i 0) (by omega) (by omega),Qg (by omega) (by omega)]
     exact h2 rec
    ·obtain ⟨e,h1,h2⟩:=Qkv (acc:=acc) (by omega) (i:=i) (by omega) hk (v:=100*((i:Int)+1)) (by omega) (o:=(q,y1,m1,d1)) hr1
     refine ⟨e,h1,λrec=>?_⟩
     unfold z18.j1014a
     rw [Qc (by omega),Qg (n:=(i:Int)+1) (by omega) (by omega),Qg (by omega) (by omega)]
     exact h2 rec
   have hkind:∃k:Int,(0<=k/\k<256)/\∀rec:MS->Option MS,z18.l0P D K U rec some ((i:Int),acc.map Evt.r,y,m,d)=z18.j1014a rec some (i:Int) U k (acc.map Evt.r) (q,y1,m1,d1):=by
    by_cases hk:i<K.length
    ·have:=hK _ (mem hk)
     refine ⟨K.getD i 0,this,λrec=>?_⟩
     unfold z18.l0P
     simp only
     rw [bif_t (by omega),bif_t (by omega),e1,Zb,bif_t (by omega),if_pos (by omega),Zi,Qg (by omega) (by omega)]
    ·refine ⟨(i:Int),by omega,λrec=>?_⟩
     unfold z18.l0P
     simp only
     rw [bif_t (by omega),bif_t (by omega),e1,Zb,Qc (by omega)]
   obtain ⟨k,hk,hst⟩:=hkind
   obtain ⟨e,he,hev⟩:=hval k hk
   have hm:Qde (acc++[e]) y1 m1 d1:=by
    refine ⟨Qge hv.seq he.ok (by rw [he.y,he.m,he.d];exact hv.ahead y1 m1 d1 hr1 hkd),λe' h'=>?_,hr1,λy' m' d' h' hk'=>?_⟩
    ·rcases Z22.1 h' with h'|h'
     ·exact hv.len e' h'
     ·simp only [Z84] at h';subst h';exact he.len
    ·rw [Ql4,he.y,he.m,he.d];exact Qns h' hr1 hk'
   obtain ⟨x,E,hx,h1,h2,h3⟩:=Qm0 hD hK hU f (i+1) (acc++[e]) y1 m1 d1 (by omega) (by simp;omega) hm
   exact ⟨x,E,.step (λrec=>by rw [hst,hev]) hx,h1,h2,h3⟩
  ·refine ⟨((i:Int),acc.map Evt.r,y,m,d),acc,.done λrec=>?_,rfl,by omega,_,_,_,hv⟩
   unfold z18.l0P
   simp only
   rw [Qc (by omega)]
theorem Qvm {D K U:J0} (hD:∀n∈D,0<=n/\n<256) (hK:∀n∈K,0<=n/\n<256) (hU:∀n∈U,0<=n/\n<4294967296) {a b c y m d:Int} (hr:right y m d) :
  ∃E:List Evt,z18.F a b c D K U y m d=some (E.map Evt.r)/\E.length<=16/\∃y' m' d',Qde E y' m' d':=by
 obtain ⟨x,E,hx,h1,h2,h3⟩:=Qm0 hD hK hU 16 0 [] y m d (by omega) (by simp) ⟨trivial,by simp,hr,λy' m' d' h' _=>Qkz h'⟩
 have e:z18.l0 D K U (0,[],y,m,d)=some x:=hx.lfp
 refine ⟨E,?_,h2,h3⟩
 unfold z18.F
 rw [e,Zb,h1]
end Go.Proofs.YtihfdjkjpncjfaaGreatDoor.A
end
section
namespace Go.Proofs.YtihfdjkjpncjfaaGreatDoor.A
open Go Go.RowKit Go.ChangeShapes Go.WideShapes Go.ChangeAt
theorem Qh8:∀(L:List Evt) (y m d:Int) (h:0<L.length),lastOf y m d L=(L[L.length-1].y,L[L.length-1].m,L[L.length-1].d)
 |[],_,_,_,h=>by simp at h
 |[e],_,_,_,_=>rfl
 |
  e::f::t,_,_,_,_=>by
  have:=Qh8 (f::t) e.y e.m e.d (by simp)
  exact this
theorem Qln {α:Type} (l:List α) {i:Nat} (hi:i<l.length):((l.take i++l.drop (i+1))++l.drop (i+(l.drop (i+1)).length)).length=l.length:=by
 simp only [Z6,Z10,Z17];omega
theorem Qlb {α:Type} (l R Z W:List α) {i:Nat} (hi:i<l.length):((((l.take i++l.drop (i+1))++R).take (i+(l.drop (i+1)).length)++Z)++W).take (i+(l.drop (i+1)).length)=l.eraseIdx i:=by
 have h:i+(l.drop (i+1)).length=(l.take i++l.drop (i+1)).length:=by
  simp only [Z6,Z10,Z17];omega
 rw [h,List.take_left,Z50,List.take_left,List.eraseIdx_eq_take_drop_succ]
theorem Qwc {l:List J1} {i:Nat} (hi:i<l.length):z8.F l (i:Int) ((i+1:Nat):Int)=some (l.eraseIdx i):=by
 have hD:(l.drop (i+1)).take (l.length-(i+1))=l.drop (i+1):=Z18 (by simp)
 have hDl:(l.drop (i+1)).length=l.length-(i+1):=by simp
 have hx:=Qln l hi
 unfold z8.F
 simp only [Zi,hD,Z62,Z24,Z59]
 rw [if_pos (by omega),Qc (by omega),if_pos (by omega),if_pos (by omega),if_pos (by omega),if_pos (by omega),if_pos (by omega),Qlb l _ _ _ hi]
theorem Qqb {l:J2} {i:Nat} (hi:i<l.length):z9.F l (i:Int) ((i+1:Nat):Int)=some (l.eraseIdx i):=by
 have hD:(l.drop (i+1)).take (l.length-(i+1))=l.drop (i+1):=Z18 (by simp)
 have hDl:(l.drop (i+1)).length=l.length-(i+1):=by simp
 have hx:=Qln l hi
 unfold z9.F
 simp only [Zi,hD,Z62,Z24,Z59]
 rw [if_pos (by omega),Qc (by omega),if_pos (by omega),if_pos (by omega),if_pos (by omega),if_pos (by omega),if_pos (by omega),Qlb l _ _ _ hi]
def ebody (e:Evt):J1:=Wn e.k++32::dtxt e.y e.m e.d++(if e.k=3 then [] else 32::vtxt e)++[59]
theorem Qhb (e:Evt):etxt e=ebody e++[10]:=by unfold etxt ebody;simp
theorem Qd4 {b:UInt8} (h:wrd b=true\/nmr b=true):b≠10:=λe=>by subst e;revert h;decide
theorem Qr9 {e:Evt} (ho:EvtOK e) (hc:Can e) (h3:e.k≠3):∀b∈vtxt e,b≠10:=by
 obtain ⟨h1,_,_⟩:=vtok ho hc h3 []
 unfold tokOf at h1
 intro b hb
 split at h1
 ·simp only [Z2] at h1
  rw [<-h1.2.1] at hb
  exact Qd4 (.inl (Qdo _ b hb))
 ·split at h1
  ·split at h1
   ·simp only [Z2] at h1
    rw [<-h1.2.1] at hb
    exact Qd4 (.inr (Qdo _ b hb))
   ·split at h1
    ·simp only [Z2] at h1
     rw [<-h1.2.1] at hb
     exact Qd4 (.inr (Qdo _ b hb))
    ·simp at h1
  ·split at h1
   ·simp only [Z2] at h1
    unfold vk at h1
    split at h1<;>simp at h1
   ·simp at h1
theorem Js {v:Int} (hv:0<=v):cd v≠10:=λe=>by
 have:=Yr hv
 rw [e] at this
 have h10:((10:UInt8).toNat:Int)=10:=rfl
 rw [h10] at this
 omega
theorem Qh9 {e:Evt} (ho:EvtOK e) (hc:Can e):∀b∈ebody e,b≠10:=by
 obtain ⟨_,b0,t,hw,hb,hall⟩:=Qc2 ho.k
 obtain ⟨hy,hm1,hm2,hd1,hd2⟩:=Yi ho.d
 intro b hb
 unfold ebody at hb
 rw [hw] at hb
 rcases Z22.1 hb with hb|hb
 ·rcases Z22.1 hb with hb|hb
  ·rcases Z22.1 hb with hb|hb
   ·exact Qd4 (.inl (hall b hb))
   ·rcases Z48.1 hb with rfl|hb
    ·decide
    ·simp only [dtxt,Z48,List.not_mem_nil,or_false] at hb
     rcases hb with rfl|rfl|rfl|rfl|rfl|rfl|rfl|rfl|rfl|rfl
     ·exact Js (by omega)
     ·exact Js (by omega)
     ·exact Js (by omega)
     ·exact Js (by omega)
     ·decide
     ·exact Js (by omega)
     ·exact Js (by omega)
     ·decide
     ·exact Js (by omega)
     ·exact Js (by omega)
  ·split at hb
   ·simp at hb
   ·rename_i h3
    rcases Z48.1 hb with rfl|hb
    ·decide
    ·exact Qr9 ho hc h3 b hb
 ·simp only [Z84] at hb;subst hb;decide
theorem Qm4:∀(l:J1) (R:J1),(∀b∈l,b≠10)->byteIdx (l++10::R) 10=(l.length:Int)
 |[],R,_=>by rw [List.nil_append,Yw,if_pos rfl];rfl
 |
  b::t,R,h=>by
  rw [Z86,Yw,if_neg (h b (by simp)),Qm4 t R (λx hx=>h x (by simp [hx])),if_neg (by omega),Z8];omega
theorem Qs7 {l R:J1} (h:∀b∈l,b≠10):z124.F (l++10::R) [10]=some (l.length:Int):=by
 have hi:z2.F (l++10::R) ((([10]:J1).getD 0 0).toNat:Int)=some (byteIdx (l++10::R) 10):=rfl
 have h1:(([10]:J1).length:Int)=1:=rfl
 unfold z124.F
 rw [h1,Qc (by decide)]
 unfold z124.j1
 by_cases he:([10]:J1)=l++10::R
 ·rw [Zt he]
  have:l=[]:=by
   cases l with
   |nil=>rfl
   |
    cons b t=>
    simp only [Z86,List.cons.injEq] at he
    exact absurd he.1.symm (h b (by simp))
  subst this;rfl
 ·rw [Zf he,h1]
  simp only [Zc,decide_true,Zd]
  rw [if_pos (by decide),hi,Zb,Qm4 l R h]
theorem Qea:∀(L:List Evt),(L.map etxt).flatten=stxt L
 |[]=>rfl
 |e::t=>by rw [List.map_cons,Z39,Qea t,Ju]
theorem Qe9:∀(L:List Evt),(∀e∈L,EvtOK e)->(∀e∈L,Can e)->(stxt L).count 10=L.length
 |[],_,_=>rfl
 |
  e::t,ho,hc=>by
  have h0:(ebody e).count 10=0:=List.count_eq_zero.2 λhm=>Qh9 (ho e (by simp)) (hc e (by simp)) 10 hm rfl
  rw [Ju,List.count_append,Qhb,List.count_append,h0,Qe9 t (λx hx=>ho x (by simp [hx])) (λx hx=>hc x (by simp [hx])),Z8]
  simp;omega
theorem Qh1 {L:List Evt} (ho:∀e∈L,EvtOK e) (hc:∀e∈L,Can e):z125.F (stxt L) [10]=some (L.length:Int):=by
 have hi:z3.F (stxt L) ((([10]:J1).getD 0 0).toNat:Int)=some (((stxt L).count 10:Nat):Int):=rfl
 have h1:(([10]:J1).length:Int)=1:=rfl
 unfold z125.F
 rw [h1,Qc (by decide),bif_t rfl,if_pos (by decide),hi,Zb,Qe9 L ho hc]
theorem Qkh {L:List Evt} (hL:L.length<=1000) (ho:∀e∈L,EvtOK e) (hc:∀e∈L,Can e) (hlen:∀i,(stxt (L.drop i)).length<=10000000):∀(f i:Nat),i+f=L.length ->
  Runs (λrec x=>z126.l0P [10] 1 (L.length:Int) rec some x) (stxt (L.drop i),(i:Int),(L.take i).map etxt++List.replicate (L.length+1-i) []) (([]:J1),(L.length:Int),L.map etxt++[[]])
 |
  0,i,h=>by
  have e1:L.length+1-i=1:=by omega
  have e2:L.drop i=[]:=Z74 (by omega)
  have e3:L.take i=L:=Z18 (by omega)
  have e4:(i:Int)=(L.length:Int):=by omega
  rw [e1,e2,e3,e4]
  exact .done λrec=>by
   unfold z126.l0P
   simp only
   rw [Qc (by omega)];rfl
 |
  f+1,i,h=>by
  have hi:i<L.length:=by omega
  have r:=Qkh hL ho hc hlen f (i+1) (by omega)
  refine .step (λrec=>?_) r
  have hb:=Qh9 (ho L[i] (Z9 hi)) (hc L[i] (Z9 hi))
  have es:stxt (L.drop i)=ebody L[i]++10::stxt (L.drop (i+1)):=by
   rw [Z41 hi,Ju,Qhb,Z50];rfl
  have hl:(stxt (L.drop i)).length=(ebody L[i]).length+1+(stxt (L.drop (i+1))).length:=by rw [es];simp;omega
  have hl2:=hlen i
  have w1:wr .i64 (((ebody L[i]).length:Int)+1)=(((ebody L[i]).length+1:Nat):Int):=by rw [Qg (by omega) (by omega)];rfl
  have w2:wr .i64 (((ebody L[i]).length:Int)+(([10]:J1).length:Int))=(((ebody L[i]).length+1:Nat):Int):=w1
  have hrow:((L.take i).map etxt++List.replicate (L.length+1-i) ([]:J1)).length=L.length+1:=by
   simp only [Z6,Z28,Z10,Z82];omega
  have et:(stxt (L.drop i)).take ((ebody L[i]).length+1)=etxt L[i]:=by
   rw [es,Qhb,show ebody L[i]++10::stxt (L.drop (i+1))=(ebody L[i]++[10])++stxt (L.drop (i+1)) by simp,List.take_left' (by simp)]
  have ed:(stxt (L.drop i)).drop ((ebody L[i]).length+1)=stxt (L.drop (i+1)):=by
   rw [es,show ebody L[i]++10::stxt (L.drop (i+1))=(ebody L[i]++[10])++stxt (L.drop (i+1)) by simp,List.drop_left' (by simp)]
  have eset:((L.take i).map etxt++List.replicate (L.length+1-i) ([]:J1)).set i (etxt L[i])=(L.take (i+1)).map etxt++List.replicate (L.length+1-(i+1)) []:=by
   have hml:((L.take i).map etxt).length=i:=by simp;omega
   have er:L.length+1-i=(L.length+1-(i+1))+1:=by omega
   rw [List.set_append_right _ _ (by omega),hml,Nat.sub_self,er,List.replicate_succ,List.set_cons_zero,List.take_add_one,Z1 hi,Z52,Z50]
   rfl
  unfold z126.l0P
  simp only
  rw [bif_t (by omega)]
  rw [show z124.F (stxt (L.drop i)) [10]=some ((ebody L[i]).length:Int) by rw [es];exact Qs7 hb,Zb,Qc (by omega),w1,w2,if_pos (by omega),if_pos (by omega),Zi,if_pos (by omega),if_pos (by omega),Zi,et,ed,eset,Qg (n:=(i:Int)+1) (by omega) (by omega)]
  rfl
theorem Quf:∀(l:List J1),Lib.join l []=l.flatten:=λl=>by
 unfold Lib.join
 induction l with
 |nil=>rfl
 |
  cons a t ih=>cases t with
  |nil=>simp [List.intercalate]
  |cons b t=>simp [List.intercalate] at ih ⊢;exact ih
theorem Que {y m d y' m' d' a b c:Int} (h1:right y m d) (h2:right y' m' d') (h3:right a b c) (h:¬dcmp y m d y' m' d'<0) (h':¬dcmp a b c y m d<0):¬dcmp a b c y' m' d'<0:=by
 rw [Qe7 h1 h2] at h
 rw [Qe7 h3 h1] at h'
 rw [Qe7 h3 h2]
 unfold cmpI at *
 repeat' split at h
 all_goals (repeat' split at h')
 all_goals first|(exfalso;omega)|((repeat' split)<;>omega)
theorem Qky:∀(L:List Evt) (i:Nat) (y m d:Int),(right y m d\/(y=0/\m=0/\d=0))->Seq y m d L->Seq y m d (L.eraseIdx i)
 |[],_,_,_,_,_,_=>by simp [Seq]
 |
  e::t,0,y,m,d,hr,h=>by
  rw [List.eraseIdx_cons_zero]
  cases t with
  |nil=>trivial
  |
   cons f t=>
   refine ⟨?_,h.2.2.2.1,h.2.2.2.2⟩
   rcases hr with hr|⟨rfl,rfl,rfl⟩
   ·exact Que h.2.1.d hr h.2.2.2.1.d h.1 h.2.2.1
   ·exact Qkz h.2.2.2.1.d
 |
  e::t,i+1,y,m,d,hr,h=>by
  rw [List.eraseIdx_cons_succ]
  exact ⟨h.1,h.2.1,Qky t i _ _ _ (.inl h.2.1.d) h.2.2⟩
def v725:J1:=[55,46,50,53]
theorem Qql:(Jb v725).2=0:=by decide +kernel
theorem Qpb:(mDec v725).2.2=0:=by decide +kernel
theorem Qto (a b:J1) (h:a.length+b.length<=1000000000):z105.F (a++b) a=some true:=by
 unfold z105.F z62.F
 rw [bif_t (by rw [Z6];omega),if_pos (by rw [Z6];omega),Zi,List.take_left]
 simp
theorem Qs2 (a b:J1) (h:a.length+b.length<=1000000000):z122.F (a++b) b=some true:=by
 have e1:wr .i64 (((a++b).length:Int)-(b.length:Int))=(a.length:Int):=by rw [Z6,Qg (by omega) (by omega)];omega
 unfold z122.F z121.F
 rw [bif_t (by rw [Z6];omega),e1,if_pos (by rw [Z6];omega),Zi,List.drop_left]
 simp
theorem Qhk {α β:Type} (f:α->β):∀(l:List α) (i:Nat),(l.eraseIdx i).map f=(l.map f).eraseIdx i
 |[],_=>by simp
 |a::t,0=>by simp
 |a::t,i+1=>by simp [Qhk f t i]
theorem Qqt {E:List Evt} (hE:Seq 0 0 0 E) (hc:∀e∈E,Can e) (hl:E.length<=16) {a6:Int} (h6:0<=a6/\a6<256):z126.j5 (E.map Evt.r) (stxt E,0) a6=some true:=by
 have ho:=Qb2 hE
 have l2:(E.map Evt.r).length=E.length:=by simp
 unfold z126.j5
 by_cases h0:E=[]
 ·subst h0;rfl
 have hpos:0<E.length:=Z30.2 h0
 have hs:=Qdi E ho hc
 have hdrop:∀i,(stxt (E.drop i)).length<=10000000:=λi=>by
  have:=Qdi (E.drop i) (λe he=>ho e (Z57 he)) (λe he=>hc e (Z57 he))
  rw [Z17] at this;omega
 obtain ⟨i,hi⟩:∃i:Nat,(i:Int)=a6%(E.length:Int):=⟨(a6%(E.length:Int)).toNat,by have:=Int.emod_nonneg a6 (b:=(E.length:Int)) (by omega);omega⟩
 have hilt:i<E.length:=by have:=Int.emod_lt_of_pos a6 (b:=(E.length:Int)) (by omega);omega
 have et:Int.tmod (wr .i64 a6) (((E.map Evt.r).length:Nat):Int)=(i:Int):=by
  rw [l2,Qg (by omega) (by omega),Z38 h6.1,hi]
 have et1:wr .i64 ((i:Int)+1)=((i+1:Nat):Int):=by rw [Qg (by omega) (by omega)];rfl
 have hcl:E.length<=(stxt E).length:=by rw [<-Qe9 E ho hc];exact List.count_le_length
 have ew:(if wr .i64 ((((stxt E).length:Nat):Int)+1)<wr .i64 ((E.length:Int)+1) then wr .i64 ((((stxt E).length:Nat):Int)+1) else wr .i64 ((E.length:Int)+1))=((E.length+1:Nat):Int):=by
  rw [Qg (n:=(((stxt E).length:Nat):Int)+1) (by omega) (by omega),Qg (n:=(E.length:Int)+1) (by omega) (by omega),if_neg (by omega)];rfl
 have ew1:wr .i64 (((E.length+1:Nat):Int)-1)=(E.length:Int):=by rw [Qg (by omega) (by omega)];omega
 have r:=Qkh (by omega) ho hc hdrop E.length 0 (by omega)
 rw [Z59] at r
 have e0:z126.l0 [10] 1 (E.length:Int) (stxt E,0,List.replicate (E.length+1) [])=some (([]:J1),(E.length:Int),E.map etxt++[[]]):=r.lfp
 have hrow:(E.map etxt++[([]:J1)]).length=E.length+1:=by simp
 have eset:(E.map etxt++[([]:J1)]).set E.length []=E.map etxt++[[]]:=by
  rw [List.set_append_right _ _ (by simp)];simp
 have ew2:wr .i64 ((E.length:Int)+1)=((E.length+1:Nat):Int):=by rw [Qg (by omega) (by omega)];rfl
 have etk:((E.map etxt++[([]:J1)]).drop 0).take (E.length+1)=E.map etxt++[[]]:=by rw [Z59,Z18 (by omega)]
 have eer:(E.map etxt++[([]:J1)]).eraseIdx i=(E.eraseIdx i).map etxt++[[]]:=by
  rw [List.eraseIdx_append_of_lt_length (by simpa using hilt),Qhk]
 have hEi:=Qky E i 0 0 0 (.inr ⟨rfl,rfl,rfl⟩) hE
 have hmem:∀e∈E.eraseIdx i,e∈E:=λe he=>(List.eraseIdx_sublist E i).subset he
 have hci:∀e∈E.eraseIdx i,Can e:=λe he=>hc e (hmem e he)
 have hli:(E.eraseIdx i).length<=16:=by have:=(List.eraseIdx_sublist E i).length_le;omega
 have hsi:=Qdi (E.eraseIdx i) (λe he=>ho e (hmem e he)) hci
 have ejoin:z7.F ((E.eraseIdx i).map etxt++[[]]) []=some (stxt (E.eraseIdx i)):=by
  have e1:Lib.join ((E.eraseIdx i).map etxt++[[]]) []=stxt (E.eraseIdx i):=by rw [Quf,Z53,Qea];simp
  unfold z7.F
  rw [e1,if_pos ⟨by simp;omega,by omega⟩]
 obtain ⟨hpp,hlx⟩:=Qv3 hEi hci
 have eparse:z118.F (stxt (E.eraseIdx i))=some ((E.eraseIdx i).map Evt.r,0,0):=by
  rw [Qiz (by omega) (by omega),hpp];rfl
 have hlast:E.length-1<E.length:=by omega
 have ewl:wr .i64 ((((E.map Evt.r).length:Nat):Int)-1)=((E.length-1:Nat):Int):=by rw [l2,Qg (by omega) (by omega)];omega
 obtain ⟨one,hone⟩:∃one:Evt,one=⟨2,E[E.length-1].y,E[E.length-1].m,E[E.length-1].d,v725⟩:=⟨_,rfl⟩
 have hlok:=ho E[E.length-1] (Z9 hlast)
 have hook:EvtOK one:=by
  rw [hone]
  refine ⟨⟨by simp,by simp⟩,hlok.d,?_,by simp [v725]⟩
  show mVal 2 v725=0
  unfold mVal
  rw [if_neg (by decide),if_pos rfl];exact Qql
 have hcan:Can one:=by
  rw [hone]
  exact ⟨λ_=>Qjp Qpb,λh=>by simp at h,by simp [v725]⟩
 have hseq1:Seq 0 0 0 (E++[one]):=Qge hE hook (by
  rw [Qh8 E 0 0 0 hpos,hone];simp only;rw [Qrn];omega)
 have er:([(.int .i64 (2:Int)),(.int .i64 E[E.length-1].y),(.int .i64 E[E.length-1].m),(.int .i64 E[E.length-1].d),(.str ([55,46,50,53]:J1))]:List V)=one.r:=by rw [hone];rfl
 have htk:(E.map Evt.r).take ((((E.map Evt.r).length:Nat):Int)).toNat=E.map Evt.r:=by rw [Zi,Z62]
 have eprint:z97.F (E.map Evt.r++[one.r])=some (stxt (E++[one]),0):=by
  have:=Qh5 (L:=E++[one]) (by simp;omega) hseq1
  rw [Z52] at this;exact this
 have es1:stxt (E++[one])=stxt E++etxt one:=by
  rw [<-Qea,Z52,Z53,Qea];simp
 have hel:=(Qga hook).2
 have esuf:∃a,etxt one=a++[32,55,46,50,53,59,10]/\a.length<=10000:=by
  refine ⟨Wn one.k++32::dtxt one.y one.m one.d,?_,?_⟩
  ·unfold etxt vtxt;rw [hone];simp [v725]
  ·have:(etxt one).length=(Wn one.k++32::dtxt one.y one.m one.d).length+7:=by unfold etxt vtxt;rw [hone];simp [v725];omega
   omega
 obtain ⟨a,ha,hal⟩:=esuf
 have hoA:∀e∈E++[one],EvtOK e:=λe he=>by
  rcases Z22.1 he with he|he
  ·exact ho e he
  ·simp only [Z84] at he;subst he;exact hook
 have hcA:∀e∈E++[one],Can e:=λe he=>by
  rcases Z22.1 he with he|he
  ·exact hc e he
  ·simp only [Z84] at he;subst he;exact hcan
 have ecount:z125.F (stxt (E++[one])) [10]=some ((E.length+1:Nat):Int):=by
  rw [Qh1 hoA hcA];simp
 rw [et,et1]
 rw [Qc (by omega),Qh1 ho hc,Zb]
 simp only
 rw [ew,ew1,Zi,if_pos (by omega),e0,Zb]
 simp only
 rw [ew2,Zi,Zi,eset,hrow,if_pos (by omega),if_pos (by omega),if_pos (by omega),if_neg (by omega),if_pos (by omega),etk,Qwc (by rw [hrow];omega),Zb,eer,ejoin,Zb,eparse,Zb,ewl,if_pos (by omega),Zi,Qcf hlast]
 simp only [eK,eY,eM,eD,eV]
 rw [if_pos (by omega),htk,er,if_pos (by rw [l2];show (E.length+1)*48<=_;omega)]
 simp only [decide_true,Zd]
 rw [eprint,Zb]
 rw [if_pos (by omega),Qqb (by omega),Zb,<-Qhk,Qn3 _ (by omega),Zb]
 simp only [Zd]
 rw [es1,Qto _ _ (by omega),Zb]
 simp only [Zd]
 rw [ha,<-Z50,Qs2 _ _ (by rw [Z6];simp;omega),Zb]
 simp only [Zd]
 rw [Z50,<-ha,<-es1,ecount,Zb,l2,ew2]
 simp
theorem Qom {a0 a1 a2 a6:Int} {a3 a4 a5:J0} (h3:(∀n∈a3,(Lit.int .u8 n).wf=true)/\a3.length<=maxLen) (h4:(∀n∈a4,(Lit.int .u8 n).wf=true)/\a4.length<=maxLen) (h5:(∀n∈a5,(Lit.int .u32 n).wf=true)/\a5.length<=maxLen)
  (h6:(Lit.int .u8 a6).wf=true):z126.F a0 a1 a2 a3 a4 a5 a6=some true:=by
 obtain ⟨y,m,d,hm,hr,_⟩:=Qo9 (a:=a0) (b:=a1) (c:=a2) (n:=9990) (by decide)
 have hs:z20.F a0 a1 a2 a3 a4 a5=some (y,m,d):=by
  unfold z20.F
  rw [hm];rfl
 obtain ⟨E,hE,hEl,y',m',d',hmade⟩:=Qvm (D:=a3) (K:=a4) (U:=a5) (λn hn=>Qfy (h3.1 n hn)) (λn hn=>Qfy (h4.1 n hn)) (λn hn=>Qp2 (h5.1 n hn)) (a:=a0) (b:=a1) (c:=a2) hr
 have hc:∀e∈E,Can e:=λe he=>Qsz (Qb2 hmade.seq e he) (by have:=hmade.len e he;omega)
 unfold z126.F
 rw [hs,Zb]
 simp only
 rw [hE,Zb,Qh5 (by omega) hmade.seq,Zb,Qu4,Zb]
 rw [show (!decide ((0:Int)=0))=false from rfl]
 simp only [Zn,Zc]
 exact Qqt hmade.seq hc hEl (Qfy h6)
end Go.Proofs.YtihfdjkjpncjfaaGreatDoor.A
end
section
set_option linter.unusedVariables false
namespace Go.Proofs.YtihfdjkjpncjfaaGreatDoor.A
open Go
namespace ScriptCuts
theorem law (a0:Int) (a1:Int) (a2:Int) (a3:J0) (a4:J0) (a5:J0) (a6:Int) (h0:(Lit.int .i64 a0).wf=true) (h1:(Lit.int .i64 a1).wf=true) (h2:(Lit.int .i64 a2).wf=true) (h3:(∀n∈a3,(Lit.int .u8 n).wf=true)/\a3.length<=maxLen) (h4:(∀n∈a4,(Lit.int .u8 n).wf=true)/\a4.length<=maxLen) (h5:(∀n∈a5,(Lit.int .u32 n).wf=true)/\a5.length<=maxLen) (h6:(Lit.int .u8 a6).wf=true):z126.F a0 a1 a2 a3 a4 a5 a6=some true:=
 Qom h3 h4 h5 h6
end ScriptCuts
end Go.Proofs.YtihfdjkjpncjfaaGreatDoor.A
end
section
set_option maxRecDepth 100000
namespace Go.Proofs.YtihfdjkjpncjfaaGreatDoor.A
open Go Go.RowKit Go.ChangeShapes Go.WideShapes Go.ChangeAt
noncomputable section
namespace ScriptCuts
theorem wide:Qbi Tryz.prog 8 Tryz.f8.params.toList=some [(.agg [.sc (.i .i64),.sc (.i .i64),.sc (.i .i64),.sl [(.i .u8)],.sl [(.i .u8)],.sl [(.i .u32)]]),(.one (.sc (.i .u8)))]:=by kernel_rfl
theorem readable:Tryz.f8.params.toList.all (λt=>Tryz.prog.readableRec t&&decide (t<Tryz.prog.types.size))=true:=by kernel_rfl
noncomputable def args0:Array Value:=#[.agg #[.int .i64 0,.int .i64 0,.int .i64 0,.slice none 0 0,.slice none 0 0,.slice none 0 0],.int .u8 0]
theorem laid_met (os:Os):laidMet Tryz.prog Rows.scriptCutsRow.laid ((Qfz os).forCall (λ_ _=>0) ⟨#[],args0,[]⟩).memory:=
 laidMet_of_run' 12 (by kernel_rfl) (by kernel_rfl)
theorem reads (os:Os) {H:Type} (enc:TypeId×Value->H):∃ds places,DataW.whole enc Tryz.prog ((Qfz os).forCall (λ_ _=>0) ⟨#[],args0,[]⟩).memory Tryz.f8.params.toList Rows.scriptCutsSpec.vars false args0.toList 12=some (ds,[],places):=
 ⟨[.agg [.agg [.lit (.int .i64 0),.lit (.int .i64 0),.lit (.int .i64 0)],.nil,.nil,.nil],.lit (.int .u8 0)],[],by kernel_rfl⟩
theorem plainly (vs:List V) (h:okAL [(.agg [.sc (.i .i64),.sc (.i .i64),.sc (.i .i64),.sl [(.i .u8)],.sl [(.i .u8)],.sl [(.i .u32)]]),(.one (.sc (.i .u8)))] vs):∃p r,SoundC Tryz.prog 8 vs p/\p.m=some r/\p.enc r=.bool true:=by
 obtain ⟨_,_,rfl,⟨_,rfl,_,_,rfl,⟨a0,rfl,h0⟩,_,_,rfl,⟨a1,rfl,h1⟩,_,_,rfl,⟨a2,rfl,h2⟩,_,_,rfl,⟨a3,rfl,h3⟩,_,_,rfl,⟨a4,rfl,h4⟩,_,_,rfl,⟨a5,rfl,h5⟩,rfl⟩,_,_,rfl,⟨a6,rfl,h6⟩,rfl⟩:=h
 exact ⟨⟨Bool,z126.F a0 a1 a2 a3 a4 a5 a6,z12.enc⟩,true,z126.sound _ _ (by kernel_rfl),law a0 a1 a2 a3 a4 a5 a6 h0 h1 h2 h3 h4 h5 h6,rfl⟩
theorem specFn {H:Type} (ds:List (DataW H)) (h:ds.length=Tryz.f8.params.toList.length):Rows.scriptCutsSpec.fn H ds={results:=[.lit (.bool true)],args:=ds}:=by
 have h:ds.length=2:=h.trans (by kernel_rfl)
 match ds,h with
 |[d0,d1],_=>rfl
theorem clos:Tryz.prog.closure 8=[8,47,62,133,202,46,63,64,111,35,14,71,48,87,154,181,183,248,249,148,206,283,210,212,292,89,27,92,159,124,93,160,217,216,218,220,295,219,222,296,328,259,315,268,316,261,272,317,332,274,273,221,33,108,107,161,223,297,138,68,139,75,32,16,156,213,293,155,132,81,12,69,140,207,284,141,184,250,309,329,197,275,318,310,260,37,251,311,252,253,312,313,239,254,255,174,237,243,306,142,143,208,285,286,324,209,287,288,289,290,291,325,172,234,304,235,118,186,257,187,188,258,13,70,144,117,185,256,119,314,330,337,58,123,196,271,331,52,49,51,121,190,191,262,263,264,265,266,267,122,192,193,194,269,195,270,50,120,189,126,60,127,128,54,53,57,56,55,59,125]:=by kernel_rfl
theorem inPlace:(Rows.scriptCutsRow.inPlace == Tryz.prog.inPlace 8)=true:=by unfold Program.inPlace;rw [clos];kernel_rfl
theorem unfollowed:(Rows.scriptCutsRow.unfollowed == Tryz.prog.unfollowed 8)=true:=by unfold Program.unfollowed;rw [clos];kernel_rfl
theorem recurses:(Rows.scriptCutsRow.recurses == Tryz.prog.recurses 8)=true:=by unfold Program.recurses Program.unfollowed;rw [clos];kernel_rfl
theorem named:(Rows.scriptCutsRow.named == Tryz.prog.varsNamed 8)=true:=by unfold Program.varsNamed;rw [clos];kernel_rfl
theorem number:Tryz.prog.funcNamed "chattel/chattellaw23.ScriptCuts" = some 8:=by kernel_rfl
theorem goes:false=Rows.scriptCutsRow.goesBy Tryz.prog:=by
 have h:Tryz.prog.goes 8=false:=by unfold Program.goes Program.unfollowed;rw [clos];kernel_rfl
 have e:Rows.scriptCutsRow.goesBy Tryz.prog=((Tryz.prog.funcNamed "chattel/chattellaw23.ScriptCuts").any Tryz.prog.goes||false):=by kernel_rfl
 rw [e,number]
 simp [h]
theorem j_wf:Rows.scriptCutsRow.wf (OpenSpec.ofChange (OpenSpec.ofChange Rows.scriptCutsSpec).bare)=true:=by kernel_rfl
theorem j_params:(Tryz.f8.params.all (Tryz.pinned.checked.prog.readableRec ·))=true:=by kernel_rfl
theorem j_vars:namedTie Tryz.pinned.checked.prog Rows.scriptCutsRow.named (OpenSpec.ofChange Rows.scriptCutsSpec).bare.vars=true:=by kernel_rfl
theorem j_stops:(Rows.scriptCutsRow.stops == [])=true:=by kernel_rfl
theorem j_knobs:(Rows.scriptCutsRow.knobs == [])=true:=by kernel_rfl
theorem j_maps:(Rows.scriptCutsRow.maps == (Tryz.f8.params.toList++DataSpec.varTypes Tryz.pinned.checked.prog (OpenSpec.ofChange Rows.scriptCutsSpec).bare.plain).any (Tryz.pinned.checked.prog.mapsRec ·))=true:=by kernel_rfl
theorem j_ifaces:(Rows.scriptCutsRow.ifaces == (Tryz.f8.params.toList++DataSpec.varTypes Tryz.pinned.checked.prog (OpenSpec.ofChange Rows.scriptCutsSpec).bare.plain).any (Tryz.pinned.checked.prog.ifacesRec ·))=true:=by kernel_rfl
theorem j_mapsOut:(Rows.scriptCutsRow.mapsOut == Tryz.pinned.checked.prog.mapsAmong Tryz.f8.resultTypes.toList)=true:=by kernel_rfl
theorem j_loops:(Rows.scriptCutsRow.loops == (Tryz.f8.params.toList++DataSpec.varTypes Tryz.pinned.checked.prog (OpenSpec.ofChange Rows.scriptCutsSpec).bare.plain).any (Tryz.pinned.checked.prog.loopsFrom ·))=true:=by kernel_rfl
theorem j_wideKeys:(Rows.scriptCutsRow.wideKeys == (Tryz.f8.params.toList++DataSpec.varTypes Tryz.pinned.checked.prog (OpenSpec.ofChange Rows.scriptCutsSpec).bare.plain++Tryz.f8.resultTypes.toList).any (Tryz.pinned.checked.prog.wideKeysFrom ·))=true:=by kernel_rfl
theorem j_varsRead:(OpenSpec.ofChange Rows.scriptCutsSpec).bare.vars.all (Tryz.pinned.checked.prog.varReadable ·)=true:=by kernel_rfl
theorem j_results:(Tryz.f8.resultTypes.all λt=>Tryz.pinned.checked.prog.readableRec t&&decide (t<Tryz.pinned.checked.prog.types.size))=true:=by kernel_rfl
theorem j_ifacesOut:(Rows.scriptCutsRow.ifacesOut == Tryz.f8.resultTypes.toList.any (Tryz.pinned.checked.prog.ifacesRec ·))=true:=by kernel_rfl
theorem j_loopsOut:(Rows.scriptCutsRow.loopsOut == Tryz.f8.resultTypes.toList.any (Tryz.pinned.checked.prog.loopsFrom ·))=true:=by kernel_rfl
theorem j_plainKeys:(Rows.scriptCutsRow.plainKeys == Tryz.pinned.checked.prog.plainKeys)=true:=by kernel_rfl
theorem j_short:Rows.scriptCutsRow.shortTexts.isNone=true:=by kernel_rfl
theorem j_lift:(Rows.scriptCutsRow.lifted == Tryz.pinned.checked.prog.liftsFinal)=true:=by kernel_rfl
theorem j_make:(Tryz.pinned.checked.prog.make == some Rows.scriptCutsRow.make)=true:=by kernel_rfl
theorem j_kinds:(Rows.scriptCutsRow.kinds == (if Rows.scriptCutsRow.domain.isEmpty then [] else Tryz.f8.params.toList.map λt=>match Tryz.pinned.checked.prog.underlying t with|some (.int k)=>some k|_=>none))=true:=by kernel_rfl
theorem j_pinned:(Rows.scriptCutsRow.pinned == Rows.scriptCutsRow.pinnedBy)=true:=by kernel_rfl
theorem j_veiled:(Rows.scriptCutsRow.veiled == (Tryz.f8.params.toList++DataSpec.varTypes Tryz.pinned.checked.prog (OpenSpec.ofChange Rows.scriptCutsSpec).bare.plain++Tryz.f8.resultTypes.toList).any (Tryz.pinned.checked.prog.veiledRec ·))=true:=by kernel_rfl
theorem j_veiledFits:Rows.scriptCutsRow.veiledFits Tryz.pinned.checked.prog Tryz.f8.params.toList (Tryz.f8.params.toList++DataSpec.varTypes Tryz.pinned.checked.prog (OpenSpec.ofChange Rows.scriptCutsSpec).bare.plain++Tryz.f8.resultTypes.toList)=true:=by kernel_rfl
theorem joined:joinedFacts Tryz.pinned.checked.prog 8 Tryz.f8 (OpenSpec.ofChange Rows.scriptCutsSpec).bare Rows.scriptCutsRow=true:=by
 unfold joinedFacts
 simp only [Z4]
 and_intros
 ·exact j_wf
 ·exact laidOut
 ·exact rowed
 ·exact j_params
 ·exact j_vars
 ·exact j_stops
 ·exact Qvj
 ·exact j_knobs
 ·exact Qq0
 ·exact inPlace
 ·exact unfollowed
 ·exact recurses
 ·exact named
 ·exact j_maps
 ·exact j_ifaces
 ·exact j_mapsOut
 ·exact j_loops
 ·exact j_wideKeys
 ·exact j_varsRead
 ·exact j_results
 ·exact j_ifacesOut
 ·exact j_loopsOut
 ·exact j_plainKeys
 ·exact j_short
 ·exact Qnw
 ·exact Qq5
 ·exact j_lift
 ·exact j_make
 ·exact j_kinds
 ·exact j_pinned
 ·exact j_veiled
 ·exact j_veiledFits
theorem lifted (os:Os) (started:os.Started) (H:Type) (enc:TypeId×Value->H) (F:Stop.Interp) :
  ReturnsInHanded {} Tryz.checked os 8 .any ((OpenSpec.ofChange Rows.scriptCutsSpec).preRow enc Tryz.prog Tryz.f8 Rows.scriptCutsRow.domain false Rows.scriptCutsRow.laid) (((OpenSpec.ofChange Rows.scriptCutsSpec).at F).post enc Tryz.prog Tryz.f8 false true false false):=by
 obtain ⟨ds0,places,hx⟩:=reads os enc
 refine returnsInHanded_of_row (C:=Tryz.checked) (s:=OpenSpec.ofChange Rows.scriptCutsSpec) own started (by kernel_rfl) Tryz.func8
  (witness_row_at (enc:=enc) (C:=Tryz.checked) false (Qfz os) args0 rfl (by kernel_rfl) (by kernel_rfl) (by kernel_rfl)
   (OpenSpec.preRow_of_cond 12 hx (by kernel_rfl) (λk hk=>by cases hk) (by kernel_rfl) (laid_met os))) ?_
 intro W base args ds gs before hval hW _ _ _ hL _ _
 exact Qu2 fun8 laidOut readable wide (tb:=4) (by kernel_rfl) (by kernel_rfl) rfl specFn plainly W base args ds gs before hval hW
theorem wrapped:Tryz.f8.isWrapper Tryz.pinned.checked.prog Rows.scriptCutsRow.wrapper Rows.scriptCutsRow.mainSum:=by
 unfold Func.isWrapper;first|(rw [if_pos (by decide +kernel)];kernel_rfl)|(rw [if_neg (by decide +kernel)];exact ⟨rfl,rfl⟩)
theorem origin:Tryz.f8.isInstance Tryz.pinned.checked.prog Rows.scriptCutsRow.origin Rows.scriptCutsRow.targs:=of_decide_eq_true (by kernel_rfl)
theorem said:Rows.ScriptCutsSaid:=
 OpenClaim.holds_of_cond 8 Tryz.f8 rfl rfl rfl rfl rfl rfl rfl ⟨rfl,rfl,rfl,rfl,rfl⟩ rfl rfl rfl rfl rfl number Tryz.func8 joined origin wrapped
  (λos started H enc _ F=>by rw [OpenClaim.pre_eq_preRow];exact lifted os started H enc F)
theorem plainRow (f:FuncId) (fn:Func) (hf:Tryz.pinned.checked.prog.funcNamed "chattel/chattellaw23.ScriptCuts" = some f) (hfn:Tryz.pinned.checked.prog.funcs[f]? = some fn) :
  false=Tryz.pinned.checked.prog.looks []/\∀(j:Nat) t,fn.params[j]? = some t->Tryz.pinned.checked.prog.wantsStandIn t=false:=by
 obtain rfl:f=8:=Option.some.inj (number.symm.trans hf) |>.symm
 obtain rfl:fn=Tryz.f8:=(Option.some.inj (Tryz.func8.symm.trans hfn)).symm
 refine ⟨Qpg,λj t ht=>?_⟩
 have hall:Tryz.f8.params.toList.all (λt=>!Tryz.prog.wantsStandIn t)=true:=by kernel_rfl
 have:=Z14.1 hall t (by simpa using Array.mem_of_getElem? ht)
 exact Z49 _ |>.mp this
theorem card:Rows.ScriptCutsCardSaid:=
 Claim7.holds_tied_plain_at .later [] _ _ _ _ said (λ_ h=>by cases h) (by kernel_rfl) (λ_ h=>by cases h) scriptCuts_row_tie rfl ⟨rfl,rfl⟩ main rfl plainRow goes
end ScriptCuts
end
end Go.Proofs.YtihfdjkjpncjfaaGreatDoor.A
end
