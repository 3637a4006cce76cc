/- Part 4 of the proof of ReplanPlain.card. -/
import Derived.Test.YtihfdjkjpncjfaaGreatDoorDa3
set_option linter.unusedVariables false
set_option linter.unusedSimpArgs false
section
namespace Go.Proofs.YtihfdjkjpncjfaaGreatDoor.A
open Go
abbrev leap (y:Int):Prop:=y%4=0/\¬y%100=0\/y%400=0
abbrev goodY (y:Int):Prop:=1<=y/\y<=9999
def dDays (y m:Int):Int:=if ¬goodY y\/m<1\/12<m then 0 else if m=2 then (if leap y then 29 else 28) else if m=4\/m=6\/m=9\/m=11 then 30 else 31
abbrev right (y m d:Int):Prop:=1<=d/\d<=dDays y m
theorem Qcu {a b:Int} (hb:0<b):Int.tmod a b=0↔a%b=0:=by
 rw [<-Int.dvd_iff_tmod_eq_zero,<-Int.dvd_iff_emod_eq_zero]
theorem date_good (y:Int):z17.F y=some (decide (goodY y)):=by
 unfold z17.F
 by_cases h:y>=1
 ·rw [bif_t h];congr 1;exact decide_eq_decide.2 (by omega)
 ·rw [Qb h];congr 1;symm;exact Zf (by omega)
theorem date_Leap (y:Int):z18.F y=some (decide (goodY y/\leap y)):=by
 unfold z18.F
 rw [date_good]
 simp only [Zb,Qcu (show (0:Int)<4 by decide),Qcu (show (0:Int)<100 by decide),Qcu (show (0:Int)<400 by decide)]
 by_cases h:goodY y
 ·rw [bif_t h]
  by_cases h4:y%4=0
  ·rw [bif_t h4]
   by_cases h1:y%100=0
   ·rw [Zt h1];simp only [Zn,Zc];congr 1;exact decide_eq_decide.2 (by omega)
   ·rw [Zf h1];simp only [Zo,Zd];congr 1;symm;exact Zt (by omega)
  ·rw [Qb h4];congr 1;exact decide_eq_decide.2 (by omega)
 ·rw [Qb h];congr 1;symm;exact Zf (λhh=>h hh.1)
theorem date_Days (y m:Int):z19.F y m=some (dDays y m):=by
 unfold z19.F dDays
 rw [date_good]
 simp only [Zb]
 by_cases hy:goodY y
 ·rw [Zt hy]
  simp only [Zn,Zc]
  by_cases h1:m<1
  ·rw [bif_t h1,if_pos (by omega)]
  ·rw [Qb h1]
   by_cases h12:m>12
   ·rw [bif_t h12,if_pos (by omega)]
   ·rw [Qb h12,if_neg (by omega)]
    by_cases h2:m=2
    ·subst h2
     rw [bif_t rfl,if_pos rfl,date_Leap]
     simp only [Zb]
     by_cases hl:leap y
     ·rw [Zt ⟨hy,hl⟩,if_pos hl];rfl
     ·rw [Zf (λhh=>hl hh.2),if_neg hl];rfl
    ·rw [Qb h2,if_neg h2]
     have:m=1\/m=3\/m=4\/m=5\/m=6\/m=7\/m=8\/m=9\/m=10\/m=11\/m=12:=by omega
     rcases this with rfl|rfl|rfl|rfl|rfl|rfl|rfl|rfl|rfl|rfl|rfl<;>rfl
 ·rw [Zf hy,if_pos (.inl hy)];rfl
theorem Qv1 (y:Int):z7.F y=some (decide (goodY y/\leap y)):=by
 unfold z7.F z7.j1
 simp only [Qcu (show (0:Int)<4 by decide),Qcu (show (0:Int)<100 by decide),Qcu (show (0:Int)<400 by decide)]
 by_cases h1:y<1
 ·rw [bif_t h1];congr 1;symm;exact Zf (by omega)
 ·rw [Qb h1]
  by_cases h2:y>9999
  ·rw [bif_t h2];congr 1;symm;exact Zf (by omega)
  ·rw [Qb h2]
   by_cases h4:y%400=0
   ·rw [bif_t h4];congr 1;symm;exact Zt (by omega)
   ·rw [Qb h4]
    by_cases h3:y%4=0
    ·rw [bif_t h3];congr 1
     by_cases h5:y%100=0
     ·rw [Zt h5];symm;exact Zf (by omega)
     ·rw [Zf h5];symm;exact Zt (by omega)
    ·rw [Qb h3];congr 1;symm;exact Zf (by omega)
theorem Qj8 (y m:Int):z8.F y m=some (dDays y m):=by
 unfold z8.F z8.j1 dDays
 by_cases h0:y<1
 ·rw [bif_t h0,if_pos (by omega)]
 ·rw [Qb h0]
  by_cases h9:y>9999
  ·rw [bif_t h9,if_pos (by omega)]
  ·rw [Qb h9]
   by_cases h1:m<1
   ·rw [bif_t h1,if_pos (by omega)]
   ·rw [Qb h1]
    by_cases h12:m>12
    ·rw [bif_t h12,if_pos (by omega)]
    ·rw [Qb h12,if_neg (by omega)]
     by_cases h2:m=2
     ·rw [bif_t h2,if_pos h2,Qv1]
      simp only [Zb]
      by_cases hl:leap y
      ·rw [Zt ⟨by omega,hl⟩,if_pos hl];rfl
      ·rw [Zf (λhh=>hl hh.2),if_neg hl];rfl
     ·rw [Qb h2,if_neg h2]
      by_cases g4:m=4
      ·rw [bif_t g4,if_pos (.inl g4)]
      ·rw [Qb g4]
       by_cases g6:m=6
       ·rw [bif_t g6,if_pos (by omega)]
       ·rw [Qb g6]
        by_cases g9:m=9
        ·rw [bif_t g9,if_pos (by omega)]
        ·rw [Qb g9]
         by_cases g11:m=11
         ·rw [bif_t g11,if_pos (by omega)]
         ·rw [Qb g11,if_neg (by omega)]
theorem Qjg (y m:Int):0<=dDays y m/\dDays y m<=31:=by
 unfold dDays;split
 ·omega
 ·split
  ·split<;>omega
  ·split<;>omega
theorem Qjd {y m:Int} (hy:goodY y) (hm:1<=m/\m<=12):28<=dDays y m:=by
 unfold dDays;rw [if_neg (by omega)];split
 ·split<;>omega
 ·split<;>omega
theorem Wm {y m d:Int} (h:right y m d):goodY y/\1<=m/\m<=12/\1<=d/\d<=31:=by
 have h1:=h.2
 have h2:=Qjg y m
 unfold dDays at h1
 split at h1
 ·have:=h.1;omega
 ·rename_i hn
  have:=h.1
  refine ⟨by omega,by omega,by omega,by omega,by omega⟩
theorem date_Check (y m d:Int):z20.F y m d=some (if right y m d then 0 else 11):=by
 unfold z20.F
 rw [date_Days]
 simp only [Zb]
 by_cases h:d<1
 ·rw [bif_t h,if_neg (by omega)]
 ·rw [Qb h]
  by_cases h':d>dDays y m
  ·rw [bif_t h',if_neg (by omega)]
  ·rw [Qb h',if_pos (by omega)]
def addM (y m d k:Int):Int×Int×Int:=(((12*y+m-1)+k)/12,((12*y+m-1)+k)%12+1,min d (dDays (((12*y+m-1)+k)/12) (((12*y+m-1)+k)%12+1)))
abbrev okM (y m k:Int):Prop:=12<=(12*y+m-1)+k/\(12*y+m-1)+k<120000
theorem Qhc {y m d k:Int} (h:right y m d) (ho:okM y m k):right (addM y m d k).1 (addM y m d k).2.1 (addM y m d k).2.2:=by
 have h1:=Wm h
 have h2:=Qjd (y:=((12*y+m-1)+k)/12) (m:=((12*y+m-1)+k)%12+1) (by omega) (by omega)
 show 1<=min d _/\min d _<=dDays _ _
 simp only [addM]
 omega
theorem Qwh (a b:Int):(if a<b then a else b)=min b a:=by omega
theorem month_Add {y m d k:Int}:z126.F y m d k=some (if right y m d/\okM y m k then ((addM y m d k).1,(addM y m d k).2.1,(addM y m d k).2.2,0) else (0,0,0,11)):=by
 unfold z126.F
 rw [date_Check]
 simp only [Zb]
 by_cases h:right y m d
 ·have hg:=Wm h
  rw [if_pos h]
  simp only [decide_true,Zn,Zc]
  by_cases h1:k < -119988
  ·rw [bif_t h1,if_neg (by omega)]
  ·rw [Qb h1]
   by_cases h2:k>119988
   ·rw [bif_t h2,if_neg (by omega)]
   ·rw [Qb h2]
    unfold z126.j2 z126.j3
    rw [Qe (n:=12*y) (by omega) (by omega),Qe (n:=12*y+m) (by omega) (by omega),Qe (n:=12*y+m-1) (by omega) (by omega),Qe (n:=12*y+m-1+k) (by omega) (by omega)]
    by_cases h3:12*y+m-1+k<12
    ·rw [bif_t h3,if_neg (by omega)]
    ·rw [Qb h3,Y6 (by omega),Qe (n:=(12*y+m-1+k)/12) (by omega) (by omega)]
     by_cases h4:(12*y+m-1+k)/12>9999
     ·rw [bif_t h4,if_neg (by omega)]
     ·rw [Qb h4,Jh (by omega),Qe (n:=(12*y+m-1+k)%12+1) (by omega) (by omega),date_Days,if_pos (by exact ⟨h,by omega⟩)]
      simp only [Zb,Qwh]
      rfl
 ·rw [if_neg h,if_neg (λhh=>h hh.1)];rfl
def aheadY (y:Int):Int:=365*(y-1)+(y-1)/4-(y-1)/100+(y-1)/400
def cumD (y m:Int):Int:=(367*m-362)/12-(if m<=2 then 0 else if leap y then 1 else 2)
def num (y m d:Int):Int:=aheadY y+cumD y m+d
theorem Qfh (y:Int):cumD y 1=0:=rfl
theorem Qcv {y m:Int} (hy:goodY y) (hm:1<=m/\m<=12):cumD y (m+1)=cumD y m+dDays y m:=by
 unfold cumD dDays
 rw [if_neg (show ¬(¬goodY y\/m<1\/12<m) by omega)]
 have:m=1\/m=2\/m=3\/m=4\/m=5\/m=6\/m=7\/m=8\/m=9\/m=10\/m=11\/m=12:=by omega
 by_cases hl:leap y
 ·simp only [if_pos hl];rcases this with rfl|rfl|rfl|rfl|rfl|rfl|rfl|rfl|rfl|rfl|rfl|rfl<;>rfl
 ·simp only [if_neg hl];rcases this with rfl|rfl|rfl|rfl|rfl|rfl|rfl|rfl|rfl|rfl|rfl|rfl<;>rfl
theorem Qdr (y:Int):aheadY (y+1)=aheadY y+cumD y 13:=by
 unfold aheadY cumD
 rw [if_neg (by decide)]
 by_cases hl:leap y
 ·rw [if_pos hl];omega
 ·rw [if_neg hl];omega
theorem Qil {y y':Int} (h:y<=y'):aheadY y<=aheadY y':=by unfold aheadY;omega
theorem Qb8 {y m m':Int} (h:m<=m') (h1:1<=m):cumD y m<=cumD y m':=by
 unfold cumD
 split<;>split<;>(try split)<;>omega
theorem Qim {y m d y' m' d':Int} (h:right y m d) (h':right y' m' d') (hl:y<y'\/y=y'/\(m<m'\/m=m'/\d<d')):num y m d<num y' m' d':=by
 have g:=Wm h
 have g':=Wm h'
 unfold num
 rcases hl with hl|⟨rfl,hl|⟨rfl,hl⟩⟩
 ·have s1:=Qcv g.1 ⟨g.2.1,g.2.2.1⟩
  have s2:=Qb8 (y:=y) (m:=m+1) (m':=13) (by omega) (by omega)
  have s3:=Qdr y
  have s4:=Qil (y:=y+1) (y':=y') (by omega)
  have s5:=Qb8 (y:=y') (m:=1) (m':=m') (by omega) (by omega)
  rw [Qfh] at s5
  omega
 ·have s1:=Qcv g.1 ⟨g.2.1,g.2.2.1⟩
  have s2:=Qb8 (y:=y) (m:=m+1) (m':=m') (by omega) (by omega)
  omega
 ·omega
theorem Qu0 {y:Int} (h:-20000<=y/\y<=20000) (h1:1<=y):z108.F y=some (aheadY y):=by
 unfold z108.F aheadY
 rw [Qe (n:=y-1) (by omega) (by omega),Y6 (by omega),Y6 (by omega),Y6 (by omega)]
 rw [Qe (n:=365*(y-1)) (by omega) (by omega),Qe (n:=(y-1)/4) (by omega) (by omega),Qe (n:=(y-1)/100) (by omega) (by omega),Qe (n:=(y-1)/400) (by omega) (by omega)]
 rw [Qe (n:=365*(y-1)+(y-1)/4) (by omega) (by omega),Qe (n:=365*(y-1)+(y-1)/4-(y-1)/100) (by omega) (by omega),Qe (by omega) (by omega)]
theorem Qcq {y:Int} (h:1<=y/\y<=20000):0<=aheadY y/\aheadY y<=8000000:=by unfold aheadY;omega
theorem Qv5 {y m:Int} (h:1<=m/\m<=13):0<=cumD y m/\cumD y m<=366:=by
 unfold cumD;split
 ·omega
 ·split<;>omega
theorem Qpg {y:Int} (hy:goodY y):∀(f:Nat) (n k m:Int),1<=k->k+f=m->m<=12->0<=n/\n<=10000000-40*f ->
  Runs (λrec x=>z109.l0P y m rec some x) (n,k) (n+cumD y m-cumD y k,m)
 |
  0,n,k,m,h1,hk,hm,hn=>by
  have:k=m:=by omega
  subst this
  refine .done λrec=>?_
  unfold z109.l0P
  simp only
  rw [Qb (by omega)];congr 2;omega
 |
  f+1,n,k,m,h1,hk,hm,hn=>by
  have hd:=Qjg y k
  have ih:=Qpg hy f (n+dDays y k) (k+1) m (by omega) (by omega) hm (by omega)
  have e:n+dDays y k+cumD y m-cumD y (k+1)=n+cumD y m-cumD y k:=by rw [Qcv hy (by omega)];omega
  rw [e] at ih
  refine .step (λrec=>?_) ih
  unfold z109.l0P
  simp only
  rw [bif_t (by omega),date_Days]
  simp only [Zb]
  rw [Qe (by omega) (by omega),Qe (by omega) (by omega)]
theorem Qlb {y m d:Int} (h:right y m d):1<=num y m d/\num y m d<=3652059:=by
 have g:=Wm h
 have s1:=Qcv g.1 ⟨g.2.1,g.2.2.1⟩
 have s2:=Qb8 (y:=y) (m:=m+1) (m':=13) (by omega) (by omega)
 have s3:=Qdr y
 have s4:=Qil (y:=y+1) (y':=10000) (by omega)
 have s5:=Qcq (y:=y) (by omega)
 have s6:=Qv5 (y:=y) (m:=m) (by omega)
 have s7:aheadY 10000=3652059:=by decide
 unfold num;omega
theorem date_Number (y m d:Int):z109.F y m d=some (if right y m d then (num y m d,0) else (0,11)):=by
 unfold z109.F
 rw [date_Check]
 simp only [Zb]
 by_cases h:right y m d
 ·have g:=Wm h
  have b:=Qlb h
  have ha:=Qcq (y:=y) (by omega)
  have r:=Qpg g.1 (m-1).toNat (aheadY y) 1 m (by omega) (by omega) (by omega) (by omega)
  have e:z109.l0 y m (aheadY y,(1:Int))=some (aheadY y+cumD y m-cumD y 1,m):=r.lfp
  rw [if_pos h,if_pos h]
  simp only [decide_true,Zn,Zc]
  rw [Qu0 (by omega) (by omega)]
  simp only [Zb]
  rw [e]
  simp only [Zb]
  rw [Qfh,Int.sub_zero]
  have e2:aheadY y+cumD y m+d=num y m d:=rfl
  rw [e2,Qe (by omega) (by omega)]
 ·rw [if_neg h,if_neg h];rfl
def dcmp (a b c a' b' c':Int):Int:=if a<a' then -1 else if a'<a then 1 else if b<b' then -1 else if b'<b then 1 else if c<c' then -1 else if c'<c then 1 else 0
theorem or3 (x y z:Int):z15.F [x,y,z]=some (if x≠0 then x else if y≠0 then y else z):=by
 have e0:wr .i64 (0+1)=1:=by decide
 have e1:wr .i64 (1+1)=2:=by decide
 have e2:wr .i64 (2+1)=3:=by decide
 have r3:Runs (λrec i=>z15.l0P 0 [x,y,z] 3 rec some i) 3 (.inl 3):=.done λrec=>by unfold z15.l0P;rw [Qb (by decide)]
 have r2:Runs (λrec i=>z15.l0P 0 [x,y,z] 3 rec some i) 2 (if z≠0 then .inr z else .inl 3):=by
  by_cases h:z=0
  ·rw [if_neg (by omega)]
   refine .step (λrec=>?_) r3
   unfold z15.l0P
   rw [bif_t (by decide),if_pos (by simp),show [x,y,z].getD (Int.toNat 2) 0=z from rfl,Zt h,e2];rfl
  ·rw [if_pos h]
   refine .done λrec=>?_
   unfold z15.l0P
   rw [bif_t (by decide),if_pos (by simp),show [x,y,z].getD (Int.toNat 2) 0=z from rfl,Zf h];rfl
 have r1:Runs (λrec i=>z15.l0P 0 [x,y,z] 3 rec some i) 1 (if y≠0 then .inr y else if z≠0 then .inr z else .inl 3):=by
  by_cases h:y=0
  ·rw [if_neg (by omega)]
   refine .step (λrec=>?_) r2
   unfold z15.l0P
   rw [bif_t (by decide),if_pos (by simp),show [x,y,z].getD (Int.toNat 1) 0=y from rfl,Zt h,e1];rfl
  ·rw [if_pos h]
   refine .done λrec=>?_
   unfold z15.l0P
   rw [bif_t (by decide),if_pos (by simp),show [x,y,z].getD (Int.toNat 1) 0=y from rfl,Zf h];rfl
 have r0:Runs (λrec i=>z15.l0P 0 [x,y,z] 3 rec some i) 0 (if x≠0 then .inr x else if y≠0 then .inr y else if z≠0 then .inr z else .inl 3):=by
  by_cases h:x=0
  ·rw [if_neg (by omega)]
   refine .step (λrec=>?_) r1
   unfold z15.l0P
   rw [bif_t (by decide),if_pos (by simp),show [x,y,z].getD (Int.toNat 0) 0=x from rfl,Zt h,e0];rfl
  ·rw [if_pos h]
   refine .done λrec=>?_
   unfold z15.l0P
   rw [bif_t (by decide),if_pos (by simp),show [x,y,z].getD (Int.toNat 0) 0=x from rfl,Zf h];rfl
 have e:z15.l0 0 [x,y,z] 3 0=_:=r0.lfp
 unfold z15.F
 show ((z15.l0 0 [x,y,z] 3 0).bind _)=_
 rw [e]
 simp only [Zb]
 by_cases hx:x=0<;>by_cases hy:y=0<;>by_cases hz:z=0<;>simp [hx,hy,hz]
theorem date_Cmp (a b c a' b' c':Int):z16.F a b c a' b' c'=some (dcmp a b c a' b' c'):=by
 unfold z16.F
 rw [Qdo]
 simp only [Zb]
 rw [Qdo]
 simp only [Zb]
 rw [Qdo]
 simp only [Zb]
 rw [or3]
 simp only [Zb]
 congr 1
 unfold cmpI dcmp
 rcases Z91 a a' with h|h|h<;>rcases Z91 b b' with g|g|g<;>rcases Z91 c c' with k|k|k <;>
  (repeat' split)<;>omega
theorem Qpc {y m d y' m' d':Int} (h:right y m d) (h':right y' m' d'):dcmp y m d y' m' d'=cmpI (num y m d) (num y' m' d'):=by
 by_cases e:y=y'/\m=m'/\d=d'
 ·obtain ⟨rfl,rfl,rfl⟩:=e
  unfold dcmp cmpI;simp
 ·by_cases hl:y<y'\/y=y'/\(m<m'\/m=m'/\d<d')
  ·have:=Qim h h' hl
   rw [show cmpI (num y m d) (num y' m' d') = -1 from by unfold cmpI;rw [if_pos this]]
   unfold dcmp
   (repeat' split)<;>omega
  ·have:=Qim h' h (by omega)
   rw [show cmpI (num y m d) (num y' m' d')=1 from by unfold cmpI;rw [if_neg (by omega),if_neg (by omega)]]
   unfold dcmp
   (repeat' split)<;>omega
theorem Qki {s:J1} (h:Q1 s):sz (tv 0 s).toNat<=s.length:=sz_le (by have:=Qa0 h;omega)
theorem Qx0 (s:J1):sz (mDigits s).1<=4096:=by
 have h0:sz 0<=4096:=by rw [Qak];omega
 unfold mDigits
 split
 ·exact h0
 ·split
  ·rename_i h1 h2
   unfold numOK at h2
   simp only [Z7] at h2
   have:=Qki (Qa2.1 h2.1.2)
   show sz (tv 0 s).toNat<=4096
   omega
  ·exact h0
theorem Qwb (s:J1):sz (mWhole s).1.natAbs<=4096:=by
 have h:=Qx0 (cutNeg s).1
 have h0:sz 0<=4096:=by rw [Qak];omega
 unfold mWhole
 split
 ·exact h0
 ·split
  ·exact h0
  ·show sz (if _ then _ else _:Int).natAbs<=_
   split
   ·rw [Int.natAbs_neg];exact h
   ·exact h
def mMoney (s:J1):Int×Int:=
 if (mWhole s).2≠0 then (0,(mWhole s).2) else if (mWhole s).1<0\/10^30<(mWhole s).1 then (0,19) else ((mWhole s).1,0)
theorem terms_greatest:z75.F=some (lb (Int.natAbs (10^30)),neg (10^30)):=by
 unfold z75.F
 have h:=digits_Ten (t:=30) (by decide)
 rw [show ((30:Nat):Int)=30 from rfl] at h
 rw [h]
 simp only [Zb]
 rw [Yn (z:=10^30) (by decide) (.inr ⟨rfl,by decide⟩)]
 rfl
theorem terms_Money (s:J1):z76.F s=some (lb (mMoney s).1.natAbs,neg (mMoney s).1,(mMoney s).2):=by
 have hz:=Qwb s
 unfold z76.F mMoney
 rw [whole_Parse]
 simp only [Zb]
 generalize mWhole s=w at *
 have hn:lb (Int.natAbs 0)=[]:=lb_zero
 by_cases h:w.2=0
 ·rw [Zt h,if_neg (by omega)]
  simp only [Zn,Zc]
  rw [Yc]
  simp only [Zb]
  by_cases h1:w.1<0
  ·rw [bif_t (We.2 h1),if_pos (.inl h1),hn];rfl
  ·rw [Qb (λh=>h1 (We.1 h)),terms_greatest]
   simp only [Zb]
   have l1:=Qk w.1.natAbs
   have l2:(lb (Int.natAbs (10^30))).length<=31:=Z11 (Qk _) (sz_le (by decide))
   have l3:sz w.1.natAbs<=4096:=hz
   rw [Qbt (by omega)]
   simp only [Zb]
   by_cases h2:10^30<w.1
   ·rw [bif_t (Qaw.2 h2),if_pos (.inr h2),hn];rfl
   ·rw [Qb (λh=>h2 (Qaw.1 h)),if_neg (by omega)]
 ·rw [Zf h,if_pos h,hn];rfl
theorem Qm7 (s:J1):(mDec s).2.1<=64/\sz (mDec s).1.natAbs<=4096:=by
 have h0:sz (Int.natAbs 0)<=4096:=by show sz 0<=4096;rw [Qak];omega
 unfold mDec
 split
 ·exact ⟨Z89 _,h0⟩
 ·rename_i hl
  have hc:=Qj3 s
  generalize (cutNeg s).1=t at *
  unfold Qa7
  split
  ·exact ⟨Z89 _,h0⟩
  ·rename_i hp
   split
   ·exact ⟨Z89 _,h0⟩
   ·split
    ·exact ⟨Z89 _,h0⟩
    ·rename_i h64
     refine ⟨by show List.length _<=64;omega,?_⟩
     have hd:Q1 ((cutDot t).1++(cutDot t).2.getD [])/\((cutDot t).1++(cutDot t).2.getD []).length<=4096:=by
      simp only [Bool.or_eq_true,not_or,Z77,Bool.not_eq_false,Z7] at hp
      obtain ⟨⟨p1,p2⟩,p3⟩:=hp
      have q1:=(Qc4 (by simpa using p1)).1
      cases ho:(cutDot t).2 with
      |
       none=>
       have:=Qh3 ho
       simp only [Option.getD_none,Z39]
       exact ⟨q1,by rw [this];omega⟩
      |
       some b=>
       have:=Qii ho
       rw [ho] at p2
       have q2:=(Qc4 (s:=b) (by simpa using p2)).1
       simp only [Z51]
       refine ⟨λx hx=>(Z52.1 hx).elim (q1 x) (q2 x),?_⟩
       have hlen:t.length=(cutDot t).1.length+(b.length+1):=by
        conv=>lhs;rw [this]
        simp
       rw [Z9];omega
     have h1:=Z11 (Qki hd.1) hd.2
     have h2:=(Qa0 hd.1).1
     show sz (if _ then _ else _:Int).natAbs<=_
     have e:∀z:Int,0<=z->z.natAbs=z.toNat:=λz hz=>by omega
     split
     ·rw [Int.natAbs_neg,e _ h2];exact h1
     ·rw [e _ h2];exact h1
theorem dec_ten {t:Nat} (ht:t<=4096):z68.F (t:Int)=some (lb (10^t:Nat),false):=by
 unfold z68.F
 rw [digits_Ten ht]
 simp only [Zb]
 rw [whole_Of];rfl
theorem Qj5 {t:Nat} (ht:t<=4096):z68.F (t:Int)=some (lb ((10^t:Nat):Int).natAbs,neg ((10^t:Nat):Int)):=by
 rw [dec_ten ht]
 have:neg ((10^t:Nat):Int)=false:=Zf (Int.not_lt.2 (Z55 _))
 rw [this];rfl
theorem Qge (t:Nat):sz (10^t)<=t+1:=sz_le (by rw [Z45];have:0<10^t:=Z105 (by decide);omega)
theorem Qlm {c:Int} {s t:Nat} (h:s<=t) (ht:t<=4096) (hc:sz c.natAbs<=100000000):z69.F (lb c.natAbs) (neg c) (s:Int) (t:Int)=some (lb (c*(10^(t-s):Nat)).natAbs,neg (c*(10^(t-s):Nat))):=by
 have l1:=Qk c.natAbs
 have l2:=Qk ((10^(t-s):Nat):Int).natAbs
 have l3:=Qge (t-s)
 have l4:sz ((10^(t-s):Nat):Int).natAbs=sz (10^(t-s)):=rfl
 unfold z69.F
 rw [Qe (by omega) (by omega),show (t:Int)-s=((t-s:Nat):Int) by omega,Qj5 (by omega)]
 simp only [Zb]
 rw [J8 (by omega)]
 rfl
theorem Qtn {c c':Int} {s s':Nat} (hs:s<=2000) (hs':s'<=2000) (hc:sz c.natAbs<=100000000) (hc':sz c'.natAbs<=100000000) :
  z70.F (lb c.natAbs) (neg c) (s:Int) (lb c'.natAbs) (neg c') (s':Int)=some (cmpI (c*(10^(max s s'-s):Nat)) (c'*(10^(max s s'-s'):Nat))):=by
 have e:(if (s':Int)>(s:Int) then (s':Int) else (s:Int))=((max s s':Nat):Int):=by split<;>omega
 have m1:=W6 c.natAbs (10^(max s s'-s))
 have m2:=W6 c'.natAbs (10^(max s s'-s'))
 have t1:=Qge (max s s'-s)
 have t2:=Qge (max s s'-s')
 have l1:=Qk (c*(10^(max s s'-s):Nat)).natAbs
 have l2:=Qk (c'*(10^(max s s'-s'):Nat)).natAbs
 have e1:(c*(10^(max s s'-s):Nat)).natAbs=c.natAbs*10^(max s s'-s):=by rw [Z102];rfl
 have e2:(c'*(10^(max s s'-s'):Nat)).natAbs=c'.natAbs*10^(max s s'-s'):=by rw [Z102];rfl
 have hc1:sz c.natAbs<=100000000:=hc
 have hc2:sz c'.natAbs<=100000000:=hc'
 rw [<-e1] at m1
 rw [<-e2] at m2
 unfold z70.F
 rw [e,Qlm (by omega) (by omega) hc]
 simp only [Zb]
 rw [Qlm (by omega) (by omega) hc']
 simp only [Zb]
 rw [Qbt (by omega)]
 rfl
theorem Qbl (n:Int) {d:Nat} (hd:0<d):(mkRat n d).num.natAbs<=n.natAbs:=by
 rw [Rat.num_mkRat,if_neg (by omega),Nat.gcd_comm]
 have hg:0<Nat.gcd n.natAbs d:=Nat.gcd_pos_of_pos_right _ hd
 rw [(Qmb (Nat.gcd_dvd_left n.natAbs d) hg).1]
 exact Z95 _ _
theorem Qcl (n:Int) {d:Nat} (hd:0<d):(mkRat n d).den<=d:=by
 rw [Rat.den_mkRat,if_neg (by omega)]
 exact Z95 _ _
theorem Quv {M:Nat} (hD:Qbb M) {c:Int} {s:Nat} (hs:s<=4096) (hc:c.natAbs<=M) (hM:10^s<=M):z72.F (lb c.natAbs) (neg c) (s:Int)=some (fr (mkRat c (10^s))):=by
 have hp:0<10^s:=Z105 (by decide)
 have l:=Qge s
 unfold z72.F
 rw [Qj5 hs]
 simp only [Zb]
 rw [frac_Of (num:=c) (den:=((10^s:Nat):Int)) hD (by exact_mod_cast (Nat.ne_of_gt hp)) hc (by show 10^s<=M;exact hM) (by show sz (10^s)<=_;omega),Rat.divInt_ofNat]
 rfl
def mRate (s:J1):Rat×Int:=
 if (mDec s).2.2≠0 then (0,(mDec s).2.2)
 else if (mDec s).1<0\/1000*(10^(mDec s).2.1:Nat)<(mDec s).1\/12<(mDec s).2.1 then (0,18)
 else (mkRat (mDec s).1 (10^(mDec s).2.1)/100,0)
theorem Qnr:fr 0=([],false,[]):=by
 show (lb 0,neg 0,lb 0)=_
 rw [lb_zero];rfl
theorem Qfs (e:Int):some (([]:J0),false,([]:J0),e)=some ((fr (0:Rat)).1,(fr (0:Rat)).2.1,(fr (0:Rat)).2.2,e):=by
 rw [Qnr]
theorem Qsx:fr 100=(lb (Int.natAbs 100),neg 100,[]):=by
 show (lb 100,neg 100,lb 0)=_
 rw [lb_zero];rfl
theorem Qm3:Qbb 1000000000000000000:=λx y hx hy h0=>Qqf (by omega) h0
theorem terms_Rate (s:J1):z73.F s=some ((fr (mRate s).1).1,(fr (mRate s).1).2.1,(fr (mRate s).1).2.2,(mRate s).2):=by
 obtain ⟨hb1,hb2⟩:=Qm7 s
 unfold z73.F mRate
 rw [dec_Parse]
 simp only [Zb,decR]
 generalize mDec s=d at *
 obtain ⟨c,sc,e⟩:=d
 simp only at *
 have hcz:sz c.natAbs<=4096:=hb2
 by_cases h:e=0
 ·rw [Zt h,if_neg (by omega)]
  simp only [Zn,Zc]
  rw [whole_From (by omega)]
  simp only [Zb]
  have ho:z61.F (lb (Int.natAbs 1000)) (neg 1000) 0=some (lb (Int.natAbs 1000),neg 1000,0,0):=rfl
  rw [ho]
  simp only [Zb]
  unfold z62.F z71.F
  simp only [Zb]
  rw [Yc]
  simp only [Zb]
  by_cases h1:c<0
  ·rw [bif_t (We.2 h1),if_pos (.inl h1)];exact Qfs 18
  ·rw [Qb (λh=>h1 (We.1 h))]
   have hk:sz (Int.natAbs 1000)<=4:=sz_le (by decide)
   have hcmp:=Qtn (c:=c) (c':=1000) (s:=sc) (s':=0) (by omega) (by omega) (by omega) (by omega)
   rw [show ((0:Nat):Int)=0 from rfl] at hcmp
   rw [hcmp]
   simp only [Zb,Nat.max_zero,Nat.sub_self,Nat.pow_zero,Nat.sub_zero,Int.natCast_one,Int.mul_one]
   by_cases h2:1000*((10^sc:Nat):Int)<c
   ·rw [bif_t (Qaw.2 h2),if_pos (.inr (.inl h2))];exact Qfs 18
   ·rw [Qb (λh=>h2 (Qaw.1 h))]
    by_cases h3:12<sc
    ·rw [bif_t (by omega),if_pos (.inr (.inr h3))];exact Qfs 18
    ·rw [Qb (by omega),if_neg (by omega)]
     have hp12:10^sc<=10^12:=Z33 (by decide) (by omega)
     have hp0:0<10^sc:=Z105 (by decide)
     have n1:=Qbl c hp0
     have n2:=Qcl c hp0
     have hd0:=(mkRat c (10^sc)).den_pos
     unfold z73.j8
     rw [Quv Qm3 (by omega) (by omega) (by omega)]
     simp only [Zb]
     rw [whole_From (by omega)]
     simp only [Zb]
     have hf:z27.F (lb (Int.natAbs 100)) (neg 100)=some (fr 100):=by rw [Qsx];rfl
     rw [hf]
     simp only [Zb]
     generalize mkRat c (10^sc)=q at *
     have hq:=Qj0 Qm3 (q:=q) (r:=100) (by decide)
      (by rw [show (100:Rat).den=1 from rfl];simp;omega)
      (by rw [show (100:Rat).num=100 from rfl,Z102];show q.den*100<=_;omega)
      (by
        rw [show (100:Rat).den=1 from rfl]
        have a1:sz q.num.natAbs<=20:=sz_le (by omega)
        have a2:sz 1<=1:=sz_le (by decide)
        omega)
      (by
        rw [show (100:Rat).num=100 from rfl]
        have a1:sz q.den<=20:=sz_le (by omega)
        have a2:sz (Int.natAbs 100)<=3:=sz_le (by decide)
        omega)
     rw [hq]
     rfl
 ·rw [Zf h,if_pos h];exact Qfs e
structure Tm where
 p:List UInt8
 r:List UInt8
 kind:Int
 basis:Int
 mode:Int
 y:Int
 m:Int
 d:Int
 every:Int
 count:Int
abbrev Qcs (e:Int):Prop:=e=1\/e=2\/e=3\/e=4\/e=6\/e=12
abbrev kindsOK (t:Tm):Prop:=(0<=t.kind/\t.kind<=2)/\(0<=t.basis/\t.basis<=2)/\(0<=t.mode/\t.mode<=4)/\Qcs t.every
def mCheck (t:Tm):Int:=
 if (mMoney t.p).2≠0 then (mMoney t.p).2 else if (mMoney t.p).1=0 then 19 else if (mRate t.r).2≠0 then (mRate t.r).2
 else if ¬kindsOK t then 2 else if t.count<1\/1200<t.count then 6 else if right t.y t.m t.d/\okM t.y t.m (t.every*t.count) then 0 else 11
theorem terms_Word (k:Int):∃w,z122.F k=some w/\decide (w=[])=decide (¬(0<=k/\k<=2)):=by
 unfold z122.F
 by_cases h:k<0
 ·rw [bif_t h];exact ⟨_,rfl,by simp;omega⟩
 ·rw [Qb h]
  by_cases h':k>=3
  ·rw [bif_t h'];exact ⟨_,rfl,by simp;omega⟩
  ·rw [Qb h']
   have:k=0\/k=1\/k=2:=by omega
   rcases this with rfl|rfl|rfl<;>exact ⟨_,rfl,rfl⟩
theorem Qln (k:Int):∃w,z104.F k=some w/\decide (w=[])=decide (¬(0<=k/\k<=2)):=by
 unfold z104.F z102.F
 by_cases h:k>=0
 ·rw [bif_t h]
  by_cases h':k<3
  ·have:k=0\/k=1\/k=2:=by omega
   rcases this with rfl|rfl|rfl<;>exact ⟨_,rfl,rfl⟩
  ·rw [Zf h'];exact ⟨_,rfl,by simp;omega⟩
 ·rw [Qb h];exact ⟨_,rfl,by simp;omega⟩
theorem Qys (k:Int):∃w,z124.F k=some w/\decide (w=[])=decide (¬(0<=k/\k<=4)):=by
 unfold z124.F z92.F
 by_cases h:k>=0
 ·rw [bif_t h]
  by_cases h':k<5
  ·have:k=0\/k=1\/k=2\/k=3\/k=4:=by omega
   rcases this with rfl|rfl|rfl|rfl|rfl<;>exact ⟨_,rfl,rfl⟩
  ·rw [Zf h'];exact ⟨_,rfl,by simp;omega⟩
 ·rw [Qb h];exact ⟨_,rfl,by simp;omega⟩
theorem Qsi {e:Int} (h:1<=e) (h5:e≠5):Int.tmod 12 e=0↔Qcs e:=by
 rw [Jh (by decide)]
 by_cases hb:12<e
 ·rw [Int.emod_eq_of_lt (by decide) hb];omega
 ·have:e=1\/e=2\/e=3\/e=4\/e=6\/e=7\/e=8\/e=9\/e=10\/e=11\/e=12:=by omega
  rcases this with rfl|rfl|rfl|rfl|rfl|rfl|rfl|rfl|rfl|rfl|rfl<;>decide
theorem terms_odd (t:Tm):z125.F t.p t.r t.kind t.basis t.mode t.y t.m t.d t.every t.count=some (decide (¬kindsOK t)):=by
 obtain ⟨w1,e1,d1⟩:=terms_Word t.kind
 obtain ⟨w2,e2,d2⟩:=Qln t.basis
 obtain ⟨w3,e3,d3⟩:=Qys t.mode
 unfold z125.F
 rw [e1]
 simp only [Zb]
 rw [d1]
 by_cases h1:0<=t.kind/\t.kind<=2
 ·rw [Qb (λhh=>hh h1),e2]
  simp only [Zb]
  rw [d2]
  by_cases h2:0<=t.basis/\t.basis<=2
  ·rw [Qb (λhh=>hh h2),e3]
   simp only [Zb]
   rw [d3]
   by_cases h3:0<=t.mode/\t.mode<=4
   ·rw [Qb (λhh=>hh h3)]
    by_cases h4:t.every<1
    ·rw [bif_t h4];congr 1;symm;exact Zt (by omega)
    ·rw [Qb h4]
     by_cases h5:t.every=5
     ·rw [bif_t h5];congr 1;symm;exact Zt (by omega)
     ·rw [Qb h5,if_neg (by omega)]
      congr 1
      have:=Qsi (e:=t.every) (by omega) h5
      rw [<-decide_not]
      exact decide_eq_decide.2 (by omega)
   ·rw [bif_t h3];congr 1;symm;exact Zt (by omega)
  ·rw [bif_t h2];congr 1;symm;exact Zt (by omega)
 ·rw [bif_t h1];congr 1;symm;exact Zt (by omega)
theorem Qg9 {e c:Int} (he:Qcs e) (hc:1<=c/\c<=1200):1<=e*c/\e*c<=14400:=by
 rcases he with rfl|rfl|rfl|rfl|rfl|rfl<;>omega
theorem terms_Check (t:Tm):z127.F t.p t.r t.kind t.basis t.mode t.y t.m t.d t.every t.count=some (mCheck t):=by
 unfold z127.F mCheck
 rw [terms_Money]
 simp only [Zb]
 by_cases h1:(mMoney t.p).2=0
 ·rw [Zt h1,if_neg (by omega)]
  simp only [Zn,Zc]
  rw [Yc]
  simp only [Zb]
  by_cases h2:(mMoney t.p).1=0
  ·rw [bif_t (Qbe.2 h2),if_pos h2]
  ·rw [Qb (λh=>h2 (Qbe.1 h)),if_neg h2,terms_Rate]
   simp only [Zb]
   by_cases h3:(mRate t.r).2=0
   ·rw [Zt h3,if_neg (by omega)]
    simp only [Zn,Zc]
    rw [terms_odd]
    simp only [Zb]
    by_cases h4:kindsOK t
    ·rw [Qb (λhh=>hh h4),if_neg (λhh=>hh h4)]
     by_cases h5:t.count<1
     ·rw [bif_t h5,if_pos (.inl h5)]
     ·rw [Qb h5]
      by_cases h6:t.count>1200
      ·rw [bif_t h6,if_pos (.inr h6)]
      ·have hb:=Qg9 (e:=t.every) (c:=t.count) h4.2.2.2 (by omega)
       rw [Qb h6,if_neg (by omega),Qe (by omega) (by omega),month_Add]
       simp only [Zb]
       by_cases h7:right t.y t.m t.d/\okM t.y t.m (t.every*t.count)
       ·rw [if_pos h7,if_pos h7]
       ·rw [if_neg h7,if_neg h7]
    ·rw [bif_t h4,if_pos h4]
   ·rw [Zf h3,if_pos h3];rfl
 ·rw [Zf h1,if_pos h1];rfl
theorem Qjj {a b:Int} (hb:0<b):(Int.tmod a b<0->Int.tmod a b+b=a%b)/\(¬Int.tmod a b<0->Int.tmod a b=a%b)/\-b<Int.tmod a b/\Int.tmod a b<b:=by
 have h1:=Int.emod_nonneg a (show b≠0 by omega)
 have h2:=Int.emod_lt_of_pos a hb
 have h3:=Int.tmod_eq_emod (a:=a) (b:=b)
 by_cases h:0<=a\/b∣a
 ·rw [if_pos h] at h3;omega
 ·rw [if_neg h] at h3
  have:a%b≠0:=λe=>h (.inr (Int.dvd_of_emod_eq_zero e))
  omega
theorem Qrz {a b c n:Int} (hn:1<=n/\n<=9999):∃y m d,z12.F a b c n=some (y,m,d)/\right y m d/\y<=n:=by
 have f1:=Qjj (a:=a) (b:=n) (by omega)
 have f2:=Qjj (a:=b) (b:=12) (by omega)
 have m1:=Int.emod_nonneg a (show n≠0 by omega)
 have m2:=Int.emod_lt_of_pos a (show 0<n by omega)
 have hd:=Qjd (y:=a%n+1) (m:=b%12+1) (by omega) (by omega)
 have hd':=Qjg (a%n+1) (b%12+1)
 have f3:=Qjj (a:=c) (b:=dDays (a%n+1) (b%12+1)) (by omega)
 have m5:=Int.emod_nonneg c (show dDays (a%n+1) (b%12+1)≠0 by omega)
 have m6:=Int.emod_lt_of_pos c (show 0<dDays (a%n+1) (b%12+1) by omega)
 refine ⟨a%n+1,b%12+1,c%dDays (a%n+1) (b%12+1)+1,?_,⟨by omega,by omega⟩,by omega⟩
 have hj8:∀j,j=b%12->Int.tmod a n=a%n->z12.j8 a n j c=some (a%n+1,b%12+1,c%dDays (a%n+1) (b%12+1)+1):=λj hj ht=>by
  subst hj
  unfold z12.j8
  rw [ht,Qe (n:=a%n+1) (by omega) (by omega),Qe (n:=b%12+1) (by omega) (by omega),Qj8]
  simp only [Zb]
  rw [if_neg (by omega)]
  generalize dDays (a%n+1) (b%12+1)=k at *
  by_cases h:Int.tmod c k<0
  ·rw [bif_t h,Qe (n:=Int.tmod c k+k) (by omega) (by omega),f3.1 h,Qe (by omega) (by omega)]
  ·rw [Qb h,f3.2.1 h,Qe (by omega) (by omega)]
 have hj5:∀j,j=b%12->Int.tmod a n<0->z12.j5 a n j c=some (a%n+1,b%12+1,c%dDays (a%n+1) (b%12+1)+1):=λj hj ht=>by
  subst hj
  unfold z12.j5 z12.j7
  rw [Qe (n:=Int.tmod a n+n) (by omega) (by omega),f1.1 ht,Qe (n:=a%n+1) (by omega) (by omega),Qe (n:=b%12+1) (by omega) (by omega),Qj8]
  simp only [Zb]
  rw [if_neg (by omega)]
  generalize dDays (a%n+1) (b%12+1)=k at *
  by_cases h:Int.tmod c k<0
  ·rw [bif_t h,Qe (n:=Int.tmod c k+k) (by omega) (by omega),f3.1 h,Qe (by omega) (by omega)]
  ·rw [Qb h,f3.2.1 h,Qe (by omega) (by omega)]
 unfold z12.F
 rw [if_neg (by omega)]
 by_cases h1:Int.tmod a n<0
 ·rw [bif_t h1]
  by_cases h2:Int.tmod b 12<0
  ·rw [bif_t h2,Qe (by omega) (by omega),f2.1 h2];exact hj5 _ rfl h1
  ·rw [Qb h2,f2.2.1 h2];exact hj5 _ rfl h1
 ·rw [Qb h1]
  by_cases h2:Int.tmod b 12<0
  ·rw [bif_t h2,Qe (by omega) (by omega),f2.1 h2];exact hj8 _ rfl (f1.2.1 h1)
  ·rw [Qb h2,f2.2.1 h2];exact hj8 _ rfl (f1.2.1 h1)
theorem Qva (n:Nat):numOK (txt n)=true:=by
 unfold numOK
 rw [Zf (Qrb n),Qa2.2 (Qif n)]
 by_cases h:n=0
 ·subst h;rfl
 ·obtain ⟨b,s,e,hb⟩:=Qls h
  rw [e]
  have:((b::s).getD 0 0).toNat=b.toNat:=rfl
  rw [this,Zf hb];simp
theorem Qso {s:J1} (h:Q1 s):cutNeg s=(s,false):=by
 unfold cutNeg
 cases s with
 |nil=>rfl
 |
  cons b t=>
  have hb:=h b (by simp)
  unfold digit at hb
  simp only
  rw [if_neg]
  rintro rfl
  simp at hb
theorem Qw9 {n:Nat} (h:(txt n).length<=4096):mWhole (txt n)=((n:Int),0):=by
 have hd:mDigits (txt n)=(n,0):=by
  unfold mDigits
  rw [if_neg (by omega),if_pos (Qva n),Qpb,Zi]
 unfold mWhole
 rw [Qso (Qif n)]
 simp only [hd]
 rw [if_neg (by simp),if_neg (by simp)]
 rfl
theorem Qf8 {n:Nat} (h:n<=10^30):mMoney (txt n)=((n:Int),0):=by
 unfold mMoney
 have hl:(txt n).length<=31:=Qcd (by omega) (by decide)
 rw [Qw9 (by omega)]
 have e:(10:Int)^30=((10^30:Nat):Int):=rfl
 rw [if_neg (by simp),if_neg (by rw [e];omega)]
theorem Qxy (s:J1) (k:Nat) (hk:k<=1000000000):∀(f:Nat),k+1-s.length=f->Runs (λrec x=>z139.l0P (k:Int) rec some x) s (List.replicate f 48++s):=by
 intro f
 induction f generalizing s with
 |
  zero=>
  intro h
  refine .done λrec=>?_
  unfold z139.l0P
  rw [Qb (by omega)];rfl
 |
  succ f ih=>
  intro h
  have:=ih (48::s) (by simp;omega)
  have e:List.replicate f (48:UInt8)++48::s=List.replicate (f+1) 48++s:=by
   rw [List.replicate_succ',Z90];rfl
  rw [e] at this
  refine .step (λrec=>?_) this
  unfold z139.l0P
  rw [bif_t (by omega),if_pos (by simp;omega)]
  rfl
def padded (n k:Nat):J1:=List.replicate (k+1-(txt n).length) 48++txt n
theorem Qio (n k:Nat):k<(padded n k).length/\(padded n k).length<=k+1+(txt n).length:=by unfold padded;rw [Z9,Z79];omega
theorem Qsj (n k:Nat):Q1 (padded n k):=λb hb=>by
 rcases Z52.1 hb with h|h
 ·rw [List.eq_of_mem_replicate h];unfold digit;decide
 ·exact Qif n b h
theorem Qq7 (f:Nat) (s:J1):tv 0 (List.replicate f 48++s)=tv 0 s:=by
 induction f with
 |zero=>rfl
 |succ f ih=>rw [List.replicate_succ,List.cons_append];exact ih
theorem Qwv (n k:Nat):tv 0 (padded n k)=n:=by unfold padded;rw [Qq7,Qpb]
def decTxt (n k:Nat):J1:=(padded n k).take ((padded n k).length-k)++46::(padded n k).drop ((padded n k).length-k)
theorem Qru {n k:Nat} (hk:0<k/\k<=1000000) (hn:4*(dg n).length<=1000000000) (hl:(txt n).length<=100000000):z139.F (dg n) false (k:Int)=some (decTxt n k):=by
 have r:=Qxy (txt n) k (by omega) _ rfl
 have e:z139.l0 (k:Int) (txt n)=some (padded n k):=r.lfp
 have pl:=Qio n k
 unfold z139.F
 rw [Qmd hn]
 simp only [Zb]
 rw [e]
 simp only [Zb]
 have ew:wr .i64 (((padded n k).length:Int)-(k:Int))=(((padded n k).length-k:Nat):Int):=by rw [Qe (by omega) (by omega)];omega
 rw [bif_t (by omega),ew,if_pos (by omega),if_pos (by simp;omega),if_pos (by omega),if_pos (by simp;omega),Zi]
 unfold z139.j3 decTxt
 simp
theorem Qo9:∀{a:J1} (b:J1),Q1 a->cutDot (a++46::b)=(a,some b)
 |[],b,_=>rfl
 |
  x::a,b,h=>by
  have hx:=h x (by simp)
  have ih:=Qo9 (a:=a) b λy hy=>h y (by simp [hy])
  show cutDot (x::(a++46::b))=_
  unfold cutDot
  rw [if_neg (by rintro rfl;unfold digit at hx;simp at hx),ih]
theorem Qt9 {n k:Nat} (hk:0<k/\k<=64) (hl:(txt n).length<=1000):mDec (decTxt n k)=((n:Int),k,0):=by
 have pl:=Qio n k
 have pd:=Qsj n k
 have hda:Q1 ((padded n k).take ((padded n k).length-k)):=λb hb=>pd b (Z65 hb)
 have hdb:Q1 ((padded n k).drop ((padded n k).length-k)):=λb hb=>pd b (Z98 hb)
 have la:((padded n k).take ((padded n k).length-k)).length=(padded n k).length-k:=by rw [Z8];omega
 have lb':((padded n k).drop ((padded n k).length-k)).length=k:=by rw [Z34];omega
 have hcat:(padded n k).take ((padded n k).length-k)++(padded n k).drop ((padded n k).length-k)=padded n k:=List.take_append_drop _ _
 have hlead:(decide (1<((padded n k).take ((padded n k).length-k)).length)&&decide ((((padded n k).take ((padded n k).length-k)).getD 0 0).toNat=48))=false:=by
  by_cases h1:1<((padded n k).take ((padded n k).length-k)).length
  ·rw [la] at h1
   have h2:k+1<(padded n k).length:=by omega
   have h0:k+1-(txt n).length=0:=by
    unfold padded at h2
    rw [Z9,Z79] at h2;omega
   have e:padded n k=txt n:=by unfold padded;rw [h0];rfl
   have hn:n≠0:=by
    rintro rfl
    rw [e] at h2
    have:(txt 0).length=1:=rfl
    omega
   obtain ⟨b,s,ht,hb⟩:=Qls hn
   rw [e,ht]
   have:(((b::s).take ((b::s).length-k)).getD 0 0).toNat=b.toNat:=by
    rw [e,ht] at h2
    have:(b::s).length-k=((b::s).length-k-1)+1:=by omega
    rw [this,List.take_succ_cons];rfl
   rw [this,Zf hb,Bool.and_false]
  ·rw [Zf h1,Z71]
 have hlen:(decTxt n k).length=(padded n k).length+1:=by
  unfold decTxt;rw [Z9,Z10,la,lb'];omega
 have hneg:cutNeg (decTxt n k)=(decTxt n k,false):=by
  have hne:(padded n k).take ((padded n k).length-k)≠[]:=λh=>by rw [h] at la;simp at la;omega
  unfold decTxt
  cases hc:(padded n k).take ((padded n k).length-k) with
  |nil=>exact absurd hc hne
  |
   cons b t=>
   have hb:=hda b (by rw [hc];simp)
   unfold digit at hb
   unfold cutNeg
   simp only [List.cons_append]
   rw [if_neg (by rintro rfl;simp at hb)]
 have hpa:plainB ((padded n k).take ((padded n k).length-k))=true:=by
  unfold plainB;rw [Qa2.2 hda,Zf (λh=>by rw [h] at la;simp at la;omega)];rfl
 have hpb:plainB ((padded n k).drop ((padded n k).length-k))=true:=by
  unfold plainB;rw [Qa2.2 hdb,Zf (λh=>by rw [h] at lb';simp at lb';omega)];rfl
 unfold mDec
 rw [if_neg (by omega),hneg]
 have hcut:cutDot (decTxt n k)=((padded n k).take ((padded n k).length-k),some ((padded n k).drop ((padded n k).length-k))):=Qo9 _ hda
 rw [hcut]
 unfold Qa7
 simp only [Option.isSome_some,Z75,Z51,hpa,hpb,hlead,Zn,Bool.or_false,Z71]
 rw [if_neg (by simp),if_neg (by simp),if_neg (by omega),hcat,Qwv,lb',if_neg (by simp)]
theorem shr2 (a:Int):Int.fdiv a (2^(min 2 (64:Nat)))=a/4:=by
 rw [Z84 _ (by decide)];rfl
theorem shr4 (a:Int):Int.fdiv a (2^(min 4 (64:Nat)))=a/16:=by
 rw [Z84 _ (by decide)];rfl
theorem Qat {a b:Int} (ha:0<=a) (hb:0<b):Int.tmod a b=a%b/\0<=a%b/\a%b<b:=⟨Jh ha,Int.emod_nonneg a (by omega),Int.emod_lt_of_pos a hb⟩
structure Good (t:Tm) (most:Int):Prop where
 money:∃n:Nat,t.p=txt n/\0<n/\n<=10^30
 rate:∃n k:Nat,t.r=decTxt n k/\n<100000/\2<=k/\k<=8
 kinds:kindsOK t
 date:right t.y t.m t.d
 year:t.y<=9000
 count:1<=t.count/\t.count<=most
theorem Qx2 {a0 a1 a2 a3 a4 a5 a6 a7 a8 a9 a10 a11 most:Int} (h0:0<=a0/\a0<18446744073709551616) (h1:0<=a1/\a1<65536) (h2:0<=a2/\a2<4294967296) (h3:0<=a3/\a3<256) (h4:0<=a4/\a4<256) (h5:0<=a5/\a5<256)
  (h6:0<=a6/\a6<256) (h7:0<=a7/\a7<256) (h8:0<=a8/\a8<256) (hm:1<=most/\most<=1000) :
  ∃t:Tm,Good t most/\z140.F a0 a1 a2 a3 a4 a5 a6 a7 a8 a9 a10 a11 most=some (t.p,t.r,t.kind,t.basis,t.mode,t.y,t.m,t.d,t.every,t.count):=by
 obtain ⟨y,m,d,ed,hd,hy⟩:=Qrz (a:=a9) (b:=a10) (c:=a11) (n:=9000) (by omega)
 have w8:wr .i64 a8=a8:=Qe (by omega) (by omega)
 have t8:=Qat h8.1 (show (0:Int)<7 by decide)
 have t7:=Qat h7.1 (show 0<most by omega)
 have t6:=Qat h6.1 (show (0:Int)<5 by decide)
 have t5:=Qat h5.1 (show (0:Int)<3 by decide)
 have t4:=Qat h4.1 (show (0:Int)<3 by decide)
 have t3:=Qat h3.1 (show (0:Int)<7 by decide)
 have t2:=Qat h2.1 (show (0:Int)<100000 by decide)
 have hev:Qcs ([(1:Int),(1:Int),(2:Int),(3:Int),(4:Int),(6:Int),(12:Int)].getD (a8%7).toNat 0):=by
  have:a8%7=0\/a8%7=1\/a8%7=2\/a8%7=3\/a8%7=4\/a8%7=5\/a8%7=6:=by omega
  rcases this with h|h|h|h|h|h|h<;>rw [h]<;>decide
 have hp:∀(x:Int) (p:J1),(∃n:Nat,p=txt n/\0<n/\n<=10^30)->Good ⟨p,decTxt (a2%100000).toNat (a3%7+2).toNat,a4%3,a5%3,a6%5,y,m,d,[(1:Int),(1:Int),(2:Int),(3:Int),(4:Int),(6:Int),(12:Int)].getD (a8%7).toNat 0,1+a7%most⟩ most:=λx p h=>{
  money:=h
  rate:=⟨_,_,rfl,by omega,by omega,by omega⟩
  kinds:=⟨by show 0<=a4%3/\a4%3<=2;omega,by show 0<=a5%3/\a5%3<=2;omega,by show 0<=a6%5/\a6%5<=4;omega,hev⟩
  date:=hd
  year:=hy
  count:=by show 1<=1+a7%most/\1+a7%most<=most;omega}
 have hrate:∀{α:Type} (f:J1->Option α),((z11.F (Int.tmod (wr .i64 a2) 100000)).bind λr7=>((z139.F r7.1 r7.2 (wr .i64 (Int.tmod (wr .i64 a3) 7+2))).bind λr8=>f r8))=f (decTxt (a2%100000).toNat (a3%7+2).toNat):=λf=>by
  rw [Qe (n:=a2) (by omega) (by omega),Qe (n:=a3) (by omega) (by omega),t2.1,t3.1,Qe (n:=a3%7+2) (by omega) (by omega),Qe9 (by omega)]
  simp only [Zb]
  have e1:neg (a2%100000)=false:=Zf (by omega)
  have e2:(a2%100000).natAbs=(a2%100000).toNat:=by omega
  have e3:a3%7+2=((a3%7+2).toNat:Int):=by omega
  have l1:(dg (a2%100000).toNat).length<=5:=Yh b4 (Z14 (show (a2%100000).toNat<100000 by omega) (by decide))
  have l2:(txt (a2%100000).toNat).length<=5:=Qcd (show (a2%100000).toNat<10^5 by omega) (by decide)
  rw [e1,e2]
  conv=>lhs;rw [e3]
  rw [Qru (by omega) (by omega) (by omega)]
  rfl
 have e11:((Int.natAbs 100000000000:Nat))=100000000000:=rfl
 unfold z140.F
 rw [w8,t8.1,if_pos ⟨t8.2.1,by simp;omega⟩,if_neg (by omega),ed]
 simp only [Zb]
 rw [shr2,shr4,Qe (n:=a0/4) (by omega) (by omega),Qe (n:=a0/4+1) (by omega) (by omega),Qe (n:=a0/16) (by omega) (by omega),Qe (n:=a0/16+1) (by omega) (by omega)]
 rw [Qe (n:=a4) (by omega) (by omega),Qe (n:=a5) (by omega) (by omega),Qe (n:=a6) (by omega) (by omega),Qe (n:=a7) (by omega) (by omega),t4.1,t5.1,t6.1,t7.1,Qe (n:=1+a7%most) (by omega) (by omega)]
 rw [Qe9 (z:=a0/4+1) (by omega)]
 simp only [Zb]
 by_cases hc:a1>60000
 ·rw [bif_t hc,Qe9 (by omega)]
  simp only [Zb]
  rw [Qe9 (by omega)]
  simp only [Zb]
  have g1:(dg (a0/16+1).natAbs).length<=20:=Z11 (Qen _) (sz_le (by omega))
  have g2:(dg (Int.natAbs 100000000000)).length<=20:=Z11 (Qen _) (sz_le (by decide))
  have hb:((a0/16+1)*100000000000).natAbs=(a0/16+1).toNat*100000000000:=by omega
  have g3:(dg ((a0/16+1)*100000000000).natAbs).length<=40:=Z11 (Qen _) (sz_le (by omega))
  have g4:(txt ((a0/16+1)*100000000000).natAbs).length<=40:=Qcd (by omega) (by decide)
  rw [Qvv (by omega)]
  simp only [Zb]
  rw [Qo7 (by omega) (by omega),if_neg (by omega)]
  simp only [Zb]
  refine ⟨_,hp 0 (txt ((a0/16+1)*100000000000).natAbs) ⟨_,rfl,by omega,by omega⟩,?_⟩
  rw [hrate]
 ·rw [Qb hc]
  have g3:(dg (a0/4+1).natAbs).length<=20:=Z11 (Qen _) (sz_le (by omega))
  have g4:(txt (a0/4+1).natAbs).length<=20:=Qcd (by omega) (by decide)
  rw [Qo7 (by omega) (by omega),if_neg (by omega)]
  simp only [Zb]
  refine ⟨_,hp 0 (txt (a0/4+1).natAbs) ⟨_,rfl,by omega,by omega⟩,?_⟩
  rw [hrate]
theorem Good.moneyOK {t:Tm} {most:Int} (h:Good t most):(mMoney t.p).2=0/\(mMoney t.p).1≠0:=by
 obtain ⟨n,e,h1,h2⟩:=h.money
 rw [e,Qf8 h2]
 exact ⟨rfl,by show (n:Int)≠0;omega⟩
theorem Good.rateOK {t:Tm} {most:Int} (h:Good t most):(mRate t.r).2=0:=by
 obtain ⟨n,k,e,h1,h2,h3⟩:=h.rate
 have hl:(txt n).length<=5:=Qcd (Z14 h1 (by decide)) (by decide)
 have hk:10^2<=10^k:=Z33 (by decide) h2
 rw [e]
 unfold mRate
 rw [Qt9 (by omega) (by omega)]
 rw [if_neg (by simp),if_neg (by simp only;omega)]
theorem Good.check {t:Tm} {most:Int} (h:Good t most) (hm:t.every*t.count<=11000) (hc:most<=1200):mCheck t=0:=by
 have g:=Wm h.date
 have hb:=Qg9 h.kinds.2.2.2 (c:=t.count) ⟨h.count.1,by have:=h.count.2;omega⟩
 have hy:=h.year
 have hcc:=h.count
 unfold mCheck
 rw [if_neg (λhh=>hh h.moneyOK.1),if_neg h.moneyOK.2,if_neg (λhh=>hh h.rateOK),if_neg (λhh=>hh h.kinds),if_neg (by omega),if_pos ⟨h.date,by omega⟩]
abbrev D3:=Int×Int×Int
def dv (x:D3):List V:=[.int .i64 x.1,.int .i64 x.2.1,.int .i64 x.2.2]
def pv (x:D3×D3):List V:=[.int .i64 x.1.1,.int .i64 x.1.2.1,.int .i64 x.1.2.2,.int .i64 x.2.1,.int .i64 x.2.2.1,.int .i64 x.2.2.2]
abbrev rightD (x:D3):Prop:=right x.1 x.2.1 x.2.2
abbrev numD (x:D3):Int:=num x.1 x.2.1 x.2.2
theorem asD0 {R:Type} (x:D3) (K:Int->Option R):V.asInt .i64 ((dv x).getD 0 .undef) K=K x.1:=by simp [dv,V.asInt]
theorem asD1 {R:Type} (x:D3) (K:Int->Option R):V.asInt .i64 ((dv x).getD 1 .undef) K=K x.2.1:=by simp [dv,V.asInt]
theorem asD2 {R:Type} (x:D3) (K:Int->Option R):V.asInt .i64 ((dv x).getD 2 .undef) K=K x.2.2:=by simp [dv,V.asInt]
theorem asP0 {R:Type} (x:D3×D3) (K:Int->Option R):V.asInt .i64 ((pv x).getD 0 .undef) K=K x.1.1:=by simp [pv,V.asInt]
theorem asP1 {R:Type} (x:D3×D3) (K:Int->Option R):V.asInt .i64 ((pv x).getD 1 .undef) K=K x.1.2.1:=by simp [pv,V.asInt]
theorem asP2 {R:Type} (x:D3×D3) (K:Int->Option R):V.asInt .i64 ((pv x).getD 2 .undef) K=K x.1.2.2:=by simp [pv,V.asInt]
theorem asP3 {R:Type} (x:D3×D3) (K:Int->Option R):V.asInt .i64 ((pv x).getD 3 .undef) K=K x.2.1:=by simp [pv,V.asInt]
theorem asP4 {R:Type} (x:D3×D3) (K:Int->Option R):V.asInt .i64 ((pv x).getD 4 .undef) K=K x.2.2.1:=by simp [pv,V.asInt]
theorem asP5 {R:Type} (x:D3×D3) (K:Int->Option R):V.asInt .i64 ((pv x).getD 5 .undef) K=K x.2.2.2:=by simp [pv,V.asInt]
theorem Qam {α:Type} (f:α->List V) {l:List α} {i:Nat} (h:i<l.length):(l.map f).getD i []=f l[i]:=by
 simp [List.getD,h]
def Yd (y m d step:Int) (n:Nat):List D3:=(List.range n).map λk:Nat=>addM y m d ((k+1:Nat)*step)
theorem Qoq (y m d step:Int) (n:Nat):(Yd y m d step n).length=n:=by simp [Yd]
theorem Qfv {y m d step:Int} {n i:Nat} (h:i<(Yd y m d step n).length):(Yd y m d step n)[i]=addM y m d ((i+1:Nat)*step):=by simp [Yd]
theorem Qxc (y m d step:Int) (n:Nat):Yd y m d step (n+1)=Yd y m d step n++[addM y m d ((n+1:Nat)*step)]:=by
 unfold Yd;rw [List.range_succ,Z68];rfl
theorem Qn0 {y m k k':Int} (h:okM y m k) (h0:0<=k') (hk:k'<=k) (hm:12<=(12*y+m-1)):okM y m k':=by omega
theorem Qpd {y m d step:Int} {n:Nat} (hr:right y m d) (hs:1<=step/\step<=12) (hn:n<=1200) (ho:okM y m (n*step)):∀(f k:Nat),k+f=n ->
  Runs (λrec x=>z128.l0P step (n:Int) y m d rec some x) (((k+1:Nat):Int),(Yd y m d step k).map dv) (.inl (((n+1:Nat):Int),(Yd y m d step n).map dv))
 |
  0,k,hk=>by
  have:k=n:=by omega
  subst this
  refine .done λrec=>?_
  unfold z128.l0P
  simp only
  rw [Qb (by omega)]
 |
  f+1,k,hk=>by
  have g:=Wm hr
  have ih:=Qpd hr hs hn ho f (k+1) (by omega)
  have hb:((k+1:Nat):Int)*step<=n*step:=Z60 (by omega) (by omega)
  have hb0:0<=((k+1:Nat):Int)*step:=Z43 (by omega) (by omega)
  have hb1:(n:Int)*step<=1200*12:=Z101 (by omega) (by omega) (by omega) (by omega)
  refine .step (λrec=>?_) ih
  unfold z128.l0P
  simp only
  rw [bif_t (by omega),if_neg (by omega),Qe (n:=((k+1:Nat):Int)*step) (by omega) (by omega),month_Add,if_pos ⟨hr,Qn0 ho hb0 hb (by omega)⟩]
  simp only [Zb,decide_true,Zn,Zc]
  rw [if_pos (by rw [Z18,Qoq];simp;omega),Qe (by omega) (by omega),Qxc,Z68]
  rfl
theorem month_Series {y m d step:Int} {n:Nat} (hr:right y m d) (hs:1<=step/\step<=12) (hn:n<=1200) (ho:okM y m (n*step)):z128.F y m d step (n:Int)=some ((Yd y m d step n).map dv,0):=by
 have e:z128.l0 step (n:Int) y m d ((1:Int),[])=some (.inl (((n+1:Nat):Int),(Yd y m d step n).map dv)):=(Qpd hr hs hn ho n 0 (by omega)).lfp
 unfold z128.F z128.j1
 rw [Qb (by omega),Qb (by omega),Qb (by omega),date_Check]
 simp only [Zb]
 rw [if_pos hr,e]
 rfl
def Tm.dates (t:Tm):List D3:=Yd t.y t.m t.d t.every t.count.toNat
theorem Yo {t:Tm} (h:mCheck t=0):kindsOK t/\(1<=t.count/\t.count<=1200)/\right t.y t.m t.d/\okM t.y t.m (t.every*t.count):=by
 unfold mCheck at h
 split at h
 ·exact absurd h ‹_›
 ·split at h
  ·simp at h
  ·split at h
   ·exact absurd h ‹_›
   ·split at h
    ·simp at h
    ·rename_i hk
     split at h
     ·simp at h
     ·split at h
      ·rename_i h5 h6
       exact ⟨Decidable.not_not.1 hk,by omega,h6.1,h6.2⟩
      ·simp at h
theorem Qd2 {e:Int} (h:Qcs e):1<=e/\e<=12:=by omega
theorem dues_Dates (t:Tm):z129.F t.p t.r t.kind t.basis t.mode t.y t.m t.d t.every t.count=some (if mCheck t=0 then (t.dates.map dv,0) else ([],mCheck t)):=by
 unfold z129.F
 rw [terms_Check]
 simp only [Zb]
 by_cases h:mCheck t=0
 ·obtain ⟨hk,hc,hr,ho⟩:=Yo h
  have he:=Qd2 hk.2.2.2
  have ec:t.count=(t.count.toNat:Int):=by omega
  rw [Zt h,if_pos h]
  simp only [Zn,Zc]
  have hs:=month_Series (y:=t.y) (m:=t.m) (d:=t.d) (step:=t.every) (n:=t.count.toNat) hr he (by omega) (by rw [<-ec,Z82];exact ho)
  rw [<-ec] at hs
  rw [hs];rfl
 ·rw [Zf h,if_neg h];rfl
def pairs (a:D3):List D3->List (D3×D3)
 |[]=>[]
 |b::l=>(a,b)::pairs b l
theorem Qc7:∀(a:D3) (l:List D3),(pairs a l).length=l.length
 |_,[]=>rfl
 |a,b::l=>by simp [pairs,Qc7 b l]
theorem Qg0:∀(a:D3) (l:List D3) (i:Nat) (h:i<(pairs a l).length) (h':i<l.length),(pairs a l)[i]=((if h0:i=0 then a else l[i-1]'(by omega)),l[i])
 |a,b::l,0,_,_=>by simp [pairs]
 |
  a,b::l,i+1,h,h'=>by
  have ih:=Qg0 b l i (by rw [Qc7];simp at h';omega) (by simp at h';omega)
  simp only [pairs,List.getElem_cons_succ]
  rw [ih]
  cases i with
  |zero=>simp
  |succ i=>simp
theorem Qmo {l:List D3} (hl:l.length<=2000):∀(f i:Nat) (s:J2) (a:D3),i+f=l.length->s.length=i ->
  ∃z,Runs (λrec x=>z130.l0P (l.map dv) (l.length:Int) rec some x) ((i:Int),s,a.1,a.2.1,a.2.2) ((l.length:Int),s++(pairs a (l.drop i)).map pv,z)
 |
  0,i,s,a,hf,hs=>by
  have:i=l.length:=by omega
  refine ⟨(a.1,a.2.1,a.2.2),.done λrec=>?_⟩
  ·unfold z130.l0P
   simp only
   rw [Qb (by omega),Z21 (by omega),this];simp [pairs]
 |
  f+1,i,s,a,hf,hs=>by
  have hi:i<l.length:=by omega
  obtain ⟨z,r⟩:=Qmo hl f (i+1) (s++[pv (a,l[i])]) l[i] (by omega) (by simp;omega)
  refine ⟨z,.step (λrec=>?_) (by rw [Z38 hi];simp only [pairs,List.map_cons];rw [<-List.append_cons] at r;exact r)⟩
  unfold z130.l0P
  simp only
  rw [bif_t (by omega),if_pos (by rw [Z18];omega),Zi,Qam dv hi]
  rw [asD0,asD1,asD2,if_pos (by simp;omega),Qe (by omega) (by omega)]
  rfl
def Tm.start (t:Tm):D3:=(t.y,t.m,t.d)
def Tm.periods (t:Tm):List (D3×D3):=pairs t.start t.dates
theorem Tm.dates_len (t:Tm):t.dates.length=t.count.toNat:=Qoq _ _ _ _ _
theorem dues_Periods (t:Tm):z130.F t.p t.r t.kind t.basis t.mode t.y t.m t.d t.every t.count=some (if mCheck t=0 then (t.periods.map pv,0) else ([],mCheck t)):=by
 unfold z130.F
 rw [dues_Dates]
 simp only [Zb]
 by_cases h:mCheck t=0
 ·obtain ⟨hk,hc,hr,ho⟩:=Yo h
  rw [if_pos h,if_pos h]
  simp only [decide_true,Zn,Zc,Z18]
  have hl:=t.dates_len
  obtain ⟨z,r⟩:=Qmo (l:=t.dates) (by omega) t.dates.length 0 [] t.start (by omega) rfl
  have e:z130.l0 (t.dates.map dv) (t.dates.length:Int) ((0:Int),[],t.y,t.m,t.d)=_:=r.lfp
  rw [e]
  rfl
 ·rw [if_neg h,if_neg h]
  simp only
  rw [Zf h];rfl
abbrev cmpD (x y:D3):Int:=dcmp x.1 x.2.1 x.2.2 y.1 y.2.1 y.2.2
theorem Qmz {y m d k k':Int} (h:right y m d) (h1:okM y m k) (h2:okM y m k') (hlt:k<k'):numD (addM y m d k)<numD (addM y m d k'):=by
 refine Qim (Qhc h h1) (Qhc h h2) ?_
 show ((12*y+m-1)+k)/12<((12*y+m-1)+k')/12\/((12*y+m-1)+k)/12=((12*y+m-1)+k')/12/\(((12*y+m-1)+k)%12+1<((12*y+m-1)+k')%12+1\/_)
 omega
theorem Qrx {y m d:Int} (h:right y m d):addM y m d 0=(y,m,d):=by
 have g:=Wm h
 unfold addM
 have e1:((12*y+m-1)+0)/12=y:=by omega
 have e2:((12*y+m-1)+0)%12+1=m:=by omega
 rw [e1,e2]
 have:=h.2
 congr 2;omega
structure Qsp (t:Tm):Prop where
 right:∀j (h:j<t.dates.length),rightD t.dates[j]
 start:rightD t.start
 first:∀j (h:j<t.dates.length),numD t.start<numD t.dates[j]
 lt:∀i j (hi:i<t.dates.length) (hj:j<t.dates.length),i<j->numD t.dates[i]<numD t.dates[j]
theorem Qh7 {t:Tm} (h:mCheck t=0):Qsp t:=by
 obtain ⟨hk,hc,hr,ho⟩:=Yo h
 have he:=Qd2 hk.2.2.2
 have hl:=t.dates_len
 have g:=Wm hr
 have key:∀j:Nat,j<t.dates.length->okM t.y t.m ((j+1:Nat)*t.every)/\0<((j+1:Nat):Int)*t.every:=λj hj=>by
  have a1:((j+1:Nat):Int)*t.every<=t.count*t.every:=Z60 (by omega) (by omega)
  have a2:0<((j+1:Nat):Int)*t.every:=Int.mul_pos (by omega) (by omega)
  rw [Z82 t.count] at a1
  exact ⟨Qn0 ho (by omega) a1 (by omega),a2⟩
 have h0:okM t.y t.m 0:=by omega
 refine ⟨λj hj=>?_,hr,λj hj=>?_,λi j hi hj hij=>?_⟩
 ·have e:t.dates[j]=addM t.y t.m t.d ((j+1:Nat)*t.every):=Qfv hj
  rw [e];exact Qhc hr (key j hj).1
 ·have e:t.dates[j]=addM t.y t.m t.d ((j+1:Nat)*t.every):=Qfv hj
  have z:t.start=addM t.y t.m t.d 0:=(Qrx hr).symm
  rw [e,z];exact Qmz hr h0 (key j hj).1 (key j hj).2
 ·have e:t.dates[j]=addM t.y t.m t.d ((j+1:Nat)*t.every):=Qfv hj
  have e':t.dates[i]=addM t.y t.m t.d ((i+1:Nat)*t.every):=Qfv hi
  rw [e,e']
  exact Qmz hr (key i hi).1 (key j hj).1 (Int.mul_lt_mul_of_pos_right (by omega) (by omega))
theorem Yk {x y:D3} (hx:rightD x) (hy:rightD y):cmpD x y=cmpI (numD x) (numD y):=Qpc hx hy
theorem mCheck_iff (t:Tm):mCheck t=0↔((mMoney t.p).2=0/\(mMoney t.p).1≠0)/\(mRate t.r).2=0/\kindsOK t/\(1<=t.count/\t.count<=1200)/\right t.y t.m t.d/\okM t.y t.m (t.every*t.count):=by
 constructor
 ·intro h
  have h':=Yo h
  unfold mCheck at h
  split at h
  ·exact absurd h ‹_›
  ·split at h
   ·simp at h
   ·split at h
    ·exact absurd h ‹_›
    ·rename_i h1 h2 h3
     exact ⟨⟨Decidable.not_not.1 h1,h2⟩,Decidable.not_not.1 h3,h'⟩
 ·rintro ⟨⟨h1,h2⟩,h3,h4,h5,h6,h7⟩
  unfold mCheck
  rw [if_neg (λhh=>hh h1),if_neg h2,if_neg (λhh=>hh h3),if_neg (λhh=>hh h4),if_neg (by omega),if_pos ⟨h6,h7⟩]
theorem Qg8 {s:J0} {i:Nat} {x:Int}:(s.set i x).drop (i+1)=s.drop (i+1):=by
 apply List.ext_getElem?
 intro j
 rw [List.getElem?_drop,List.getElem?_drop,Z99 (by omega)]
set_option maxRecDepth 100000 in
theorem Qyj:∃tab:J1,tab.length=256 /\
  (∀x j,z36.j8 x j=if (0:Int)<=wr .u8 x/\wr .u8 x<(tab.length:Int) then some (wr .i64 (j+wr .i64 ((tab.getD (wr .u8 x).toNat 0).toNat:Int))) else none) /\
  (∀x j,z36.j10 x j=if (0:Int)<=wr .u8 x/\wr .u8 x<(tab.length:Int) then some (wr .i64 (j+wr .i64 ((tab.getD (wr .u8 x).toNat 0).toNat:Int))) else none) /\
  ∀x:Fin 256,0<x.1->1<=(tab.getD x.1 0).toNat/\(tab.getD x.1 0).toNat<=8/\2^((tab.getD x.1 0).toNat-1)<=x.1/\x.1<2^(tab.getD x.1 0).toNat:=
 ⟨_,rfl,λx j=>rfl,λx j=>rfl,by decide⟩
theorem Qfu {x:Nat} (h0:0<x) (h:x<256) {j:Nat} (hj:j<=1000):∃n,n<=7/\2^n<=x/\x<2^(n+1)/\z36.j8 x j=some ((j+n+1:Nat):Int)/\z36.j10 x j=some ((j+n+1:Nat):Int):=by
 obtain ⟨tab,hl,h1,h2,ht⟩:=Qyj
 obtain ⟨t1,t2,t3,t4⟩:=ht ⟨x,h⟩ h0
 simp only at t1 t2 t3 t4
 obtain ⟨n,hn⟩:∃n,(tab.getD x 0).toNat=n+1:=⟨_,(Nat.sub_add_cancel t1).symm⟩
 rw [hn] at t2 t3 t4
 have hw:wr .u8 (x:Int)=x:=Qiq (by omega) (by omega)
 refine ⟨n,by omega,by simpa using t3,t4,?_,?_⟩
 ·rw [h1,hw,if_pos (by omega),Zi,hn,Qe (n:=((n+1:Nat):Int)) (by omega) (by omega),Qe (by omega) (by omega)]
  congr 1
 ·rw [h2,hw,if_pos (by omega),Zi,hn,Qe (n:=((n+1:Nat):Int)) (by omega) (by omega),Qe (by omega) (by omega)]
  congr 1
theorem Jz (n k:Nat):Int.fdiv (n:Int) (2^k)=((n/2^k:Nat):Int):=by
 rw [Z84 _ (by exact_mod_cast Z89 (2^k))]
 push_cast;rfl
theorem Qc5 {x n k:Nat} (h1:2^n<=x/2^k) (h2:x/2^k<2^(n+1)):2^(n+k)<=x/\x<2^(n+k+1):=by
 have hp:=Nat.pos_of_ne_zero (show 2^k≠0 by exact Nat.ne_of_gt (Z64 k))
 have:=(Z70 hp).1 h1
 have:=(Z80 hp).1 h2
 rw [Z97,show n+k+1=(n+1)+k by omega,Z97]
 omega
set_option maxRecDepth 100000 in
theorem Qn6 {x:Nat} (h0:0<x) (h:x<4294967296) {j:Nat} (hj:j<=100):∃n,n<=31/\2^n<=x/\x<2^(n+1)/\z36.j2 x j=some ((j+n+1:Nat):Int):=by
 unfold z36.j2
 rw [show min 16 64=16 from rfl,show min 8 64=8 from rfl,Jz,Jz,Jz]
 by_cases h1:65536<=x
 ·rw [bif_t (by omega),Qe (n:=(j:Int)+16) (by omega) (by omega),Qe (n:=(j:Int)+16+8) (by omega) (by omega)]
  have b1:0<x/2^16/\x/2^16<65536:=by omega
  by_cases h2:256<=x/2^16
  ·rw [bif_t (by omega)]
   obtain ⟨n,n1,n2,n3,n4,_⟩:=Qfu (x:=x/2^16/2^8) (by omega) (by omega) (j:=j+24) (by omega)
   obtain ⟨m2,m3⟩:=Qc5 n2 n3
   obtain ⟨m2,m3⟩:=Qc5 (n:=n+8) m2 m3
   refine ⟨n+8+16,by omega,m2,m3,?_⟩
   refine (congrArg (z36.j8 _) (show ((j:Int)+16+8)=((j+24:Nat):Int) by omega)).trans (n4.trans ?_)
   congr 2;omega
  ·rw [Qb (by omega)]
   obtain ⟨n,n1,n2,n3,n4,_⟩:=Qfu (x:=x/2^16) (by omega) (by omega) (j:=j+16) (by omega)
   obtain ⟨m2,m3⟩:=Qc5 n2 n3
   refine ⟨n+16,by omega,m2,m3,?_⟩
   refine (congrArg (z36.j8 _) (show ((j:Int)+16)=((j+16:Nat):Int) by omega)).trans (n4.trans ?_)
   congr 2;omega
 ·rw [Qb (by omega)]
  by_cases h2:256<=x
  ·rw [bif_t (by omega),Qe (n:=(j:Int)+8) (by omega) (by omega)]
   obtain ⟨n,n1,n2,n3,_,n4⟩:=Qfu (x:=x/2^8) (by omega) (by omega) (j:=j+8) (by omega)
   obtain ⟨m2,m3⟩:=Qc5 n2 n3
   refine ⟨n+8,by omega,m2,m3,?_⟩
   refine (congrArg (z36.j10 _) (show ((j:Int)+8)=((j+8:Nat):Int) by omega)).trans (n4.trans ?_)
   congr 2;omega
  ·rw [Qb (by omega)]
   obtain ⟨n,n1,n2,n3,_,n4⟩:=Qfu (x:=x) (by omega) (by omega) (j:=j) (by omega)
   exact ⟨n,by omega,n2,n3,n4⟩
theorem bits_Len64 {x:Nat} (h0:0<x) (h:x<18446744073709551616):∃n,n<=63/\2^n<=x/\x<2^(n+1)/\z36.F x=some ((n+1:Nat):Int):=by
 unfold z36.F
 rw [show min 32 64=32 from rfl,Jz]
 by_cases h1:4294967296<=x
 ·rw [bif_t (by omega)]
  obtain ⟨n,n1,n2,n3,n4⟩:=Qn6 (x:=x/2^32) (by omega) (by omega) (j:=32) (by omega)
  obtain ⟨m2,m3⟩:=Qc5 n2 n3
  refine ⟨n+32,by omega,m2,m3,?_⟩
  refine n4.trans ?_
  congr 2;omega
 ·rw [Qb (by omega)]
  obtain ⟨n,n1,n2,n3,n4⟩:=Qn6 (x:=x) (by omega) (by omega) (j:=0) (by omega)
  refine ⟨n,by omega,n2,n3,?_⟩
  refine n4.trans ?_
  congr 2;omega
theorem Qpq {x:Nat} (h0:0<x) (h:x<18446744073709551616):∃s,s<=63/\9223372036854775808<=x*2^s/\x*2^s<18446744073709551616/\z37.F x=some ((s:Nat):Int):=by
 obtain ⟨n,n1,n2,n3,n4⟩:=bits_Len64 h0 h
 have e1:2^n*2^(63-n)=9223372036854775808:=by rw [<-Z97,show n+(63-n)=63 by omega]
 have e2:2^(n+1)*2^(63-n)=18446744073709551616:=by rw [<-Z97,show n+1+(63-n)=64 by omega]
 refine ⟨63-n,by omega,?_,?_,?_⟩
 ·rw [<-e1];exact Z3 _ n2
 ·rw [<-e2];exact Z81 n3 (Z64 _)
 ·unfold z37.F
  rw [n4]
  simp only [Zb]
  rw [Qe (by omega) (by omega)]
  congr 1;omega
end Go.Proofs.YtihfdjkjpncjfaaGreatDoor.A
end
section
set_option linter.unusedSectionVars false
namespace Go.Proofs.YtihfdjkjpncjfaaGreatDoor.A
open Go
structure Qd0 (y1 y0 u u0:Nat) (q r:Nat):Prop where
 eq:q*y1+r=u
 ge:(u*4294967296+u0)/(y1*4294967296+y0)<=q
 le:q<=4294967297
 lt:r<4294967296
theorem Qei (B:Nat) {y1 y0 u q r:Nat} (he:q*y1+r=u):q*(y1*B+y0)+r*B=u*B+q*y0:=by
 rw [<-he,Z19,Z111,Z46]
 omega
theorem Qxi {B A A2 u u0 r:Nat} (h:A+r*B=u*B+A2) (hc:r*B+u0<A2):u*B+u0<A:=by omega
section
variable {y1 y0 u u0:Nat} (h1:2147483648<=y1) (h1':y1<4294967296) (h0:y0<4294967296) (hu:u<y1*4294967296+y0) (hu0:u0<4294967296)
include h1 h1' h0 hu hu0
theorem Qs7:Qd0 y1 y0 u u0 (u/y1) (u%y1):=by
 have hy:0<y1:=by omega
 refine ⟨by rw [Z25];exact Z63 u y1,?_,?_,?_⟩
 ·rw [Z70 hy]
  have hd:=Nat.div_mul_le_self (u*4294967296+u0) (y1*4294967296+y0)
  generalize (u*4294967296+u0)/(y1*4294967296+y0)=Q at *
  rw [Z111,<-Z46] at hd
  generalize Q*y1=A at *
  generalize Q*y0=B at *
  omega
 ·have:u/y1<4294967298:=by
   rw [Z80 hy];omega
  omega
 ·have:=Z74 u hy;omega
theorem Qxw:(u*4294967296+u0)/(y1*4294967296+y0)<4294967296:=by
 rw [Z80 (by omega)];omega
theorem Qyg {q r:Nat} (h:Qd0 y1 y0 u u0 q r) (hc:4294967296<=q\/r*4294967296+u0<q*y0):(u*4294967296+u0)/(y1*4294967296+y0)<q:=by
 rcases hc with hc|hc
 ·exact Z14 (Qxw h1 h1' h0 hu hu0) hc
 ·have:=Qei 4294967296 (y0:=y0) h.eq
  have hlt:u*4294967296+u0<q*(y1*4294967296+y0):=Qxi this hc
  exact (Z80 (show 0<y1*4294967296+y0 by omega)).2 hlt
theorem Qo1 {q r:Nat} (he:q*y1+r=u) (ge:(u*4294967296+u0)/(y1*4294967296+y0)<=q) (hc:q*y0<=r*4294967296+u0):q=(u*4294967296+u0)/(y1*4294967296+y0):=by
 refine Nat.le_antisymm ?_ ge
 rw [Z70 (by omega)]
 have:=Qei 4294967296 (y0:=y0) he
 omega
theorem Qlu {q r:Nat} (h:Qd0 y1 y0 u u0 q r) (hc:(u*4294967296+u0)/(y1*4294967296+y0)<q):(q-1)*y1+(r+y1)=u/\(u*4294967296+u0)/(y1*4294967296+y0)<=q-1:=by
 generalize (u*4294967296+u0)/(y1*4294967296+y0)=Q at hc ⊢
 obtain ⟨k,rfl⟩:∃k,q=k+1:=⟨q-1,by omega⟩
 have:=h.eq
 rw [Z19] at this
 simp only [Nat.add_sub_cancel]
 omega
theorem Qyb {q r:Nat} (h:Qd0 y1 y0 u u0 q r) (hc:(u*4294967296+u0)/(y1*4294967296+y0)<q) (hr:4294967296<=r+y1):q-1=(u*4294967296+u0)/(y1*4294967296+y0):=by
 obtain ⟨n1,n2⟩:=Qlu h1 h1' h0 hu hu0 h hc
 refine Qo1 h1 h1' h0 hu hu0 n1 n2 ?_
 have hq:=h.le
 have:(q-1)*y0<=4294967296*4294967295:=Z112 (by omega) (by omega)
 omega
theorem Qkx {F:(Int×Int->Option (Int×Int))->Int×Int->Option (Int×Int)} (mk:Int->Int->Int×Int)
  (hF:∀(q r:Nat),q<=4294967297->r<4294967296->∀rec,F rec (mk q r) =
   if 4294967296<=q\/r*4294967296+u0<q*y0 then (if 4294967296<=r+y1 then some (mk ((q-1:Nat):Int) ((r+y1:Nat):Int)) else rec (mk ((q-1:Nat):Int) ((r+y1:Nat):Int))) else some (mk q r)) :
  ∃r:Nat,lfp F (mk ((u/y1:Nat):Int) ((u%y1:Nat):Int))=some (mk (((u*4294967296+u0)/(y1*4294967296+y0):Nat):Int) r):=by
 have key:∀(f q r:Nat),q<f->Qd0 y1 y0 u u0 q r->∃r':Nat,Runs F (mk q r) (mk (((u*4294967296+u0)/(y1*4294967296+y0):Nat):Int) r'):=by
  intro f
  induction f with
  |zero=>intro q r h;omega
  |
   succ f ih=>
   intro q r hq h
   by_cases hc:4294967296<=q\/r*4294967296+u0<q*y0
   ·have hlt:=Qyg h1 h1' h0 hu hu0 h hc
    by_cases hr:4294967296<=r+y1
    ·refine ⟨r+y1,.done λrec=>?_⟩
     rw [hF q r h.le h.lt,if_pos hc,if_pos hr,Qyb h1 h1' h0 hu hu0 h hlt hr]
    ·obtain ⟨n1,n2⟩:=Qlu h1 h1' h0 hu hu0 h hlt
     have hle:=h.le
     have hq1:0<q:=Nat.lt_of_le_of_lt (Z89 _) hlt
     obtain ⟨r',hr'⟩:=ih (q-1) (r+y1) (by omega) ⟨n1,n2,by omega,by omega⟩
     exact ⟨r',.step (λrec=>by rw [hF q r h.le h.lt,if_pos hc,if_neg hr]) hr'⟩
   ·refine ⟨r,.done λrec=>?_⟩
    rw [hF q r h.le h.lt,if_neg hc,<-Qo1 h1 h1' h0 hu hu0 h.eq h.ge (by omega)]
 obtain ⟨r',hr'⟩:=key (u/y1+1) _ _ (by omega) (Qs7 h1 h1' h0 hu hu0)
 exact ⟨r',hr'.lfp⟩
theorem Qms {q r:Nat} (hq:q<=4294967297) (hr:r<4294967296) (h:¬4294967296<=q):(wr .u64 ((q:Int)*y0)>wr .u64 (wr .u64 ((4294967296:Int)*r)+u0))↔r*4294967296+u0<q*y0:=by
 have hm:q*y0<=4294967295*4294967295:=Z112 (by omega) (by omega)
 rw [<-Z13 q y0,Qn (n:=((q*y0:Nat):Int)) (by omega) (by omega),Qn (n:=(4294967296:Int)*r) (by omega) (by omega),Qn (by omega) (by omega)]
 omega
theorem Qxj:∃r:Nat,z38.l0 y1 y0 u0 (((u/y1:Nat):Int),((u%y1:Nat):Int))=some ((((u*4294967296+u0)/(y1*4294967296+y0):Nat):Int),(r:Int)):=by
 refine Qkx h1 h1' h0 hu hu0 (λq r=>(q,r)) (F:=λrec x=>z38.l0P y1 y0 u0 rec some x) λq r hq hr rec=>?_
 simp only [z38.l0P]
 rw [Qn (n:=(r:Int)+y1) (by omega) (by omega)]
 by_cases hq2:4294967296<=q
 ·rw [bif_t (by omega),if_pos (.inl hq2),Qn (n:=(q:Int)-1) (by omega) (by omega)]
  by_cases hr2:4294967296<=r+y1
  ·rw [bif_t (by omega),if_pos hr2];congr 2<;>omega
  ·rw [Qb (by omega),if_neg hr2];congr 2<;>omega
 ·rw [Qb (by omega)]
  have ht:=Qms h1 h1' h0 hu hu0 hq hr hq2
  by_cases hc:r*4294967296+u0<q*y0
  ·have hq0:0<q:=Nat.pos_of_ne_zero λh=>by subst h;omega
   rw [bif_t (ht.2 hc),if_pos (.inr hc),Qn (n:=(q:Int)-1) (by omega) (by omega)]
   by_cases hr2:4294967296<=r+y1
   ·rw [bif_t (by omega),if_pos hr2];congr 2<;>omega
   ·rw [Qb (by omega),if_neg hr2];congr 2<;>omega
  ·rw [Qb (λh=>hc (ht.1 h)),if_neg (by omega)]
theorem Qq4:∃r:Nat,z38.l2 y1 y0 u0 (((u%y1:Nat):Int),((u/y1:Nat):Int))=some ((r:Int),(((u*4294967296+u0)/(y1*4294967296+y0):Nat):Int)):=by
 refine Qkx h1 h1' h0 hu hu0 (λq r=>(r,q)) (F:=λrec x=>z38.l2P y1 y0 u0 rec some x) λq r hq hr rec=>?_
 simp only [z38.l2P]
 rw [Qn (n:=(r:Int)+y1) (by omega) (by omega)]
 by_cases hq2:4294967296<=q
 ·rw [bif_t (by omega),if_pos (.inl hq2),Qn (n:=(q:Int)-1) (by omega) (by omega)]
  by_cases hr2:4294967296<=r+y1
  ·rw [bif_t (by omega),if_pos hr2];congr 2<;>omega
  ·rw [Qb (by omega),if_neg hr2];congr 2<;>omega
 ·rw [Qb (by omega)]
  have ht:=Qms h1 h1' h0 hu hu0 hq hr hq2
  by_cases hc:r*4294967296+u0<q*y0
  ·have hq0:0<q:=Nat.pos_of_ne_zero λh=>by subst h;omega
   rw [bif_t (ht.2 hc),if_pos (.inr hc),Qn (n:=(q:Int)-1) (by omega) (by omega)]
   by_cases hr2:4294967296<=r+y1
   ·rw [bif_t (by omega),if_pos hr2];congr 2<;>omega
   ·rw [Qb (by omega),if_neg hr2];congr 2<;>omega
  ·rw [Qb (λh=>hc (ht.1 h)),if_neg (by omega)]
end
end Go.Proofs.YtihfdjkjpncjfaaGreatDoor.A
end
section
namespace Go.Proofs.YtihfdjkjpncjfaaGreatDoor.A
open Go
theorem Qct {n:Nat} (h:n<18446744073709551616):(BitVec.ofInt (IntKind.bits .u64) (n:Int)).toNat=n:=by
 show (BitVec.ofInt 64 (n:Int)).toNat=n
 rw [BitVec.toNat_ofInt]
 omega
theorem Qnd {n:Nat} (h:n<18446744073709551616):wr .u64 ((BitVec.ofInt (IntKind.bits .u64) (n:Int) &&& BitVec.ofInt (IntKind.bits .u64) (4294967295:Int)).toNat:Int)=((n%4294967296:Nat):Int):=by
 rw [BitVec.toNat_and,Qct h,show (4294967295:Int)=((4294967295:Nat):Int) from rfl,Qct (by omega),show 4294967295=2^32-1 from rfl,Nat.and_two_pow_sub_one_eq_mod,Qn (by omega) (by omega)]
theorem Qp3 {a b s:Nat} (hb:b<2^s) (h:a*2^s+b<18446744073709551616):wr .u64 ((BitVec.ofInt (IntKind.bits .u64) ((a*2^s:Nat):Int) ||| BitVec.ofInt (IntKind.bits .u64) (b:Int)).toNat:Int)=((a*2^s+b:Nat):Int):=by
 rw [BitVec.toNat_or,Qct (by omega),Qct (by omega),Z25,<-Nat.two_pow_add_eq_or_of_lt hb,Qn (by omega) (by rw [Z25] at h;omega)]
theorem Qp9 {B V Y U u1 u0:Nat} (hV:V=(U*B+u1)*B+u0) (hY:0<Y) (h0:u0<B) :
  V/Y=(U*B+u1)/Y*B+((U*B+u1)%Y*B+u0)/Y/\V%Y=((U*B+u1)%Y*B+u0)%Y:=by
 have h1:=Z63 (U*B+u1) Y
 generalize hA:U*B+u1=A at *
 generalize A/Y=q at *
 generalize A%Y=r at *
 have e:V=(r*B+u0)+Y*(q*B):=by
  rw [hV,<-h1,Z19,Z46];omega
 rw [e,Nat.add_mul_div_left _ _ hY,Z93]
 exact ⟨by omega,rfl⟩
theorem Qvu {B V Y U u1 u0:Nat} (hV:V=(U*B+u1)*B+u0) (hY:0<Y) (h0:u0<B) (hU:U<Y) (h1:u1<B) :
  ∃q1 U2 q0 U3,(U*B+u1)/Y=q1/\(U2*B+u0)/Y=q0/\Y*q1+U2=U*B+u1/\U2<Y/\Y*q0+U3=U2*B+u0/\U3<Y/\q1<B/\q0<B/\V/Y=q1*B+q0/\V%Y=U3:=by
 obtain ⟨a,b⟩:=Qp9 hV hY h0
 have l:∀{u v:Nat},u<Y->v<B->(u*B+v)/Y<B:=λ{u v} hu hv=>by
  rw [Z80 hY]
  have:=Z3 B (show u+1<=Y from hu)
  rw [Z19,Z67] at this
  rw [Z25 B Y];omega
 have hr:=Z74 (U*B+u1) hY
 exact ⟨_,_,_,_,rfl,rfl,Z63 _ _,hr,Z63 _ _,Z74 _ hY,l hU h1,l hr h0,a,b⟩
theorem Ql5 {hi lo s:Nat} (hs:s<=64):(hi*18446744073709551616+lo)*2^s=(hi*2^s+lo/2^(64-s))*18446744073709551616+lo*2^s%18446744073709551616:=by
 have e:18446744073709551616=2^(64-s)*2^s:=by rw [<-Z97,show 64-s+s=64 by omega]
 have h:lo/2^(64-s)=lo*2^s/18446744073709551616:=by
  rw [e,Nat.mul_div_mul_right _ _ (Z64 s)]
 rw [h,Z19,Z19,Nat.mul_right_comm,Z32]
 have:=Z63 (lo*2^s) 18446744073709551616
 omega
theorem bits_Div64 {hi lo y:Nat} (h:hi<y) (hlo:lo<18446744073709551616) (hy:y<18446744073709551616) :
  z38.F hi lo y=some ((((hi*18446744073709551616+lo)/y:Nat):Int),(((hi*18446744073709551616+lo)%y:Nat):Int)):=by
 rcases Z12 hi with h0|h0
 ·subst h0
  have:=Qkl (a:=(lo:Int)) (b:=(y:Int)) (by omega) (by omega)
  rw [show ((0:Nat):Int)=0 from rfl,this,Nat.zero_mul,Z17]
  rfl
 obtain ⟨s,hs,s1,s2,hlead⟩:=Qpq (x:=y) (by omega) hy
 unfold z38.F
 rw [Qb (by omega),Qb (by omega),Qb (by omega),hlead]
 simp only [Zb]
 have hp:=Z64 s
 have hV:=Ql5 (hi:=hi) (lo:=lo) (s:=s) (by omega)
 have hlt:(hi*18446744073709551616+lo)*2^s<y*2^s*18446744073709551616:=by
  rw [Nat.mul_right_comm];exact Z81 (by omega) hp
 have hb:lo/2^(64-s)<2^s:=by
  rw [Z80 (Z64 _),<-Z97,show s+(64-s)=64 by omega];exact hlo
 have hqy:=Nat.mul_div_mul_right (hi*18446744073709551616+lo) y hp
 have hmy:=Nat.mul_mod_mul_right (2^s) (hi*18446744073709551616+lo) y
 have e1:wr .u64 (s:Int)=s:=Qn (by omega) (by omega)
 have e4:wr .u64 ((64:Int)-s)=((64-s:Nat):Int):=by rw [Qn (by omega) (by omega)];omega
 have e5:min (64-s) 64=64-s:=by omega
 have e3:min s 64=s:=by omega
 have eY:wr .u64 ((y:Int)*2^s)=((y*2^s:Nat):Int):=by
  rw [show (y:Int)*2^s=((y*2^s:Nat):Int) by push_cast;rfl,Qn (by omega) (by omega)]
 have eL:wr .u64 ((lo:Int)*2^s)=((lo*2^s%18446744073709551616:Nat):Int):=by
  rw [show (lo:Int)*2^s=((lo*2^s:Nat):Int) by push_cast;rfl,Wv];rfl
 have hUY:hi*2^s+lo/2^(64-s)<y*2^s:=by
  have:(hi*2^s+lo/2^(64-s))*18446744073709551616<y*2^s*18446744073709551616:=by omega
  exact Nat.lt_of_mul_lt_mul_right this
 have hHi:=Nat.lt_of_le_of_lt (Z107 (hi*2^s) (lo/2^(64-s))) (Nat.lt_trans hUY s2)
 have eH:wr .u64 ((hi:Int)*2^s)=((hi*2^s:Nat):Int):=by
  rw [show (hi:Int)*2^s=((hi*2^s:Nat):Int) by push_cast;rfl,Qn (by omega) (by omega)]
 have eO:=Qp3 (a:=hi) (s:=s) hb (by omega)
 simp only [e1,e4,Zi,e3,e5,eY,eL,eH,Jz,eO,show min 32 64=32 from rfl]
 generalize hU:hi*2^s+lo/2^(64-s)=U at *
 generalize hYe:y*2^s=Y at *
 generalize hLe:lo*2^s%18446744073709551616=L at *
 have hL:L<18446744073709551616:=by rw [<-hLe];exact Z74 _ (by omega)
 have aY:=Qnd s2;have aL:=Qnd hL
 simp only [aY,aL,show (2:Nat)^32=4294967296 from rfl]
 rw [if_pos (by omega),if_pos (by omega),if_pos (by omega),if_pos (by omega)]
 generalize hy1:Y/4294967296=y1 at *
 generalize hy0:Y%4294967296=y0 at *
 generalize hu1:L/4294967296=u1 at *
 generalize hu0:L%4294967296=u0 at *
 have hYd:Y=y1*4294967296+y0:=by omega
 have hLd:L=u1*4294967296+u0:=by omega
 have b1:2147483648<=y1/\y1<4294967296:=by omega
 have b0:y0<4294967296:=by omega
 have b2:u1<4294967296:=by omega
 have b3:u0<4294967296:=by omega
 rw [if_neg (by omega)]
 have hYp:0<Y:=by omega
 obtain ⟨q1,U2,q0,U3,dq1,dq0,m1,m2,m3,m4,hq1,hq0,V1,V2⟩:=Qvu (B:=4294967296) (V:=U*18446744073709551616+L) (Y:=Y) (U:=U) (u1:=u1) (u0:=u0) (by omega) hYp b3 hUY b2
 have first:∀{u:Nat},u<18446744073709551616->wr .u64 (Int.tdiv (u:Int) (y1:Int))=((u/y1:Nat):Int)/\wr .u64 ((u:Int)-wr .u64 (wr .u64 (Int.tdiv (u:Int) (y1:Int))*(y1:Int)))=((u%y1:Nat):Int):=λ{u} hu=>by
  have h1:=Z95 u y1
  have h2:=Z63 u y1
  have h3:Int.tdiv (u:Int) (y1:Int)=((u/y1:Nat):Int):=by rw [Y6 (by omega)];rfl
  rw [h3]
  generalize u/y1=q at *
  generalize u%y1=r at *
  rw [Qn (n:=(q:Int)) (by omega) (by omega)]
  refine ⟨rfl,?_⟩
  rw [Z25] at h2
  rw [show (q:Int)*(y1:Int)=((q*y1:Nat):Int) from rfl]
  generalize q*y1=P at *
  rw [Qn (n:=(P:Int)) (by omega) (by omega),Qn (by omega) (by omega)]
  omega
 obtain ⟨f1,f2⟩:=first (u:=U) (by omega)
 simp only [f2]
 rw [f1]
 obtain ⟨r1,d1⟩:=Qxj (y1:=y1) (y0:=y0) (u:=U) (u0:=u1) b1.1 b1.2 b0 (by omega) b2
 rw [d1,<-hYd,dq1]
 simp only [Zb]
 rw [if_neg (by omega)]
 have eU2:wr .u64 (wr .u64 (wr .u64 ((U:Int)*4294967296)+(u1:Int))-wr .u64 ((q1:Int)*(Y:Int)))=(U2:Int):=by
  rw [show (q1:Int)*(Y:Int)=((Y*q1:Nat):Int) by push_cast;exact Z82 _ _,Wv,Wv,Wv,Wv]
  generalize Y*q1=P at m1 ⊢
  clear d1 V1 V2 m3 m4 dq1 dq0 hV hlt hqy hmy
  omega
 simp only [eU2]
 obtain ⟨g1,g2⟩:=first (u:=U2) (by omega)
 simp only [g2]
 rw [g1]
 obtain ⟨r2,d2⟩:=Qq4 (y1:=y1) (y0:=y0) (u:=U2) (u0:=u0) b1.1 b1.2 b0 (by omega) b3
 rw [d2,<-hYd,dq0]
 simp only [Zb]
 rw [if_pos (by omega)]
 have eU3:wr .u64 (wr .u64 (wr .u64 ((U2:Int)*4294967296)+(u0:Int))-wr .u64 ((q0:Int)*(Y:Int)))=(U3:Int):=by
  rw [show (q0:Int)*(Y:Int)=((Y*q0:Nat):Int) by push_cast;exact Z82 _ _,Wv,Wv,Wv,Wv]
  generalize Y*q0=P at m3 ⊢
  clear d1 d2 V1 V2 m1 dq1 dq0 hV hlt hqy hmy
  omega
 rw [eU3,Jz,Qn (n:=(q1:Int)*4294967296) (by omega) (by omega),Qn (by omega) (by omega)]
 rw [hV,V1] at hqy
 rw [hV,V2] at hmy
 rw [<-hqy,hmy,Nat.mul_div_cancel _ hp]
 rfl
theorem Qlr {a:J0} {b N:Nat} (ha:inB LB a) (hb:0<b) (hb':b<18446744073709551616) (hl:a.length<=800000000) (hN:(N:Int)=valB LB a) :
  ∀
   (k:Nat),k<=a.length->∀(m:Nat) (q:J0),(m:Int)=valB LB (a.drop k)->q.length=a.length->inB LB q->valB LB (q.drop k)=((m/b:Nat):Int) ->
   ∃q',Runs (λrec x=>z39.l0P a b rec some x) (((m%b:Nat):Int),(k:Int)-1,q) (((N%b:Nat):Int),(-1:Int),q')/\q'.length=a.length/\inB LB q'/\valB LB q'=((N/b:Nat):Int)
 |
  0,hk,m,q,hm,hq,hi,hv=>by
  have:m=N:=by rw [Z36] at hm;omega
  subst this
  refine ⟨q,.done λrec=>?_,hq,hi,by rwa [Z36] at hv⟩
  unfold z39.l0P
  simp only
  rw [Qb (by omega)];rfl
 |
  k+1,hk,m,q,hm,hq,hi,hv=>by
  have hka:k<a.length:=by omega
  have hkq:k<q.length:=by omega
  have hd:=Q5 (B:=LB) (by decide) ha k
  obtain ⟨d,hd'⟩:∃d:Nat,a.getD k 0=(d:Int):=⟨(a.getD k 0).toNat,by omega⟩
  have hd2:d<18446744073709551616:=by rw [hd'] at hd;exact_mod_cast hd.2
  obtain ⟨r,hr⟩:∃r,m%b=r:=⟨_,rfl⟩
  have hrb:r<b:=hr▸Z74 m hb
  obtain ⟨x,hx⟩:∃x,r*18446744073709551616+d=x:=⟨_,rfl⟩
  have hxb:x<b*18446744073709551616:=by omega
  obtain ⟨z,hz⟩:∃z,x/b=z:=⟨_,rfl⟩
  obtain ⟨w,hw⟩:∃w,x%b=w:=⟨_,rfl⟩
  obtain ⟨y,hy⟩:∃y,m/b=y:=⟨_,rfl⟩
  have hq1:z<18446744073709551616:=hz▸Z56 hxb
  have hmm:b*y+r=m:=by rw [<-hy,<-hr];exact Z63 m b
  have hm':((d+LB*m:Nat):Int)=valB LB (a.drop k):=by rw [Wf,hd',<-hm,Z40,Z13]
  have e:d+LB*m=x+b*(LB*y):=by
   have h4:b*(LB*y)=LB*(b*y):=by rw [<-Z46,Z25 b LB,Z46]
   have h5:LB*m=LB*(b*y)+LB*r:=by rw [<-hmm,Z111]
   rw [h4,h5,<-hx,Z25 r];show _=18446744073709551616*r+d+LB*(b*y)
   have:LB*r=18446744073709551616*r:=rfl
   omega
  have hdiv:(d+LB*m)/b=z+LB*y:=by rw [e,Nat.add_mul_div_left _ _ hb,hz]
  have hmod:(d+LB*m)%b=w:=by rw [e,Z93,hw]
  have hvq:valB LB ((q.set k (z:Int)).drop k)=(((d+LB*m)/b:Nat):Int):=by
   rw [Wf,Qg8,hv,hdiv,hy]
   have:(q.set k (z:Int)).getD k 0=(z:Int):=by simp [List.getD,hkq]
   rw [this,Z40,Z13]
  obtain ⟨q',r1,r2,r3,r4⟩:=Qlr ha hb hb' hl hN k (by omega) (d+LB*m) (q.set k (z:Int)) hm' (by simp [hq]) (Ya hi (by show (0:Int)<=(z:Int)/\(z:Int)<((18446744073709551616:Nat):Int);omega)) hvq
  rw [hmod] at r1
  refine ⟨q',.step (λrec=>?_) r1,r2,r3,r4⟩
  have ek:((k+1:Nat):Int)-1=(k:Int):=by omega
  unfold z39.l0P
  simp only
  rw [ek,bif_t (by omega),if_pos (by omega),Zi,hd',hr,bits_Div64 hrb hd2 hb',hx,hz,hw]
  simp only [Zb]
  rw [if_pos (by omega),if_pos hkq,Qe (by omega) (by omega)]
theorem quot_by {a b:Nat} (hb:0<b) (hb':b<18446744073709551616) (ha:(lb a).length<=800000000):∃q,z39.F (lb a) (b:Int)=some (q,((a%b:Nat):Int))/\q.length=(lb a).length/\inB LB q/\valB LB q=((a/b:Nat):Int):=by
 obtain ⟨q',r1,r2,r3,r4⟩:=Qlr (a:=lb a) (b:=b) (N:=a) (Q4 bL a) hb hb' ha (by rw [Wn bL]) (lb a).length (Z4 _) 0 (List.replicate (lb a).length 0) (by rw [List.drop_length];rfl) (by simp) (Qa8 (by decide) _) (by rw [Z21 (by simp)];simp [valB])
 rw [Nat.zero_mod] at r1
 have e:z39.l0 (lb a) (b:Int) ((0:Int),((lb a).length:Int)-1,List.replicate (lb a).length 0)=some (((a%b:Nat):Int),(-1:Int),q'):=r1.lfp
 refine ⟨q',?_,r2,r3,r4⟩
 unfold z39.F
 rw [if_pos (by omega),Zi,Qe (by omega) (by omega),e]
 rfl
theorem Qjz {a b:Nat} (hb:0<b) (hb':b<18446744073709551616) (ha:(lb a).length<=800000000):Yy a b:=by
 rcases Z44 a b with h|h
 ·exact Qhe h (by omega)
 ·have hl:(lb b).length<=1:=Yh bL (by simpa using hb')
  obtain ⟨q,q1,q2,q3,q4⟩:=quot_by hb hb' ha
  unfold Yy z44.F
  rw [Wy]
  simp only [Zb]
  rw [Qb (by omega),Qcm (by omega)]
  simp only [Zb]
  have:¬cmpI (a:Int) b<0:=by unfold cmpI;rw [if_neg (by omega)];split<;>omega
  rw [Qb this,J3 (by show List.length _<=_;omega),J3 (by show List.length _<=_;omega)]
  simp only [Zb]
  rw [Qel hb hb',Z35,bif_t (by omega),if_pos (by omega),show [(b:Int)].getD 0 0=b from rfl,q1]
  simp only [Zb]
  rw [Qcj q3 (by show List.length _<=_;omega),q4]
  simp only [Zb]
  have hm:=Z74 a hb
  rw [Yg (by omega)]
  rfl
inductive Rem (len:Nat):Nat->Nat->List Int->Prop
 |stop (j:Nat) (h:len<=j):Rem len 0 j []
 |step (n j:Nat) (ds:List Int) (h:0<n\/j<len) (hr:Rem len (n/10) (j+1) ds):Rem len n j (((n%10:Nat):Int)::ds)
def asc (d:Int):Int:=48+d
theorem Qvq {s:J0} {i:Nat} {x:Int} (h:i<s.length):(s.set i x).drop i=x::s.drop (i+1):=by
 rw [Z38 (by simpa using h),Qg8]
 simp
theorem Qxq {len:Nat} (hlen:len<=20) {n j:Nat} {ds:J0} (h:Rem len n j ds):n<18446744073709551616->j+ds.length<=20->∀s:J0,s.length=20 ->
  ∃s',Runs (λrec x=>z81.l0P (len:Int) rec some x) ((n:Int),((20-j:Nat):Int),s) ((0:Int),((20-j-ds.length:Nat):Int),s')/\s'.length=20/\s'.drop (20-j-ds.length)=ds.reverse.map asc++s.drop (20-j):=by
 induction h with
 |
  stop j h=>
  intro _ hj s hs
  simp only [Z54,Z72] at hj
  refine ⟨s,.done λrec=>?_,hs,by simp⟩
  unfold z81.l0P
  simp only [Z54,Nat.sub_zero]
  rw [Qb (by omega),Qe (by omega) (by omega),Qb (by omega)]
  rfl
 |
  step n j ds h hr ih=>
  intro hn hj s hs
  simp only [Z10] at hj
  have hi:20-(j+1)<s.length:=by omega
  obtain ⟨s',r1,r2,r3⟩:=ih (by omega) (by omega) (s.set (20-(j+1)) (asc ((n%10:Nat):Int))) (by simpa using hs)
  refine ⟨s',?_,r2,?_⟩
  ·rw [Z10,show 20-j-(ds.length+1)=20-(j+1)-ds.length by omega]
   refine .step (λrec=>?_) r1
   have e1:wr .i64 (((20-j:Nat):Int)-1)=((20-(j+1):Nat):Int):=by rw [Qe (by omega) (by omega)];omega
   have e2:wr .u64 (Int.tdiv (n:Int) 10)=((n/10:Nat):Int):=by rw [Y6 (by omega),Qn (by omega) (by omega)];rfl
   have e3:wr .u8 (wr .u64 (48+Int.tmod (n:Int) 10))=asc ((n%10:Nat):Int):=by
    rw [Jh (by omega),Qn (by omega) (by omega),Qiq (by omega) (by omega)];rfl
   unfold z81.l0P
   simp only [e1,e2,e3]
   rcases Z12 n with h0|h0
   ·have hjl:j<len:=h.resolve_left (by omega)
    rw [Qb (by omega),Qe (by omega) (by omega),bif_t (by omega),if_pos (by omega),Zi,if_pos hi]
   ·rw [bif_t (by omega),if_pos (by omega),Zi,if_pos hi]
  ·rw [Z10,show 20-j-(ds.length+1)=20-(j+1)-ds.length by omega,r3,Qvq hi,show 20-(j+1)+1=20-j by omega]
   simp
theorem Quu {ds:J0} (h:inB 10 ds):(ds.map asc).map (λn=>UInt8.ofNat n.toNat)=ds.map ch:=by
 rw [List.map_map]
 refine Z104 λd hd=>?_
 have:=h d hd
 show UInt8.ofNat (48+d).toNat=UInt8.ofNat (48+d.toNat)
 rw [show (48+d).toNat=48+d.toNat by omega]
theorem Rem.inB {len n j:Nat} {ds:J0} (h:Rem len n j ds):inB 10 ds:=by
 induction h with
 |stop=>exact inB_nil _
 |step n j ds h hr ih=>exact Ww.2 ⟨by omega,ih⟩
theorem Qtc {B:Nat} {l:J0} (h:inB B l):inB B l.reverse:=λx hx=>h x (by simpa using hx)
theorem Qxs {len n:Nat} {ds:J0} (hlen:len<=20) (hn:n<18446744073709551616) (h:Rem len n 0 ds) (hd:ds.length<=20):z81.F (n:Int) (len:Int)=some (ds.reverse.map ch):=by
 obtain ⟨s',r1,r2,r3⟩:=Qxq hlen h hn (by omega) (List.replicate 20 0) (by simp)
 have e:z81.l0 (len:Int) ((n:Int),(20:Int),List.replicate 20 (0:Int))=some ((0:Int),((20-0-ds.length:Nat):Int),s'):=r1.lfp
 unfold z81.F
 rw [e]
 simp only [Zb]
 have hl:(s'.drop (20-0-ds.length)).length=ds.length:=by rw [Z34];omega
 rw [if_pos r2,if_pos (by omega),Zi,Z28 (by rw [hl];omega),r3]
 simp only [Nat.sub_zero,List.drop_replicate,Nat.sub_self,List.replicate_zero,Z39]
 rw [Quu (Qtc h.inB)]
def lsd:Nat->Nat->J0
 |0,_=>[]
 |k+1,n=>((n%10:Nat):Int)::lsd k (n/10)
theorem Qet:∀(k n:Nat),(lsd k n).length=k
 |0,_=>rfl
 |k+1,n=>by simp [lsd,Qet k]
theorem Qnp {len:Nat}:∀(k n j:Nat),j+k=len->n<10^k->Rem len n j (lsd k n)
 |
  0,n,j,hj,hn=>by
  have:n=0:=by simpa using hn
  subst this;exact .stop j (by omega)
 |k+1,n,j,hj,hn=>.step n j _ (.inr (by omega)) (Qnp k (n/10) (j+1) (by omega) (by rw [Z45] at hn;omega))
theorem Qqt {len:Nat} (n:Nat):∀j,(len<=j\/0<n/\len<=j+1)->Rem len n j (toB 10 n):=by
 induction n using Nat.strongRecOn with
 |
  _ n ih=>
  intro j hj
  rcases Z12 n with h0|h0
  ·subst h0;rw [toB_zero];exact .stop j (by omega)
  ·rw [W7 b10 h0]
   exact .step n j _ (.inl h0) (ih _ (Z110 h0 (by decide)) (j+1) (.inl (by omega)))
theorem Qi9:∀(k low q:Nat),0<q->low<10^k->toB 10 (low+10^k*q)=lsd k low++toB 10 q
 |
  0,low,q,hq,hl=>by
  have:low=0:=by simpa using hl
  subst this;simp [lsd]
 |
  k+1,low,q,hq,hl=>by
  have hp:0<10^k:=Z105 (by decide)
  have hpq:0<10^k*q:=Z48 hp hq
  have e:low+10^(k+1)*q=low+10*(10^k*q):=by rw [Z45,Z25 (10^k),Z46]
  rw [e,W7 b10 (by omega),lsd]
  rw [Z93,Nat.add_mul_div_left _ _ (by decide),Qi9 k (low/10) q hq (by rw [Z45] at hl;omega)]
  rfl
inductive Groups:Nat->List (List UInt8)->Prop
 |zero:Groups 0 []
 |last (n:Nat) (h0:0<n) (h:n<10^18):Groups n [(toB 10 n).reverse.map ch]
 |more (low q:Nat) (gs:List (List UInt8)) (hl:low<10^18) (h0:0<q) (hg:Groups q gs):Groups (low+10^18*q) (((lsd 18 low).reverse.map ch)::gs)
theorem Groups.text {n:Nat} {gs:List J1} (h:Groups n gs):gs.reverse.flatten=(toB 10 n).reverse.map ch:=by
 induction h with
 |zero=>rw [toB_zero];rfl
 |last n h0 h=>simp
 |
  more low q gs hl h0 hg ih=>
  rw [List.reverse_cons,Z86,ih,Qi9 18 low q h0 hl,List.reverse_append,Z68]
  simp
theorem Groups.pos {n:Nat} {gs:List J1} (h:Groups n gs):∀g∈gs,1<=g.length:=by
 induction h with
 |zero=>intro g hg;simp at hg
 |
  last n h0 h=>
  intro g hg
  simp only [List.mem_singleton] at hg;subst hg
  rw [W7 b10 h0];simp
 |
  more low q gs hl h0 hg ih=>
  intro g hg
  rcases Z108.1 hg with rfl|hg
  ·simp [Qet]
  ·exact ih g hg
theorem Qoi:∀{gs:List J1},(∀g∈gs,1<=g.length)->gs.length<=gs.flatten.length
 |[],_=>by simp
 |
  g::gs,h=>by
  have:=h g (by simp)
  have:=Qoi λg' h'=>h g' (List.mem_cons_of_mem _ h')
  simp only [Z10,Z57,Z9];omega
theorem Groups.len {n:Nat} {gs:List J1} (h:Groups n gs):gs.length<=sz n/\gs.flatten.length=sz n:=by
 have ht:=congrArg List.length h.text
 have e:gs.reverse.flatten.length=gs.flatten.length:=by
  simp only [List.length_flatten,List.map_reverse,List.sum_reverse]
 rw [e] at ht
 have ht:gs.flatten.length=sz n:=by rw [ht];unfold sz;simp
 exact ⟨by rw [<-ht];exact Qoi h.pos,ht⟩
theorem Qy5 (l:J0) (hl:l.length<=1):z82.l2 l (((l.length:Nat):Int)) ((0:Int),(0:Int))=some (l.getD 0 0,(l.length:Int)):=by
 match l,hl with
 |
  [],_=>
  refine (Runs.done λrec=>?_:Runs (λrec x=>z82.l2P [] _ rec some x) _ _).lfp
  unfold z82.l2P
  simp only [Z54]
  rw [Qb (by omega)];rfl
 |
  [x],_=>
  refine (Runs.step (y:=(x,(1:Int))) (λrec=>?_) (Runs.done λrec=>?_):Runs (λrec x'=>z82.l2P [x] _ rec some x') _ _).lfp
  ·unfold z82.l2P
   simp only [Z35]
   rw [bif_t (by omega),if_pos (by omega),Qe (by omega) (by omega)];rfl
  ·unfold z82.l2P
   simp only [Z35]
   rw [Qb (by omega)];rfl
theorem Qwn {n:Nat} (h:n<18446744073709551616):(lb n).getD 0 0=(n:Int)/\(lb n).length<=1:=by
 rcases Z12 n with rfl|h0
 ·rw [lb_zero];simp
 ·rw [Qel h0 h];simp
theorem Qpm {low:Nat} {len:Nat} {ds:J0} (hlen:len<=20) (hl:low<18446744073709551616) (hr:Rem len low 0 ds) (hd:ds.length<=20) {gs:List J1} (hg:gs.length<=800000000) {rec done:(J0×List J1)->Option (J0×List J1)} {y:Int} {r:J0×J0×Int} :
  z82.j1010a rec done ((low:Int),y) (len:Int) gs r=rec (r.1,gs++[ds.reverse.map ch]):=by
 unfold z82.j1010a
 rw [Qxs hlen hl hr hd]
 simp only [Zb,Z35]
 rw [if_pos (by omega)]
theorem Qs6:∀(n:Nat),sz n<=100000000->∀gs:List J1,gs.length+sz n<=700000000->∃l,Groups n l/\Runs (λrec x=>z82.l0P rec some x) (lb n,gs) ([],gs++l):=by
 intro n
 induction n using Nat.strongRecOn with
 |
  _ n ih=>
  intro hs gs hg
  obtain ⟨U,hU⟩:∃U,U=1000000000000000000:=⟨_,rfl⟩
  have hU10:10^18=U:=by rw [hU]
  rcases Z12 n with h0|h0
  ·subst h0
   refine ⟨[],.zero,.done λrec=>?_⟩
   unfold z82.l0P
   simp only [Wy,Zb]
   rw [lb_zero,Z39];rfl
  ·have hUp:0<U:=by omega
   have hdm:=Z63 n U
   have hml:=Z74 n hUp
   have hdl:n/U<=n:=Z95 _ _
   have hD:Yy n U:=Qjz hUp (by omega) (by have:=Qk n;omega)
   have hqlt:n/U<n:=Z110 h0 (by omega)
   obtain ⟨q,hq⟩:∃q,n/U=q:=⟨_,rfl⟩
   obtain ⟨low,hlow⟩:∃low,n%U=low:=⟨_,rfl⟩
   unfold Yy at hD
   rw [hq] at hdm hdl hD hqlt;rw [hlow] at hdm hml hD
   have hsq:sz q<=sz n:=Q8 hdl
   obtain ⟨g1,g2⟩:=Qwn (n:=low) (by omega)
   have hof:z25.F [(1000000000000000000:Int)]=some (lb U):=by rw [Yg (by omega),hU];rfl
   have hl2:=Qy5 (lb low) g2
   rw [g1] at hl2
   have body:∀{rec done:(J0×List J1)->Option (J0×List J1)},z82.l0P rec done (lb n,gs) =
     (bif decide (q=0) then z82.j1010a rec done ((low:Int),((lb low).length:Int)) 1 gs (lb q,lb low,0) else z82.j1010a rec done ((low:Int),((lb low).length:Int)) 18 gs (lb q,lb low,0)):=λ{rec done}=>by
    unfold z82.l0P
    simp only [Wy,Zb]
    rw [Zf (by omega),Zo,Zd,hof]
    simp only [Zb]
    rw [hD]
    simp only [Zb]
    rw [J3 (by show List.length _<=_;omega)]
    simp only [Zb]
    rw [hl2]
    simp only [Zb,Wy]
   rcases Z12 q with hq0|hq0
   ·subst hq0
    have hn:n=low:=by omega
    subst hn
    have hsz:sz n<=18:=sz_le (by rw [hU10];exact hml)
    refine ⟨[(toB 10 n).reverse.map ch],.last n h0 (by rw [hU10];exact hml),.step (y:=([],gs++[(toB 10 n).reverse.map ch])) (λrec=>?_) (.done λrec=>?_)⟩
    ·rw [body,bif_t rfl]
     refine (Qpm (len:=1) (by omega) (by omega) (Qqt n 0 (.inr ⟨h0,by omega⟩)) (by show sz n<=20;omega) (by omega)).trans ?_
     rw [lb_zero]
    ·unfold z82.l0P
     rw [<-lb_zero]
     simp only [Wy,Zb]
     rw [lb_zero];rfl
   ·obtain ⟨l,l1,l2⟩:=ih q hqlt (by omega) (gs++[(lsd 18 low).reverse.map ch]) (by
     have h1:sz q<sz n:=by
      have:=congrArg List.length (Qi9 18 low q hq0 (by rw [hU10];exact hml))
      rw [Z9,Qet,hU10,show low+U*q=n by omega] at this
      unfold sz;omega
     simp only [Z9,Z35];omega)
    have hgn:Groups n (((lsd 18 low).reverse.map ch)::l):=by
     have:=Groups.more low q l (by rw [hU10];exact hml) hq0 l1
     rwa [hU10,show low+U*q=n by omega] at this
    refine ⟨_,hgn,.step (y:=(lb q,gs++[(lsd 18 low).reverse.map ch])) (λrec=>?_) (by rw [show gs++((lsd 18 low).reverse.map ch)::l=(gs++[(lsd 18 low).reverse.map ch])++l by simp];exact l2)⟩
    rw [body,Qb (by omega)]
    exact Qpm (len:=18) (by omega) (by omega) (Qnp 18 low 0 (by omega) (by rw [hU10];exact hml)) (by rw [Qet];omega) (by omega)
def byts (s:J1):J0:=s.map λc=>(c.toNat:Int)
theorem Qqw (a b:J1):byts (a++b)=byts a++byts b:=by simp [byts]
theorem Qsy (s:J1):(byts s).all Qbo=true:=by
 rw [Z23]
 intro x hx
 obtain ⟨c,_,rfl⟩:=List.mem_map.1 hx
 have:=c.toNat_lt
 simp [Qbo];omega
theorem Qyt (s:J1):(byts s).map (λn=>UInt8.ofNat n.toNat)=s:=by
 unfold byts
 rw [List.map_map]
 conv=>rhs;rw [<-List.map_id s]
 exact Z104 λc _=>by simp
theorem Qey (s:J1):(byts s).length=s.length:=by simp [byts]
theorem Qok {gs:List J1} (hg:gs.length<=800000000) (hs:gs.flatten.length<=100000000):∀(k:Nat),k<=gs.length->∀acc:J1,acc.length+(gs.take k).flatten.length<=100000000 ->
  ∃i,Runs (λrec x=>z82.l4P gs rec some x) ((k:Int)-1,byts acc) (i,byts (acc++(gs.take k).reverse.flatten))
 |
  0,hk,acc,ha=>⟨-1,by
  refine .done λrec=>?_
  unfold z82.l4P
  simp only
  rw [Qb (by omega)];simp⟩
 |
  k+1,hk,acc,ha=>by
  have hk':k<gs.length:=by omega
  have hget:gs.getD k []=gs[k]:=by simp [List.getD,hk']
  have htk:gs.take (k+1)=gs.take k++[gs[k]]:=by rw [List.take_add_one,Z1 hk'];rfl
  have hfl:(gs.take (k+1)).flatten.length=(gs.take k).flatten.length+gs[k].length:=by rw [htk,Z86,Z9,List.flatten_singleton]
  obtain ⟨i,hi⟩:=Qok hg hs k (by omega) (acc++gs[k]) (by rw [Z9];omega)
  refine ⟨i,.step (λrec=>?_) (by rw [htk,List.reverse_append,List.reverse_singleton,Z86,List.flatten_singleton,<-Z90];exact hi)⟩
  unfold z82.l4P
  simp only
  rw [show ((k+1:Nat):Int)-1=(k:Int) by omega,bif_t (by omega),if_pos (by omega),Zi,if_pos hk',hget]
  change (if ((byts acc).length+(byts gs[k]).length)*1<=140737488355328 then _ else none)=_
  rw [Qey,Qey,if_pos (by omega),Qe (by omega) (by omega),Qqw]
  rfl
theorem digits_Print {n:Nat} (hs:sz n<=100000000):z82.F (lb n)=some (txt n):=by
 unfold z82.F
 rw [Wy]
 simp only [Zb]
 rcases Z12 n with h0|h0
 ·subst h0;rfl
 rw [Qb (by omega)]
 obtain ⟨gs,g1,g2⟩:=Qs6 n hs [] (by simp only [Z54];omega)
 have e0:z82.l0 (lb n,[])=some ([],gs):=g2.lfp
 obtain ⟨l1,l2⟩:=g1.len
 have ht:=g1.text
 have hn:0<gs.length:=by
  cases gs with
  |nil=>exfalso;cases g1;omega
  |cons=>simp
 rw [e0]
 simp only [Zb]
 obtain ⟨k,hk⟩:∃k,gs.length=k+1:=⟨gs.length-1,by omega⟩
 have hk':k<gs.length:=by omega
 have hget:gs.getD k []=gs[k]:=by simp [List.getD,hk']
 have htk:gs=gs.take k++[gs[k]]:=by
  have:=List.take_add_one (l:=gs) (i:=k)
  rw [Z1 hk',Z28 (by omega)] at this;exact this
 have hfl:gs.flatten.length=(gs.take k).flatten.length+gs[k].length:=by
  conv=>lhs;rw [htk]
  rw [Z86,Z9,List.flatten_singleton]
 rw [hk,Qe (n:=((k+1:Nat):Int)-1) (by omega) (by omega),show ((k+1:Nat):Int)-1=(k:Int) by omega,bif_t (by omega),if_pos (by omega),Zi,if_pos (by omega),hget]
 change (if (0+(byts gs[k]).length)*1<=140737488355328 then ((z82.l4 gs (wr .i64 ((k:Int)-1),[]++byts gs[k])).bind _) else none)=_
 rw [Qey,if_pos (by omega),Qe (by omega) (by omega),Z103]
 obtain ⟨i,hi⟩:=Qok (gs:=gs) (by omega) (by omega) k (by omega) gs[k] (by omega)
 have e4:z82.l4 gs ((k:Int)-1,byts gs[k])=some (i,byts (gs[k]++(gs.take k).reverse.flatten)):=hi.lfp
 have hall:gs[k]++(gs.take k).reverse.flatten=gs.reverse.flatten:=by
  conv=>rhs;rw [htk]
  rw [List.reverse_append,List.reverse_singleton,Z86,List.flatten_singleton]
 rw [e4,hall]
 simp only [Zb]
 have hlen:gs.reverse.flatten.length=sz n:=by rw [ht];unfold sz;simp
 have hszp:0<sz n:=by omega
 rw [Qey,if_pos (by omega),if_pos ⟨trivial,by omega,Qsy _⟩,Qyt,ht]
 unfold txt
 rw [if_neg (by omega)]
def itxt (z:Int):J1:=if z<0 then 45::txt z.natAbs else txt z.natAbs
theorem Qrj (n:Nat):(txt n).length<=sz n+1:=by
 unfold txt;split
 ·simp
 ·unfold sz;simp
theorem W3 {z:Int} (hs:sz z.natAbs<=100000000):z83.F (lb z.natAbs) (neg z)=some (itxt z):=by
 have:=Qrj z.natAbs
 unfold z83.F itxt
 by_cases h:z<0
 ·rw [bif_t h,digits_Print hs,if_pos h]
  simp only [Zb]
  rw [if_pos (by simp only [Z35];omega)];rfl
 ·rw [Qb h,digits_Print hs,if_neg h];rfl
theorem Qoa (s:J1):sz (mMoney s).1.natAbs<=31:=by
 unfold mMoney
 have hm:∀e:Int,sz (Int.natAbs ((0:Int),e).1)<=31:=λe=>by show sz 0<=31;rw [Qak];omega
 split
 ·exact hm _
 ·split
  ·exact hm _
  ·rename_i h;exact sz_le (by
    have:(10:Int)^30=1000000000000000000000000000000:=by decide
    rw [this] at h
    simp only;omega)
theorem Qhs (s:J1):sz (mRate s).1.num.natAbs<=100/\sz (mRate s).1.den<=100:=by
 obtain ⟨hb1,hb2⟩:=Qm7 s
 have h0:sz (Rat.num 0).natAbs<=100/\sz (Rat.den 0)<=100:=by
  show sz 0<=100/\sz 1<=100
  exact ⟨by rw [Qak];omega,Z11 (sz_le (k:=1) (by decide)) (by omega)⟩
 unfold mRate
 generalize mDec s=d at *
 obtain ⟨c,sc,e⟩:=d
 simp only at *
 by_cases h:e≠0
 ·rw [if_pos h];exact h0
 rw [if_neg h]
 by_cases h2:c<0\/1000*((10^sc:Nat):Int)<c\/12<sc
 ·rw [if_pos h2];exact h0
 rw [if_neg h2]
 have hp12:10^sc<=10^12:=Z33 (by decide) (by omega)
 have hp0:0<10^sc:=Z105 (by decide)
 have n1:=Qbl c hp0
 have n2:=Qcl c hp0
 have hd0:=(mkRat c (10^sc)).den_pos
 generalize mkRat c (10^sc)=q at *
 have e1:q/100=mkRat q.num (q.den*100):=by
  rw [Qnz,show (100:Rat).den=1 from rfl,show (100:Rat).num=100 from rfl,<-Rat.divInt_ofNat]
  simp
 have m1:=Qbl q.num (show 0<q.den*100 by omega)
 have m2:=Qcl q.num (show 0<q.den*100 by omega)
 rw [e1]
 show sz (mkRat q.num (q.den*100)).num.natAbs<=100/\sz (mkRat q.num (q.den*100)).den<=100
 exact ⟨Z11 (sz_le (k:=20) (by omega)) (by omega),Z11 (sz_le (k:=20) (by omega)) (by omega)⟩
end Go.Proofs.YtihfdjkjpncjfaaGreatDoor.A
end
section
set_option linter.unusedSectionVars false
namespace Go.Proofs.YtihfdjkjpncjfaaGreatDoor.A
open Go
section
variable {U3 D2 P ul dl:Nat} (hul:ul<P) (hdl:dl<P) (h0:0<D2)
include hul hdl h0
theorem Qo8:(U3*P+ul)/(D2*P+dl)<=U3/D2:=by
 rw [Z70 h0]
 have hQ:=Nat.div_mul_le_self (U3*P+ul) (D2*P+dl)
 generalize (U3*P+ul)/(D2*P+dl)=Q at *
 have h1:Q*D2*P<=Q*(D2*P+dl):=by rw [Z46];exact Z49 _ (Z107 _ _)
 have h2:Q*D2*P<(U3+1)*P:=by rw [Z19,Z67];omega
 have:=Nat.lt_of_mul_lt_mul_right h2
 omega
theorem Qqz {B:Nat} (hD:B<=D2) (hq:U3/D2<B):U3/D2<=(U3*P+ul)/(D2*P+dl)+1:=by
 have hDp:0<D2*P+dl:=by
  have:=Z48 h0 (show 0<P by omega);omega
 have hQ:=Nat.lt_mul_div_succ (U3*P+ul) hDp
 have hq3:=Nat.div_mul_le_self U3 D2
 generalize (U3*P+ul)/(D2*P+dl)=Q at *
 generalize U3/D2=q at *
 rcases Z44 (Q+1) q with h|h
 ·exfalso
  have e1:(Q+2)*(D2*P+dl)<=q*(D2*P+dl):=Z3 _ (by omega)
  have e2:q*(D2*P+dl)=q*D2*P+q*dl:=by rw [Z111,Z46]
  have e3:q*D2*P<=U3*P:=Z3 _ hq3
  have e4:q*dl<=B*P:=Z112 (by omega) (by omega)
  have e5:(Q+2)*(D2*P+dl)=(D2*P+dl)*(Q+1)+(D2*P+dl):=by
   rw [show Q+2=(Q+1)+1 by omega,Z19,Z67,Z25]
  have e6:B*P<=D2*P:=Z3 _ hD
  generalize (D2*P+dl)*(Q+1)=X at *
  generalize (Q+2)*(D2*P+dl)=Y at *
  generalize q*(D2*P+dl)=Z at *
  generalize q*D2*P=W at *
  generalize q*dl=V at *
  generalize B*P=T at *
  generalize D2*P=S at *
  generalize U3*P=R at *
  have hlt:q*dl<1->True:=λ_=>trivial
  omega
 ·exact h
end
theorem Qut {B d1 d2 top next third P ul dl:Nat} (h1:B<=2*d1) (hd2:d2<B) (hul:ul<P) (hdl:dl<P) (ht:d1<=top)
  (hU:((top*B+next)*B+third)*P+ul<((d1*B+d2)*P+dl)*B) :
  (((top*B+next)*B+third)*P+ul)/((d1*B+d2)*P+dl)<=B-1/\B-1<=(((top*B+next)*B+third)*P+ul)/((d1*B+d2)*P+dl)+1:=by
 have hP:0<P:=by omega
 have hB:0<B:=by omega
 have hD0:d1*B*P<=(d1*B+d2)*P+dl:=Z11 (Z3 _ (Z107 _ _)) (Z107 _ _)
 have hDp:0<(d1*B+d2)*P+dl:=by
  have:=Z48 (Z48 (show 0<d1 by omega) hB) hP;omega
 have hD1:(d1*B+d2)*P+dl<(d1*B+B)*P:=by
  have:(d1*B+d2+1)*P<=(d1*B+B)*P:=Z3 _ (by omega)
  rw [Z19 _ 1,Z67] at this;omega
 have hU0:d1*B*B*P<=((top*B+next)*B+third)*P+ul:=by
  refine Z11 (Z3 _ ?_) (Z107 _ _)
  refine Z11 (Z3 _ ?_) (Z107 _ _)
  exact Z11 (Z3 _ ht) (Z107 _ _)
 generalize ((top*B+next)*B+third)*P+ul=U at *
 generalize (d1*B+d2)*P+dl=D at *
 have hQ:=Nat.lt_mul_div_succ U hDp
 have hQB:U/D<B:=Z56 hU
 refine ⟨by omega,?_⟩
 generalize U/D=Q at *
 rcases Z44 (Q+1) (B-1) with h|h
 ·exfalso
  have e1:D*(Q+3)<=D*B:=Z49 _ (by omega)
  have e2:D*(Q+3)=D*(Q+1)+2*D:=by rw [show Q+3=(Q+1)+2 by omega,Z111,Z25 D 2]
  have e3:D*B<=(d1*B+B)*P*B:=Z3 _ (Z69 hD1)
  have e4:(d1*B+B)*P*B=d1*B*B*P+B*B*P:=by
   rw [Z19,Z19,Nat.mul_right_comm _ P B,Nat.mul_right_comm B P B]
  have e5:B*B*P<=2*(d1*B*P):=by
   rw [<-Z46,<-Z46]
   exact Z3 _ (Z3 _ h1)
  generalize D*(Q+1)=X at *
  generalize D*(Q+3)=Y at *
  generalize (d1*B+B)*P*B=Z at *
  generalize d1*B*B*P=W at *
  generalize B*B*P=V at *
  generalize d1*B*P=T at *
  omega
 ·exact h
theorem Qvi {B d1 d2 top next third:Nat} (h1:B<=2*d1) (hd2:d2<B) (ht:top<d1) (hn:next<B) :
  (top*B+next)/d1<=((top*B+next)*B+third)/(d1*B+d2)+2/\(top*B+next)/d1<B:=by
 have hB:0<B:=by omega
 have hd:0<d1:=by omega
 have hq:(top*B+next)/d1<B:=by
  refine Z56 ?_
  have:(top+1)*B<=d1*B:=Z3 _ ht
  rw [Z19,Z67] at this;omega
 refine ⟨?_,hq⟩
 have hm:=Nat.div_mul_le_self (top*B+next) d1
 generalize (top*B+next)/d1=q at *
 generalize top*B+next=U2 at *
 rcases Z44 q 2 with h|h
 ·exact Z11 (Z69 h) (Nat.le_add_left 2 _)
 obtain ⟨k,rfl⟩:∃k,q=k+2:=⟨q-2,by omega⟩
 have:k<=(U2*B+third)/(d1*B+d2):=by
  rw [Z70 (by have:=Z48 hd hB;omega)]
  have e1:k*(d1*B+d2)=k*d1*B+k*d2:=by rw [Z111,Z46]
  have e2:k*d2<=B*B:=Z112 (by omega) (by omega)
  have e3:B*B<=2*d1*B:=Z3 _ h1
  have e4:(k+2)*d1*B<=U2*B:=Z3 _ hm
  have e5:(k+2)*d1*B=k*d1*B+2*d1*B:=by rw [Z19,Z19]
  omega
 omega
theorem Qyv {B d1 d2 U2 third q r:Nat} (he:q*d1+r=U2) (hd2:0<d1*B+d2) (hc:r*B+third<q*d2):(U2*B+third)/(d1*B+d2)<q:=by
 rw [Z80 hd2]
 have:=Qei B (y0:=d2) he
 omega
theorem Qvw {B d1 d2 U2 third q r:Nat} (he:q*d1+r=U2) (hd2:0<d1*B+d2) (hg:(U2*B+third)/(d1*B+d2)<=q) (hc:q*d2<=r*B+third):q=(U2*B+third)/(d1*B+d2):=by
 refine Nat.le_antisymm ?_ hg
 rw [Z70 hd2]
 have:=Qei B (y0:=d2) he
 omega
end Go.Proofs.YtihfdjkjpncjfaaGreatDoor.A
end
section
namespace Go.Proofs.YtihfdjkjpncjfaaGreatDoor.A
open Go
theorem Qc1 (B:Nat) {l:J0} {i k:Nat} (h:i+k<=l.length):valB B (l.drop i)=valB B ((l.drop i).take k)+(B^k:Nat)*valB B (l.drop (i+k)):=by
 have h1:=Qej B ((l.drop i).take k) ((l.drop i).drop k)
 rw [List.take_append_drop,Z100,Z8,Z34,Z53 (by omega)] at h1
 exact h1
theorem Qbc (B:Nat) {l:J0} {k:Nat} (h:k<=l.length):valB B l=valB B (l.take k)+(B^k:Nat)*valB B (l.drop k):=by
 have:=Qc1 B (l:=l) (i:=0) (k:=k) (by omega)
 rwa [Z36,Z17] at this
theorem high {l:J0} {i n:Nat} (hn:2<=n) (hl:i+n<l.length) (hz:valB LB (l.drop (i+n+1))=0) :
  valB LB (l.drop i)=((l.getD (i+n) 0*18446744073709551616+l.getD (i+n-1) 0)*18446744073709551616+l.getD (i+n-2) 0)*(LB^(n-2):Nat)+valB LB ((l.drop i).take (n-2)):=by
 rw [Qc1 LB (l:=l) (i:=i) (k:=n-2) (by omega)]
 have e1:=Wf (B:=LB) l (i+n-2)
 have e2:=Wf (B:=LB) l (i+n-1)
 have e3:=Wf (B:=LB) l (i+n)
 rw [show i+n-2+1=i+n-1 by omega] at e1
 rw [show i+n-1+1=i+n by omega] at e2
 rw [hz] at e3
 rw [show i+(n-2)=i+n-2 by omega,e1,e2,e3]
 have e:((LB:Nat):Int)=18446744073709551616:=rfl
 rw [e]
 generalize ((LB^(n-2):Nat):Int)=p
 generalize l.getD (i+n) 0=x
 generalize l.getD (i+n-1) 0=y
 generalize l.getD (i+n-2) 0=z
 generalize valB LB ((l.drop i).take (n-2))=w
 grind
theorem Qjw {l:J0} {n:Nat} (hn:2<=n) (hl:l.length=n) :
  valB LB l=(l.getD (n-1) 0*18446744073709551616+l.getD (n-2) 0)*(LB^(n-2):Nat)+valB LB (l.take (n-2)):=by
 rw [Qbc LB (l:=l) (k:=n-2) (by omega)]
 have e1:=Wf (B:=LB) l (n-2)
 have e2:=Wf (B:=LB) l (n-1)
 rw [show n-2+1=n-1 by omega] at e1
 rw [show n-1+1=n by omega,show List.drop n l=[] from Z21 (by omega)] at e2
 rw [e1,e2]
 have e:((LB:Nat):Int)=18446744073709551616:=rfl
 rw [e]
 show _=_
 have e0:valB LB []=0:=rfl
 rw [e0]
 generalize ((LB^(n-2):Nat):Int)=p
 generalize l.getD (n-1) 0=x
 generalize l.getD (n-2) 0=y
 generalize valB LB (l.take (n-2))=w
 grind
theorem Ye {x:Int} (h:0<=x):∃n:Nat,x=(n:Int):=⟨x.toNat,by omega⟩
theorem limb {l:J0} (h:inB LB l) (k:Nat):∃n:Nat,l.getD k 0=(n:Int)/\n<18446744073709551616:=by
 have hd:=Q5 (B:=LB) (by decide) h k
 obtain ⟨n,hn⟩:=Ye hd.1
 refine ⟨n,hn,?_⟩
 rw [hn] at hd
 exact_mod_cast hd.2
theorem Qhg {l:J0} (h:inB LB l) {i n:Nat} (hl:i+n<=l.length) (hv:valB LB (l.drop i)<(LB^n:Nat)):valB LB (l.drop (i+n))=0:=by
 rw [Qc1 LB hl] at hv
 have h1:=Wc (Wh (Y7 h i) n)
 have h2:=Wc (Y7 h (i+n))
 rcases Int.lt_or_eq_of_le h2 with h3|h3
 ·exfalso
  have hp:(0:Int)<(LB^n:Nat):=by exact_mod_cast Z105 (by decide)
  have:=Int.mul_le_mul_of_nonneg_left (show (1:Int)<=valB LB (l.drop (i+n)) by omega) (Int.le_of_lt hp)
  rw [Int.mul_one] at this
  omega
 ·exact h3.symm
theorem Qrs {l:J0} (h:inB LB l) {k:Nat} (hv:valB LB (l.drop k)=0):l.getD k 0=0:=by
 rw [Wf] at hv
 have h1:=Q5 (B:=LB) (by decide) h k
 have h2:=Wc (Y7 h (k+1))
 have h3:=Z43 (Z55 LB) h2
 omega
noncomputable def Qcc {R:Type} (n:Nat) (d:J0) (rec:(Int×J0×J0)->Option R) (i:Int) (u q:J0) (k:Int):Option R:=
 ((z43.l0b3 (i).toNat (((wr .i64 ((wr .i64 (i+((n:Nat):Int)))+(1:Int)))).toNat-(i).toNat) k 0 n ((n:Nat):Int) d ((0:Int),(0:Int),(0:Int),u)).bind λo10=>(if (0:Int)<=((n:Nat):Int)/\((n:Nat):Int)<(((((wr .i64 ((wr .i64 (i+((n:Nat):Int)))+(1:Int)))).toNat-(i).toNat):Nat):Int) then (if ((i).toNat+(((n:Nat):Int)).toNat)<o10.2.2.2.length then ((z1.F (o10.2.2.2.getD ((i).toNat+(((n:Nat):Int)).toNat) 0) o10.1 o10.2.1).bind λr11=>(if (0:Int)<=((n:Nat):Int)/\((n:Nat):Int)<(((((wr .i64 ((wr .i64 (i+((n:Nat):Int)))+(1:Int)))).toNat-(i).toNat):Nat):Int) then (if ((i).toNat+(((n:Nat):Int)).toNat)<o10.2.2.2.length then ((z43.l2 0 n (i).toNat (((wr .i64 ((wr .i64 (i+((n:Nat):Int)))+(1:Int)))).toNat-(i).toNat) d (k,r11.2,(o10.2.2.2.set ((i).toNat+(((n:Nat):Int)).toNat) r11.1))).bind λo12=>(if (0:Int)<=i/\i<(q.length:Int) then (if (i).toNat<q.length then (rec ((wr .i64 (i-(1:Int))),o12.2.2,(q.set (i).toNat o12.1))) else none) else none)) else none) else none)) else none) else none))
noncomputable def Qf9 {R:Type} (n:Nat) (d:J0) (K:Int->Option R) (L:Int->Int->Option R) (k r:Int):Option R:=
 (if (0:Int)<=(wr .i64 (((n:Nat):Int)-(1:Int)))/\(wr .i64 (((n:Nat):Int)-(1:Int)))<((n:Nat):Int) then (if (0+((wr .i64 (((n:Nat):Int)-(1:Int)))).toNat)<d.length then ((z0.F r (d.getD (0+((wr .i64 (((n:Nat):Int)-(1:Int)))).toNat) 0) (0:Int)).bind λa=>(bif (decide (a.2=(0:Int))) then L (wr .u64 (k-(1:Int))) a.1 else K (wr .u64 (k-(1:Int))))) else none) else none)
noncomputable def Yw {R:Type} (n:Nat) (d:J0) (third:Int) (K:Int->Option R) (L:Int->Int->Option R) (k r:Int):Option R:=
 (if (0:Int)<=(wr .i64 (((n:Nat):Int)-(2:Int)))/\(wr .i64 (((n:Nat):Int)-(2:Int)))<((n:Nat):Int) then (if (0+((wr .i64 (((n:Nat):Int)-(2:Int)))).toNat)<d.length then ((z42.F k (d.getD (0+((wr .i64 (((n:Nat):Int)-(2:Int)))).toNat) 0)).bind λa=>(bif (decide (a.1<r)) then K k else (bif (decide (a.1=r)) then (bif (decide (a.2<=third)) then K k else Qf9 n d K L k r) else Qf9 n d K L k r))) else none) else none)
theorem Qle {R:Type} (n:Nat) (d:J0) (rec done:(Int×J0×J0)->Option R) (i:Int) (u q:J0):z43.l0aaP 0 n d rec done (i,u,q) =
 (bif (decide (i>=(0:Int))) then (if (0:Int)<=i/\i<=(wr .i64 ((wr .i64 (i+((n:Nat):Int)))+(1:Int)))/\(wr .i64 ((wr .i64 (i+((n:Nat):Int)))+(1:Int)))<=((u).length:Int) then (if (0:Int)<=((n:Nat):Int)/\((n:Nat):Int)<(((((wr .i64 ((wr .i64 (i+((n:Nat):Int)))+(1:Int)))).toNat-(i).toNat):Nat):Int) then (if ((i).toNat+(((n:Nat):Int)).toNat)<u.length then (if (0:Int)<=(wr .i64 (((n:Nat):Int)-(1:Int)))/\(wr .i64 (((n:Nat):Int)-(1:Int)))<(((((wr .i64 ((wr .i64 (i+((n:Nat):Int)))+(1:Int)))).toNat-(i).toNat):Nat):Int) then (if ((i).toNat+((wr .i64 (((n:Nat):Int)-(1:Int)))).toNat)<u.length then (if (0:Int)<=(wr .i64 (((n:Nat):Int)-(2:Int)))/\(wr .i64 (((n:Nat):Int)-(2:Int)))<(((((wr .i64 ((wr .i64 (i+((n:Nat):Int)))+(1:Int)))).toNat-(i).toNat):Nat):Int) then (if ((i).toNat+((wr .i64 (((n:Nat):Int)-(2:Int)))).toNat)<u.length then (if (0:Int)<=(wr .i64 (((n:Nat):Int)-(1:Int)))/\(wr .i64 (((n:Nat):Int)-(1:Int)))<((n:Nat):Int) then (if (0+((wr .i64 (((n:Nat):Int)-(1:Int)))).toNat)<d.length then (bif (decide ((u.getD ((i).toNat+(((n:Nat):Int)).toNat) 0)>=(d.getD (0+((wr .i64 (((n:Nat):Int)-(1:Int)))).toNat) 0))) then (Qcc n d rec i u q (18446744073709551615:Int)) else (if (0:Int)<=(wr .i64 (((n:Nat):Int)-(1:Int)))/\(wr .i64 (((n:Nat):Int)-(1:Int)))<((n:Nat):Int) then (if (0+((wr .i64 (((n:Nat):Int)-(1:Int)))).toNat)<d.length then ((z38.F (u.getD ((i).toNat+(((n:Nat):Int)).toNat) 0) (u.getD ((i).toNat+((wr .i64 (((n:Nat):Int)-(1:Int)))).toNat) 0) (d.getD (0+((wr .i64 (((n:Nat):Int)-(1:Int)))).toNat) 0)).bind λa=>Yw n d (u.getD ((i).toNat+((wr .i64 (((n:Nat):Int)-(2:Int)))).toNat) 0) (Qcc n d rec i u q) (Yw n d (u.getD ((i).toNat+((wr .i64 (((n:Nat):Int)-(2:Int)))).toNat) 0) (Qcc n d rec i u q) (Yw n d (u.getD ((i).toNat+((wr .i64 (((n:Nat):Int)-(2:Int)))).toNat) 0) (Qcc n d rec i u q) (λ_ _=>none))) a.1 a.2) else none) else none)) else none) else none) else none) else none) else none) else none) else none) else none) else none) else (done (i,u,q))):=rfl
theorem Qes {s:J0} {i j:Nat} {x:Int} (h:j<=i):(s.set i x).take j=s.take j:=by
 apply List.ext_getElem?
 intro k
 by_cases hk:k<j
 ·rw [List.getElem?_take_of_lt hk,List.getElem?_take_of_lt hk,Z99 (by omega)]
 ·rw [Z15 (by rw [Z8];omega),Z15 (by rw [Z8];omega)]
theorem Qf4 {s:J0} {i j:Nat} {x:Int} (h:i<j):(s.set i x).drop j=s.drop j:=by
 apply List.ext_getElem?
 intro k
 rw [List.getElem?_drop,List.getElem?_drop,Z99 (by omega)]
theorem Qad {s:J0} {n j:Nat} (h:j<n):(s.take n).getD j 0=s.getD j 0:=by
 simp [List.getD,List.getElem?_take_of_lt h]
theorem Qnh {d:J0} {off m n:Nat} {k:Int} (hk:0<=k/\k<18446744073709551616) (hd:inB LB d) (hn:n<=d.length) (hm:n<=m) (hN:n<=900000000) :
  ∀
   (f j:Nat) (c b:Int) (s:J0),j+f=n->inB LB s->off+n<=s.length->0<=c/\c<18446744073709551616->0<=b/\b<=1 ->
   ∃
    c' b' s',Runs (λrec x=>z43.l0b3P off m k 0 n (n:Int) d rec some x) (c,b,(j:Int),s) (c',b',(n:Int),s')/\inB LB s'/\s'.length=s.length/\(0<=c'/\c'<18446744073709551616)/\(0<=b'/\b'<=1) /\
    s'.take off=s.take off/\s'.drop (off+n)=s.drop (off+n) /\
    valB LB s'=valB LB s-(k*valB LB ((d.take n).drop j)+c+b)*(LB^(off+j):Nat)+(c'+b')*(LB^(off+n):Nat)
 |
  0,j,c,b,s,hf,hs,hl,hc,hb=>by
  have:j=n:=by omega
  subst this
  refine ⟨c,b,s,.done λrec=>?_,hs,rfl,hc,hb,rfl,rfl,?_⟩
  ·unfold z43.l0b3P
   simp only
   rw [Qb (by omega)]
  ·rw [Z21 (by rw [Z8];omega),show valB LB []=0 from rfl]
   generalize ((LB^(off+j):Nat):Int)=p
   grind
 |
  f+1,j,c,b,s,hf,hs,hl,hc,hb=>by
  have hj:j<d.length:=by omega
  have hjs:off+j<s.length:=by omega
  have h1:0<=d.getD j 0/\d.getD j 0<18446744073709551616:=Q5 (B:=LB) (by decide) hd j
  have h2:0<=s.getD (off+j) 0/\s.getD (off+j) 0<18446744073709551616:=Q5 (B:=LB) (by decide) hs (off+j)
  have hp:0<=d.getD j 0*k/\d.getD j 0*k<=18446744073709551615*18446744073709551615:=⟨Z43 h1.1 hk.1,Z101 (by omega) (by omega) hk.1 (by decide)⟩
  have hg:(d.take n).getD j 0=d.getD j 0:=Qad (by omega)
  obtain ⟨x,hx⟩:∃x,d.getD j 0*k+c=x:=⟨_,rfl⟩
  obtain ⟨low,hlow⟩:∃y,x%18446744073709551616=y:=⟨_,rfl⟩
  obtain ⟨hi,hhi⟩:∃y,x/18446744073709551616=y:=⟨_,rfl⟩
  have hxx:x=18446744073709551616*hi+low:=by rw [<-hlow,<-hhi];exact (Z78 x _).symm
  have hb1:0<=low/\low<18446744073709551616/\0<=hi/\hi<18446744073709551616:=by omega
  obtain ⟨b1,hb1'⟩:∃y:Int,(if s.getD (off+j) 0<low+b then (1:Int) else 0)=y:=⟨_,rfl⟩
  obtain ⟨z,hz⟩:∃y:Int,(s.getD (off+j) 0-low-b)%18446744073709551616=y:=⟨_,rfl⟩
  have hzz:z=s.getD (off+j) 0-low-b+b1*18446744073709551616:=by
   rw [<-hz,<-hb1'];split<;>omega
  have hbb:0<=b1/\b1<=1:=by rw [<-hb1'];split<;>omega
  have hzb:0<=z/\z<18446744073709551616:=by omega
  have hsub:z1.F (s.getD (off+j) 0) low b=some (z,b1):=by
   unfold z1.F;rw [if_pos (by omega),hz,hb1']
  obtain ⟨c',b',s',r1,r2,r3,r4,r5,r6,r7,r8⟩:=Qnh (off:=off) hk hd hn hm hN f (j+1) hi b1 (s.set (off+j) z) (by omega) (Ya hs hzb) (by rw [Z26];exact hl) ⟨hb1.2.2.1,hb1.2.2.2⟩ hbb
  refine ⟨c',b',s',.step (λrec=>?_) r1,r2,by rw [r3,Z26],r4,r5,by rw [r6,Qes (by omega)],by rw [r7,Qf4 (by omega)],?_⟩
  ·unfold z43.l0b3P
   simp only
   rw [bif_t (by omega),if_pos (by omega),Zi,Z17,if_pos hj,Qg2 h1 hk]
   simp only [Zb]
   rw [Qb4 (by omega) hc.1 (by omega),Int.add_zero]
   simp only [Zb]
   have e1:(d.getD j 0*k%18446744073709551616+c)%18446744073709551616=low:=by rw [<-hlow,<-hx,Int.emod_add_emod]
   have e2:d.getD j 0*k/18446744073709551616+(d.getD j 0*k%18446744073709551616+c)/18446744073709551616=hi:=by
    rw [<-hhi,<-hx]
    generalize d.getD j 0*k=y
    omega
   rw [e1,if_pos (by omega),if_pos hjs,hsub]
   simp only [Zb]
   rw [if_pos (by omega),if_pos hjs,e2,Qn (n:=hi) (by omega) (by omega),Qe (by omega) (by omega)]
   rfl
  ·rw [r8,Ym hjs,Wf (d.take n) j,hg,hzz]
   have e1:((LB^(off+(j+1)):Nat):Int)=18446744073709551616*(LB^(off+j):Nat):=by
    rw [<-Z32,Z45,Z25,Z13];rfl
   have e3:((LB:Nat):Int)=18446744073709551616:=rfl
   rw [e1,e3]
   have hx':d.getD j 0*k=18446744073709551616*hi+low-c:=by omega
   generalize ((LB^(off+j):Nat):Int)=p at *
   generalize ((LB^(off+n):Nat):Int)=p' at *
   generalize valB LB ((d.take n).drop (j+1))=w at *
   generalize valB LB s=V at *
   generalize s.getD (off+j) 0=y at *
   generalize d.getD j 0=e at *
   clear r1 r2 r3 r4 r5 r6 r7 r8
   grind
theorem Qp0 {d:J0} {off m n:Nat} (hd:inB LB d) (hn:n<=d.length) (hm:n<=m) (hN:n<=900000000) :
  ∀
   (f j:Nat) (c:Int) (s:J0),j+f=n->inB LB s->off+n<=s.length->0<=c/\c<=1 ->
   ∃
    c' s',Runs (λrec x=>z43.l0b4P off m 0 n (n:Int) d rec some x) (c,(j:Int),s) (c',(n:Int),s')/\inB LB s'/\s'.length=s.length/\(0<=c'/\c'<=1) /\
    s'.take off=s.take off/\s'.drop (off+n)=s.drop (off+n) /\
    valB LB s'=valB LB s+(valB LB ((d.take n).drop j)+c)*(LB^(off+j):Nat)-c'*(LB^(off+n):Nat)
 |
  0,j,c,s,hf,hs,hl,hc=>by
  have:j=n:=by omega
  subst this
  refine ⟨c,s,.done λrec=>?_,hs,rfl,hc,rfl,rfl,?_⟩
  ·unfold z43.l0b4P
   simp only
   rw [Qb (by omega)]
  ·rw [Z21 (by rw [Z8];omega),show valB LB []=0 from rfl]
   generalize ((LB^(off+j):Nat):Int)=p
   grind
 |
  f+1,j,c,s,hf,hs,hl,hc=>by
  have hj:j<d.length:=by omega
  have hjs:off+j<s.length:=by omega
  have h1:0<=d.getD j 0/\d.getD j 0<18446744073709551616:=Q5 (B:=LB) (by decide) hd j
  have h2:0<=s.getD (off+j) 0/\s.getD (off+j) 0<18446744073709551616:=Q5 (B:=LB) (by decide) hs (off+j)
  have hg:(d.take n).getD j 0=d.getD j 0:=Qad (by omega)
  obtain ⟨x,hx⟩:∃x,s.getD (off+j) 0+d.getD j 0+c=x:=⟨_,rfl⟩
  obtain ⟨low,hlow⟩:∃y,x%18446744073709551616=y:=⟨_,rfl⟩
  obtain ⟨hi,hhi⟩:∃y,x/18446744073709551616=y:=⟨_,rfl⟩
  have hxx:x=18446744073709551616*hi+low:=by rw [<-hlow,<-hhi];exact (Z78 x _).symm
  have hb1:0<=low/\low<18446744073709551616/\0<=hi/\hi<=1:=by omega
  obtain ⟨c',s',r1,r2,r3,r4,r6,r7,r8⟩:=Qp0 (off:=off) hd hn hm hN f (j+1) hi (s.set (off+j) low) (by omega) (Ya hs ⟨hb1.1,hb1.2.1⟩) (by rw [Z26];exact hl) ⟨hb1.2.2.1,hb1.2.2.2⟩
  refine ⟨c',s',.step (λrec=>?_) r1,r2,by rw [r3,Z26],r4,by rw [r6,Qes (by omega)],by rw [r7,Qf4 (by omega)],?_⟩
  ·unfold z43.l0b4P
   simp only
   rw [bif_t (by omega),if_pos (by omega),Zi,Z17,if_pos hj,if_pos (by omega),if_pos hjs,Qb4 h2.1 h1.1 hc,hx,hlow,hhi]
   simp only [Zb]
   rw [if_pos (by omega),if_pos hjs,Qe (by omega) (by omega)]
   rfl
  ·rw [r8,Ym hjs,Wf (d.take n) j,hg]
   have e1:((LB^(off+(j+1)):Nat):Int)=18446744073709551616*(LB^(off+j):Nat):=by
    rw [<-Z32,Z45,Z25,Z13];rfl
   have e3:((LB:Nat):Int)=18446744073709551616:=rfl
   rw [e1,e3]
   have hx':low=s.getD (off+j) 0+d.getD j 0+c-18446744073709551616*hi:=by omega
   generalize ((LB^(off+j):Nat):Int)=p at *
   generalize ((LB^(off+n):Nat):Int)=p' at *
   generalize valB LB ((d.take n).drop (j+1))=w at *
   generalize valB LB s=V at *
   generalize s.getD (off+j) 0=y at *
   generalize d.getD j 0=e at *
   clear r1 r2 r3 r4 r6 r7 r8
   subst hx'
   grind
theorem Qdv (a b:Nat):((LB^(a+b):Nat):Int)=(LB^a:Nat)*(LB^b:Nat):=by
 rw [Z97,Z13]
theorem Qjf (a:Nat):(0:Int)<(LB^a:Nat):=by exact_mod_cast Z105 (by decide)
theorem Qkh {s s':J0} {i:Nat} (hi:i<=s.length) (hi':i<=s'.length) (ht:s'.take i=s.take i) {v:Int} (hv:valB LB s'=valB LB s+v*(LB^i:Nat)):valB LB (s'.drop i)=valB LB (s.drop i)+v:=by
 rw [Qbc LB hi,Qbc LB hi',ht] at hv
 have hp:=Qjf i
 generalize ((LB^i:Nat):Int)=p at *
 generalize valB LB (s.take i)=w at *
 have:p*valB LB (s'.drop i)=p*(valB LB (s.drop i)+v):=by rw [Int.mul_add,Z82 p v];omega
 exact Int.eq_of_mul_eq_mul_left (Int.ne_of_gt hp) this
section
variable {n i:Nat} {d:J0} {U D:Nat} (hn:2<=n) (hdl:n<=d.length) (hd:inB LB d) (hN:n<=800000000) (hD:(D:Int)=valB LB (d.take n)) (hD0:0<D)
include hn hdl hd hN hD hD0
omit hn hN hD0 in
theorem D_lt:(D:Int)<(LB^n:Nat):=by
 rw [hD]
 have:=W2 bL (Wh hd n)
 rwa [Z8,Z53 hdl] at this
theorem Qs8 {u:J0} (hu:inB LB u) (hiu:i+n<u.length) (hz:valB LB (u.drop (i+n+1))=0) (hlen:u.length<=900000000)
  (hU:(U:Int)=valB LB (u.drop i)) {k:Nat} (hk1:U/D<=k) (hk2:k<=U/D+1) (hkB:k<18446744073709551616) :
  ∃u',(∀{R:Type} (q:J0) (rec:(Int×J0×J0)->Option R),i<q.length->Qcc n d rec i u q k=rec ((i:Int)-1,u',q.set i ((U/D:Nat):Int)))/\inB LB u'/\u'.length=u.length/\u'.take i=u.take i/\valB LB (u'.drop i)=((U%D:Nat):Int):=by
 have e1:wr .i64 (wr .i64 ((i:Int)+(n:Int))+1)=((i+n+1:Nat):Int):=by
  rw [Qe (n:=(i:Int)+n) (by omega) (by omega),Qe (by omega) (by omega)];omega
 have e2:i+n+1-i=n+1:=by omega
 have hin:i+n<u.length:=hiu
 have hDlt:=D_lt hdl hd hD
 have hdm:=Z63 U D
 have hml:=Z74 U hD0
 obtain ⟨Q,hQ⟩:∃Q,U/D=Q:=⟨_,rfl⟩
 obtain ⟨r,hr⟩:∃r,U%D=r:=⟨_,rfl⟩
 rw [hQ] at hk1 hk2 hdm ⊢
 rw [hr] at hdm hml ⊢
 have hUD:(U:Int)=D*Q+r:=by exact_mod_cast hdm.symm
 obtain ⟨c1,b1,s1,r1,r2,r3,r4,r5,r6,r7,r8⟩:=Qnh (off:=i) (m:=n+1) (k:=(k:Int)) ⟨by omega,by omega⟩ hd hdl (by omega) (by omega) n 0 0 0 u (by omega) hu (by omega) (by omega) (by omega)
 have hl1:i+n<s1.length:=by omega
 have er1:z43.l0b3 i (n+1) (k:Int) 0 n (n:Int) d ((0:Int),(0:Int),(0:Int),u)=some (c1,b1,(n:Int),s1):=r1.lfp
 have hx1:0<=s1.getD (i+n) 0/\s1.getD (i+n) 0<18446744073709551616:=Q5 (B:=LB) (by decide) r2 (i+n)
 obtain ⟨b2,hb2⟩:∃y:Int,(if s1.getD (i+n) 0<c1+b1 then (1:Int) else 0)=y:=⟨_,rfl⟩
 obtain ⟨z,hz2⟩:∃y:Int,(s1.getD (i+n) 0-c1-b1)%18446744073709551616=y:=⟨_,rfl⟩
 have hzz:z=s1.getD (i+n) 0-c1-b1+b2*18446744073709551616:=by
  rw [<-hz2,<-hb2];split<;>omega
 have hbb:b2=0\/b2=1:=by rw [<-hb2];split<;>omega
 have hzb:0<=z/\z<18446744073709551616:=by omega
 have hsub:z1.F (s1.getD (i+n) 0) c1 b1=some (z,b2):=by
  unfold z1.F;rw [if_pos (by omega),hz2,hb2]
 obtain ⟨s2,hs2⟩:∃s2,s1.set (i+n) z=s2:=⟨_,rfl⟩
 have g2:inB LB s2:=hs2▸Ya r2 hzb
 have gl2:s2.length=u.length:=by rw [<-hs2,Z26,r3]
 have gt2:s2.take i=u.take i:=by rw [<-hs2,Qes (by omega),r6]
 have gd2:valB LB (s2.drop (i+n+1))=0:=by
  rw [<-hs2,Qf4 (by omega),<-Z100,r7,Z100];exact hz
 have P1:((LB^(i+n+1):Nat):Int)=(LB^(i+n):Nat)*18446744073709551616:=Qdv (i+n) 1
 have gv2:valB LB s2=valB LB u+(-(k:Int)*D+b2*(LB^(n+1):Nat))*(LB^i:Nat):=by
  rw [<-hs2,Ym hl1,r8,hzz,Z36,<-hD]
  have e3:=Qdv i n
  have e4:=Qdv n 1
  have e5:((LB^1:Nat):Int)=18446744073709551616:=rfl
  rw [e5] at e4
  rw [Z72,e3,e4]
  generalize ((LB^i:Nat):Int)=p
  generalize ((LB^n:Nat):Int)=p'
  grind
 have hv2:valB LB (s2.drop i)=(U:Int)-k*D+b2*(LB^(n+1):Nat):=by
  rw [Qkh (by omega) (by omega) gt2 gv2,<-hU]
  generalize b2*((LB^(n+1):Nat):Int)=y
  rw [Int.neg_mul];omega
 have hlt2:valB LB (s2.drop i)<(LB^(n+1):Nat):=by
  rw [Qc1 LB (l:=s2) (i:=i) (k:=n+1) (by omega),show i+(n+1)=i+n+1 by omega,gd2,Int.mul_zero,Int.add_zero]
  have:=W2 bL (Wh (Y7 g2 i) (n+1))
  rwa [Z8,Z34,Z53 (by omega)] at this
 have hge2:=Wc (Y7 g2 i)
 have key:∃u',z43.l2 0 n i (n+1) d ((k:Int),b2,s2)=some ((Q:Int),(0:Int),u')/\inB LB u'/\u'.length=u.length/\u'.take i=u.take i/\valB LB (u'.drop i)=(r:Int):=by
  have stop:∀(k':Int) (s:J0),z43.l2 0 n i (n+1) d (k',(0:Int),s)=some (k',(0:Int),s):=λk' s=>
   (Runs.done (F:=λrec x=>z43.l2P 0 n i (n+1) d rec some x) λrec=>by unfold z43.l2P;simp only [decide_true,Zn,Zc]).lfp
  rcases hbb with hb0|hb0
  ·
   subst hb0
   rw [Int.zero_mul,Int.add_zero] at hv2
   have hkQ:k=Q:=by
    have h1:k*D<=U:=by
     have:(k:Int)*D<=U:=by omega
     exact_mod_cast this
    have h2:=(Z70 hD0).2 h1
    rw [hQ] at h2;omega
   subst hkQ
   exact ⟨s2,stop _ _,g2,gl2,gt2,by rw [hv2,hUD,Z82];omega⟩
  ·subst hb0
   rw [Int.one_mul] at hv2
   have hkQ:k=Q+1:=by
    have h1:¬k*D<=U:=by
     intro h
     have:((k*D:Nat):Int)<=U:=Int.ofNat_le.2 h
     rw [Z13] at this
     omega
    have h2:¬k<=Q:=λh=>h1 (by rw [<-hQ] at h;exact (Z70 hD0).1 h)
    omega
   obtain ⟨c3,s3,q1,q2,q3,q4,q5,q6,q7⟩:=Qp0 (off:=i) (m:=n+1) hd hdl (by omega) (by omega) n 0 0 s2 (by omega) g2 (by omega) (by omega)
   have er3:z43.l0b4 i (n+1) 0 n (n:Int) d ((0:Int),(0:Int),s2)=some (c3,(n:Int),s3):=q1.lfp
   have hl3:i+n<s3.length:=by omega
   have hx3:0<=s3.getD (i+n) 0/\s3.getD (i+n) 0<18446744073709551616:=Q5 (B:=LB) (by decide) q2 (i+n)
   obtain ⟨e,he⟩:∃y:Int,(s3.getD (i+n) 0+c3)/18446744073709551616=y:=⟨_,rfl⟩
   obtain ⟨y,hy⟩:∃y:Int,wr .u64 (s3.getD (i+n) 0+c3)=y:=⟨_,rfl⟩
   have hyy:y=s3.getD (i+n) 0+c3-18446744073709551616*e:=by
    rw [<-hy,Wv,<-he]
    have:=Z78 (s3.getD (i+n) 0+c3) 18446744073709551616
    omega
   have hyb:0<=y/\y<18446744073709551616:=by
    rw [<-hy,Wv];omega
   obtain ⟨s4,hs4⟩:∃s4,s3.set (i+n) y=s4:=⟨_,rfl⟩
   have g4:inB LB s4:=hs4▸Ya q2 hyb
   have gl4:s4.length=u.length:=by rw [<-hs4,Z26,q3,gl2]
   have gt4:s4.take i=s2.take i:=by rw [<-hs4,Qes (by omega),q5]
   have gd4:valB LB (s4.drop (i+n+1))=0:=by
    rw [<-hs4,Qf4 (by omega),<-Z100,q6,Z100];exact gd2
   have gv4:valB LB s4=valB LB s2+((D:Int)-e*(LB^(n+1):Nat))*(LB^i:Nat):=by
    rw [<-hs4,Ym hl3,q7,hyy,Z36,<-hD]
    have e3:=Qdv i n
    have e4:=Qdv n 1
    have e5:((LB^1:Nat):Int)=18446744073709551616:=rfl
    rw [e5] at e4
    rw [Z72,e3,e4]
    generalize ((LB^i:Nat):Int)=p
    generalize ((LB^n:Nat):Int)=p'
    grind
   have hv4:=Qkh (by omega) (by omega) gt4 gv4
   rw [hv2] at hv4
   have hlt4:valB LB (s4.drop i)<(LB^(n+1):Nat):=by
    rw [Qc1 LB (l:=s4) (i:=i) (k:=n+1) (by omega),show i+(n+1)=i+n+1 by omega,gd4,Int.mul_zero,Int.add_zero]
    have:=W2 bL (Wh (Y7 g4 i) (n+1))
    rwa [Z8,Z34,Z53 (by omega)] at this
   have hge4:=Wc (Y7 g4 i)
   have hkD:(k:Int)*D=D*Q+D:=by rw [hkQ,Z40,Int.add_mul,Z82];simp
   have hPn:=Qjf (n+1)
   have hval:valB LB (s4.drop i)=(r:Int)+((LB^(n+1):Nat):Int)-e*(LB^(n+1):Nat):=by
    generalize e*((LB^(n+1):Nat):Int)=w at *
    omega
   have heb:e=0\/e=1:=by omega
   have he1:e=1:=by
    rcases heb with h|h
    ·subst h;rw [Int.zero_mul] at hval;omega
    ·exact h
   subst he1
   rw [Int.one_mul] at hval
   have hval':valB LB (s4.drop i)=(r:Int):=by omega
   have htop:s4.getD (i+n) 0=0:=Qrs g4 (Qhg g4 (by omega) (by rw [hval'];omega))
   refine ⟨s4,?_,g4,gl4,by rw [gt4,gt2],hval'⟩
   refine (Runs.step (F:=λrec x=>z43.l2P 0 n i (n+1) d rec some x) (y:=((Q:Int),(0:Int),s4)) (λrec=>?_) (.done λrec=>?_)).lfp
   ·unfold z43.l2P
    simp only
    rw [show (!decide ((1:Int)=0))=true from rfl,er3]
    simp only [Zb,Zd,Zi]
    have hcond:(s3.set (i+n) (wr .u64 (s3.getD (i+n) 0+c3))).getD (i+n) 0=0:=by rw [hy,hs4];exact htop
    rw [if_pos (by omega),if_pos hl3,if_pos (by omega),if_pos hl3,if_pos (by omega),if_pos (by rw [Z26];exact hl3),bif_t hcond,hy,hs4,Qn (n:=(k:Int)-1) (by omega) (by omega)]
    congr 2;omega
   ·unfold z43.l2P
    simp only [decide_true,Zn,Zc]
 obtain ⟨u',k1,k2,k3,k4,k5⟩:=key
 refine ⟨u',λ{R} q rec hiq=>?_,k2,k3,k4,k5⟩
 unfold Qcc
 rw [e1]
 simp only [Zi]
 rw [e2,er1]
 simp only [Zb]
 rw [if_pos (by omega),if_pos hl1,hsub]
 simp only [Zb]
 rw [if_pos (by omega),if_pos hl1,hs2,k1]
 simp only [Zb]
 rw [if_pos (by omega),if_pos hiq,Qe (by omega) (by omega)]
end
theorem Qix {R:Type} {n:Nat} {d:J0} (hn:2<=n) (hdl:n<=d.length) (hN:n<=800000000) {d1 d2 third k r:Nat} (e1:d.getD (n-1) 0=(d1:Int)) (e2:d.getD (n-2) 0=(d2:Int)) (h1:d1<18446744073709551616) (h2:d2<18446744073709551616) (ht:third<18446744073709551616)
  (hk:k<18446744073709551616) (hr:r<18446744073709551616) (K:Int->Option R) (L:Int->Int->Option R) :
  Yw n d third K L k r=if k*d2<=r*18446744073709551616+third then K k else if r+d1<18446744073709551616 then L ((k-1:Nat):Int) ((r+d1:Nat):Int) else K ((k-1:Nat):Int):=by
 have w1:wr .i64 ((n:Int)-1)=((n-1:Nat):Int):=by rw [Qe (by omega) (by omega)];omega
 have w2:wr .i64 ((n:Int)-2)=((n-2:Nat):Int):=by rw [Qe (by omega) (by omega)];omega
 have hmul:=Qg2 (a:=(k:Int)) (b:=(d2:Int)) ⟨by omega,by omega⟩ ⟨by omega,by omega⟩
 have hnext:∀(k r:Nat),0<k->k<18446744073709551616->r<18446744073709551616->Qf9 n d K L k r=if r+d1<18446744073709551616 then L ((k-1:Nat):Int) ((r+d1:Nat):Int) else K ((k-1:Nat):Int):=λk r h0 hk hr=>by
  unfold Qf9
  rw [w1,if_pos (by omega),Zi,Z17,if_pos (by omega),e1,Qb4 (by omega) (by omega) (by omega),Int.add_zero]
  simp only [Zb]
  have ew:wr .u64 ((k:Int)-1)=((k-1:Nat):Int):=by rw [Qn (by omega) (by omega)];omega
  rw [ew]
  by_cases h:r+d1<18446744073709551616
  ·rw [if_pos h,bif_t (by omega)]
   congr 1;omega
  ·rw [if_neg h,Qb (by omega)]
 unfold Yw
 rw [w2,if_pos (by omega),Zi,Z17,if_pos (by omega),e2,hmul]
 simp only [Zb]
 have hp:(k:Int)*d2=((k*d2:Nat):Int):=(Z13 _ _).symm
 rw [hp]
 obtain ⟨p,hpp⟩:∃p,k*d2=p:=⟨_,rfl⟩
 rw [hpp]
 by_cases hc:p<=r*18446744073709551616+third
 ·rw [if_pos hc]
  by_cases ha:(p:Int)/18446744073709551616<r
  ·rw [bif_t ha]
  ·rw [Qb ha,bif_t (by omega),bif_t (by omega)]
 ·rw [if_neg hc]
  have h0:0<k:=by
   rcases Z12 k with h|h
   ·subst h;rw [Nat.zero_mul] at hpp;omega
   ·exact h
  rw [Qb (by omega),hnext k r h0 hk hr]
  by_cases ha:(p:Int)/18446744073709551616=r
  ·rw [bif_t ha,Qb (by omega)]
  ·rw [Qb ha]
theorem Qyh {R:Type} {n:Nat} {d:J0} (hn:2<=n) (hdl:n<=d.length) (hN:n<=800000000) {d1 d2 third U2 q0 r0 Q:Nat} (e1:d.getD (n-1) 0=(d1:Int)) (e2:d.getD (n-2) 0=(d2:Int)) (h1:d1<18446744073709551616) (h2:d2<18446744073709551616)
  (ht:third<18446744073709551616) (hDp:0<d1*18446744073709551616+d2) (hdm:q0*d1+r0=U2) (hml:r0<d1) (g1:q0<=Q+2) (g2:q0<18446744073709551616) (hge:Q<=q0) (hQ:(U2*18446744073709551616+third)/(d1*18446744073709551616+d2)=Q) (K:Int->Option R) (L:Int->Int->Option R) :
  Yw n d third K (Yw n d third K (Yw n d third K L)) (q0:Int) (r0:Int)=K (Q:Int):=by
 have fin:∀{q r:Nat},q*d1+r=U2->Q<=q->q*d2<=r*18446744073709551616+third->q=Q:=λ{q r} a b c=>by
  rw [<-hQ];exact Qvw a hDp (by rw [hQ];exact b) c
 have more:∀{q r:Nat},q*d1+r=U2->¬q*d2<=r*18446744073709551616+third->Q<q:=λ{q r} a c=>by
  rw [<-hQ];exact Qyv a hDp (by omega)
 have next1:∀{q r:Nat},q*d1+r=U2->Q<q->(q-1)*d1+(r+d1)=U2:=λ{q r} a c=>by
  obtain ⟨k,rfl⟩:∃k,q=k+1:=⟨q-1,by omega⟩
  rw [Z19,Z67] at a
  simp only [Nat.add_sub_cancel]
  omega
 have over:∀{q r:Nat},q*d1+r=U2->Q<=q->q<18446744073709551616->18446744073709551616<=r->q=Q:=λ{q r} a b c e=>by
  refine fin a b ?_
  have m1:q*d2<=18446744073709551615*18446744073709551615:=Z112 (by omega) (by omega)
  have m2:18446744073709551616*18446744073709551616<=r*18446744073709551616:=Z3 _ e
  omega
 rw [Qix hn hdl hN e1 e2 h1 h2 ht g2 (by omega)]
 by_cases c1:q0*d2<=r0*18446744073709551616+third
 ·rw [if_pos c1,fin hdm hge c1]
 rw [if_neg c1]
 have m1:=more hdm c1
 have n1:=next1 hdm m1
 rcases Z44 (r0+d1) 18446744073709551616 with o1|o1
 ·rw [if_pos o1,Qix hn hdl hN e1 e2 h1 h2 ht (by omega) o1]
  by_cases c2:(q0-1)*d2<=(r0+d1)*18446744073709551616+third
  ·rw [if_pos c2,fin n1 (by omega) c2]
  ·rw [if_neg c2]
   have m2:=more n1 c2
   have n2:=next1 n1 m2
   rcases Z44 (r0+d1+d1) 18446744073709551616 with o2|o2
   ·rw [if_pos o2,Qix hn hdl hN e1 e2 h1 h2 ht (by omega) o2]
    by_cases c3:(q0-1-1)*d2<=(r0+d1+d1)*18446744073709551616+third
    ·rw [if_pos c3,fin n2 (by omega) c3]
    ·have m3:=more n2 c3
     omega
   ·rw [if_neg (by omega),over n2 (by omega) (by omega) o2]
 ·rw [if_neg (by omega),over n1 (by omega) (by omega) o1]
theorem Qty {R:Type} {n:Nat} {d:J0} (hn:2<=n) (hdl:n<=d.length) (hN:n<=800000000) {d1 d2 top next third:Nat} (e1:d.getD (n-1) 0=(d1:Int)) (e2:d.getD (n-2) 0=(d2:Int)) (h1:d1<18446744073709551616) (hd1:18446744073709551616<=2*d1) (h2:d2<18446744073709551616)
  (hnx:next<18446744073709551616) (ht:third<18446744073709551616) (htop:top<d1) (K:Int->Option R) (L:Int->Int->Option R) :
  Yw n d third K (Yw n d third K (Yw n d third K L)) (((top*18446744073709551616+next)/d1:Nat):Int) (((top*18446744073709551616+next)%d1:Nat):Int) =
   K (((((top*18446744073709551616+next)*18446744073709551616+third)/(d1*18446744073709551616+d2):Nat)):Int):=by
 obtain ⟨g1,g2⟩:=Qvi (B:=18446744073709551616) (third:=third) hd1 h2 htop hnx
 exact Qyh hn hdl hN e1 e2 h1 h2 ht (by omega) (by rw [Z25];exact Z63 _ _) (Z74 _ (by omega)) g1 g2 (Qo8 (U3:=top*18446744073709551616+next) (D2:=d1) (P:=18446744073709551616) ht h2 (by omega)) rfl K L
section
variable {n:Nat} {d:J0} {D:Nat} (hn:2<=n) (hdl:n<=d.length) (hd:inB LB d) (hN:n<=800000000) (hD:(D:Int)=valB LB (d.take n)) (hD1:18446744073709551616<=2*d.getD (n-1) 0)
include hn hdl hd hN hD hD1
set_option maxRecDepth 100000 in
theorem Qvl {i U:Nat} {u:J0} (hu:inB LB u) (hiu:i+n<u.length) (hz:valB LB (u.drop (i+n+1))=0) (hlen:u.length<=900000000)
  (hU:(U:Int)=valB LB (u.drop i)) (hUD:U<D*18446744073709551616) :
  ∃u',(∀{R:Type} (q:J0) (rec done:(Int×J0×J0)->Option R),i<q.length->z43.l0aaP 0 n d rec done ((i:Int),u,q)=rec ((i:Int)-1,u',q.set i ((U/D:Nat):Int)))/\inB LB u'/\u'.length=u.length/\u'.take i=u.take i/\valB LB (u'.drop i)=((U%D:Nat):Int)/\U/D<18446744073709551616:=by
 have e1:wr .i64 (wr .i64 ((i:Int)+(n:Int))+1)=((i+n+1:Nat):Int):=by
  rw [Qe (n:=(i:Int)+n) (by omega) (by omega),Qe (by omega) (by omega)];omega
 have e2:i+n+1-i=n+1:=by omega
 have w1:wr .i64 ((n:Int)-1)=((n-1:Nat):Int):=by rw [Qe (by omega) (by omega)];omega
 have w2:wr .i64 ((n:Int)-2)=((n-2:Nat):Int):=by rw [Qe (by omega) (by omega)];omega
 obtain ⟨d1,hd1,b1⟩:=limb hd (n-1)
 obtain ⟨d2,hd2,b2⟩:=limb hd (n-2)
 obtain ⟨top,ht,bt⟩:=limb hu (i+n)
 obtain ⟨next,hnx,bn⟩:=limb hu (i+n-1)
 obtain ⟨third,h3,b3⟩:=limb hu (i+n-2)
 rw [hd1] at hD1
 obtain ⟨dl,hdl'⟩:=Ye (Wc (Wh hd (n-2)))
 obtain ⟨ul,hul'⟩:=Ye (Wc (Wh (Y7 hu i) (n-2)))
 have hdlt:dl<LB^(n-2):=by
  have:=W2 bL (Wh hd (n-2))
  rw [hdl',Z8,Z53 (by omega)] at this
  exact_mod_cast this
 have hult:ul<LB^(n-2):=by
  have:=W2 bL (Wh (Y7 hu i) (n-2))
  rw [hul',Z8,Z34,Z53 (by omega)] at this
  exact_mod_cast this
 have hDe:D=(d1*18446744073709551616+d2)*LB^(n-2)+dl:=by
  have h:=Qjw (l:=d.take n) hn (by rw [Z8];omega)
  rw [<-hD,Qad (by omega),Qad (by omega),hd1,hd2,List.take_take,Z53 (by omega),hdl'] at h
  refine Int.natCast_inj.1 ?_
  rw [h,Z40,Z13,Z40,Z13];rfl
 have hUe:U=((top*18446744073709551616+next)*18446744073709551616+third)*LB^(n-2)+ul:=by
  have h:=high hn hiu hz
  rw [<-hU,ht,hnx,h3,hul'] at h
  refine Int.natCast_inj.1 ?_
  rw [h,Z40,Z13,Z40,Z13,Z40,Z13];rfl
 have hP:0<LB^(n-2):=Z105 (by decide)
 have hD0:0<D:=by
  have:0<(d1*18446744073709551616+d2)*LB^(n-2):=Z48 (by omega) hP
  omega
 have hQB:U/D<18446744073709551616:=Z56 hUD
 have tail:∀{k:Nat},U/D<=k->k<=U/D+1->k<18446744073709551616->_:=λ{k} a b c=>Qs8 hn hdl hd hN hD hD0 hu hiu hz hlen hU a b c
 by_cases hc:d1<=top
 ·have g:=Qut (B:=18446744073709551616) (d1:=d1) (d2:=d2) (top:=top) (next:=next) (third:=third) (P:=LB^(n-2)) (ul:=ul) (dl:=dl) (by omega) b2 hult hdlt hc (by rw [<-hUe,<-hDe];exact hUD)
  rw [<-hUe,<-hDe] at g
  obtain ⟨u',t1,t2,t3,t4,t5⟩:=tail (k:=18446744073709551615) g.1 g.2 (by decide)
  refine ⟨u',λ{R} q rec done hiq=>?_,t2,t3,t4,t5,hQB⟩
  rw [Qle,bif_t (by omega),e1,if_pos (by omega),Zi i,Zi (i+n+1),Zi n,e2,if_pos (by omega),if_pos hiu,w1,if_pos (by omega),Zi (n-1),if_pos (by omega),w2,if_pos (by omega),Zi (n-2),Z17,if_pos (by omega),if_pos (by omega),if_pos (by omega),ht,hd1,bif_t (by omega)]
  exact t1 q rec hiq
 ·have q3:((top*18446744073709551616+next)*18446744073709551616+third)/(d1*18446744073709551616+d2)<18446744073709551616:=by
   refine Z56 ?_
   have h1:(top+1)*18446744073709551616<=d1*18446744073709551616:=Z3 _ (by omega)
   have h2:(top*18446744073709551616+next+1)*18446744073709551616<=(d1*18446744073709551616)*18446744073709551616:=Z3 _ (by omega)
   rw [Z25]
   omega
  have ge:=Qo8 (U3:=(top*18446744073709551616+next)*18446744073709551616+third) (D2:=d1*18446744073709551616+d2) hult hdlt (by omega)
  have le:=Qqz (U3:=(top*18446744073709551616+next)*18446744073709551616+third) (D2:=d1*18446744073709551616+d2) hult hdlt (by omega) (B:=18446744073709551616) (by omega) q3
  rw [<-hUe,<-hDe] at ge le
  obtain ⟨u',t1,t2,t3,t4,t5⟩:=tail ge le q3
  refine ⟨u',λ{R} q rec done hiq=>?_,t2,t3,t4,t5,hQB⟩
  rw [Qle,bif_t (by omega),e1,if_pos (by omega),Zi i,Zi (i+n+1),Zi n,e2,if_pos (by omega),if_pos hiu,w1,if_pos (by omega),Zi (n-1),if_pos (by omega),w2,if_pos (by omega),Zi (n-2),Z17,if_pos (by omega),if_pos (by omega),if_pos (by omega),ht,hd1,Qb (by omega),if_pos (by omega),if_pos (by omega),show i+(n-1)=i+n-1 by omega,hnx,bits_Div64 (by omega) bn b1]
  simp only [Zb]
  rw [show i+(n-2)=i+n-2 by omega,h3,Qty hn hdl hN hd1 hd2 b1 (by omega) b2 bn b3 (by omega)]
  exact t1 q rec hiq
theorem Qo3 {a:J0} {N:Nat} (ha:inB LB a) (hal:a.length<=900000000) (hNa:(N:Int)=valB LB a) :
  ∀
   (k:Nat),k+n<=a.length->∀(m:Nat) (u q:J0),(m:Int)=valB LB (a.drop k)->inB LB u->u.length=a.length->u.take k=a.take k->valB LB (u.drop k)=((m%D:Nat):Int) ->
   q.length=a.length-n->inB LB q->valB LB (q.drop k)=((m/D:Nat):Int) ->
   ∃u' q',Runs (λrec x=>z43.l0aaP 0 n d rec some x) ((k:Int)-1,u,q) ((-1:Int),u',q')/\q'.length=a.length-n/\inB LB q'/\valB LB q'=((N/D:Nat):Int)/\inB LB u'/\u'.length=a.length/\valB LB u'=((N%D:Nat):Int)
 |
  0,hk,m,u,q,hm,hu,hul,hut,huv,hq,hqi,hqv=>by
  have:m=N:=by rw [Z36] at hm;omega
  subst this
  rw [Z36] at huv hqv
  refine ⟨u,q,.done λrec=>?_,hq,hqi,hqv,hu,hul,huv⟩
  unfold z43.l0aaP
  simp only
  rw [Qb (by omega)];rfl
 |
  k+1,hk,m,u,q,hm,hu,hul,hut,huv,hq,hqi,hqv=>by
  have hD0:0<D:=by
   rcases Z12 D with h|h
   ·exfalso
    subst h
    have h2:=Qjw (l:=d.take n) hn (by rw [Z8];omega)
    rw [<-hD,Qad (by omega),Qad (by omega)] at h2
    have h3:=Wc (Wh (Wh hd n) (n-2))
    have h4:=Q5 (B:=LB) (by decide) hd (n-2)
    have h5:=Qjf (n-2)
    have h6:=Int.mul_pos (show 0<d.getD (n-1) 0*18446744073709551616+d.getD (n-2) 0 by omega) h5
    omega
   ·exact h
  have hkq:k<q.length:=by omega
  obtain ⟨x,hx,hxb⟩:=limb ha k
  have hux:u.getD k 0=(x:Int):=by
   have h1:(u.take (k+1)).getD k 0=u.getD k 0:=Qad (by omega)
   have h2:(a.take (k+1)).getD k 0=a.getD k 0:=Qad (by omega)
   rw [<-h1,hut,h2,hx]
  obtain ⟨r,hr⟩:∃r,m%D=r:=⟨_,rfl⟩
  have hrD:r<D:=hr▸Z74 m hD0
  obtain ⟨y,hy⟩:∃y,m/D=y:=⟨_,rfl⟩
  rw [hr] at huv;rw [hy] at hqv
  have hDlt:=D_lt hdl hd hD
  have hUv:((x+18446744073709551616*r:Nat):Int)=valB LB (u.drop k):=by
   rw [Wf,hux,huv,Z40,Z13]
  have hz:valB LB (u.drop (k+n+1))=0:=by
   rw [show k+n+1=k+1+n by omega]
   exact Qhg hu (by omega) (by rw [huv];omega)
  have hUD:x+18446744073709551616*r<D*18446744073709551616:=by
   have:(r+1)*18446744073709551616<=D*18446744073709551616:=Z3 _ hrD
   omega
  have hmm:D*y+r=m:=by rw [<-hy,<-hr];exact Z63 m D
  have hm':((x+LB*m:Nat):Int)=valB LB (a.drop k):=by rw [Wf,hx,<-hm,Z40,Z13]
  have e:x+LB*m=x+18446744073709551616*r+D*(LB*y):=by
   have h4:D*(LB*y)=LB*(D*y):=by rw [<-Z46,Z25 D LB,Z46]
   have h5:LB*m=LB*(D*y)+LB*r:=by rw [<-hmm,Z111]
   rw [h4,h5]
   have:LB*r=18446744073709551616*r:=rfl
   omega
  have hdiv:(x+LB*m)/D=(x+18446744073709551616*r)/D+LB*y:=by rw [e,Nat.add_mul_div_left _ _ hD0]
  have hmod:(x+LB*m)%D=(x+18446744073709551616*r)%D:=by rw [e,Z93]
  have hQB:(x+18446744073709551616*r)/D<18446744073709551616:=Z56 hUD
  obtain ⟨u0,t1,t2,t3,t4,t5,_⟩:=Qvl hn hdl hd hN hD hD1 hu (show k+n<u.length by omega) hz (by omega) hUv hUD
  have hvq:valB LB ((q.set k (((x+18446744073709551616*r)/D:Nat):Int)).drop k)=(((x+LB*m)/D:Nat):Int):=by
   rw [Wf,Qg8,hqv,hdiv]
   have:(q.set k (((x+18446744073709551616*r)/D:Nat):Int)).getD k 0=(((x+18446744073709551616*r)/D:Nat):Int):=by simp [List.getD,hkq]
   rw [this,Z40,Z13]
  obtain ⟨u',q',r1,r2,r3,r4,r5,r6,r7⟩:=Qo3 ha hal hNa k (by omega) (x+LB*m) u0 (q.set k (((x+18446744073709551616*r)/D:Nat):Int)) hm' t2 (by omega) (by
   rw [t4]
   have h1:=congrArg (List.take k) hut
   rw [List.take_take,List.take_take,Z53 (by omega)] at h1
   exact h1) (by rw [t5,hmod]) (by rw [Z26];exact hq) (Ya hqi ⟨Z55 _,Int.ofNat_lt.2 hQB⟩) hvq
  refine ⟨u',q',.step (λrec=>?_) r1,r2,r3,r4,r5,r6,r7⟩
  have ek:((k+1:Nat):Int)-1=(k:Int):=by omega
  rw [ek]
  exact t1 q rec some hkq
end
theorem Qbh {k:Nat} (hk:k<=64):2^(64-k)*2^k=18446744073709551616:=by rw [<-Z97,show 64-k+k=64 by omega]
theorem Qjq {c w k:Nat} (hk:k<=64) (hc:c<2^k) (hw:w<2^(64-k)):wr .u64 ((BitVec.ofInt (IntKind.bits .u64) (c:Int) ||| BitVec.ofInt (IntKind.bits .u64) ((w*2^k:Nat):Int)).toNat:Int)=((w*2^k+c:Nat):Int)/\w*2^k+c<18446744073709551616:=by
 have h:w*2^k+c<18446744073709551616:=by
  have h1:(w+1)*2^k<=2^(64-k)*2^k:=Z3 _ hw
  rw [Qbh hk,Z19,Z67] at h1
  omega
 rw [BitVec.or_comm]
 exact ⟨Qp3 hc h,h⟩
theorem Qgn {x k:Nat} (hk:k<=64):x*2^k%18446744073709551616=x%2^(64-k)*2^k:=by
 rw [<-Qbh hk,Nat.mul_mod_mul_right]
theorem Qnl {a:J0} {k:Nat} (hk:k<=63) (ha:inB LB a) (hal:a.length<=900000000):∀(f i:Nat) (s:J0),i+f=a.length->inB LB s->s.length=a.length+1->(∀j,i<j->s.getD j 0=0)->s.getD i 0<(2^k:Nat)->valB LB s=(2^k:Nat)*valB LB (a.take i) ->
  ∃s',Runs (λrec x=>z43.l0P (k:Int) a (a.length:Int) rec some x) ((i:Int),s) ((a.length:Int),s')/\inB LB s'/\s'.length=a.length+1/\valB LB s'=(2^k:Nat)*valB LB a
 |
  0,i,s,hf,hs,hl,hz,hc,hv=>by
  have:i=a.length:=by omega
  subst this
  refine ⟨s,.done λrec=>?_,hs,hl,by rwa [Z96] at hv⟩
  unfold z43.l0P
  simp only
  rw [Qb (by omega)]
 |
  f+1,i,s,hf,hs,hl,hz,hc,hv=>by
  have hi:i<a.length:=by omega
  obtain ⟨x,hx,hxb⟩:=limb ha i
  obtain ⟨c,hcs,hcb⟩:=limb hs i
  rw [hcs] at hc
  have hc':c<2^k:=by exact_mod_cast hc
  have hp:=Z64 k
  have hp':=Z64 (64-k)
  have hw:=Z74 x hp'
  obtain ⟨o1,o2⟩:=Qjq (by omega) hc' hw
  have hmod:=Qgn (x:=x) (show k<=64 by omega)
  have hparts:=Ql5 (hi:=0) (lo:=x) (s:=k) (by omega)
  rw [Nat.zero_mul,Nat.zero_mul,Z17,Z17,hmod] at hparts
  have hxd:x/2^(64-k)<2^k:=by
   refine Z56 ?_
   rw [Qbh (by omega)];exact hxb
  have hkB:2^k<=9223372036854775808:=Z33 (n:=2) (by decide) hk
  generalize x%2^(64-k)=w at *
  obtain ⟨h,hh⟩:∃h,x/2^(64-k)=h:=⟨_,rfl⟩
  rw [hh] at hxd hparts
  obtain ⟨nw,hnw⟩:∃nw,w*2^k+c=nw:=⟨_,rfl⟩
  rw [hnw] at o1 o2
  have e1:wr .u64 ((x:Int)*2^k)=((w*2^k:Nat):Int):=by
   rw [show (x:Int)*2^k=((x*2^k:Nat):Int) by push_cast;rfl,Wv,<-hmod];rfl
  have e2:wr .u64 ((64:Int)-k)=((64-k:Nat):Int):=by rw [Qn (by omega) (by omega)];omega
  have e3:min k 64=k:=by omega
  have e4:min (64-k) 64=64-k:=by omega
  have his:i<s.length:=by omega
  have his':i+1<(s.set i (nw:Int)).length:=by rw [Z26];omega
  obtain ⟨s',r1,r2,r3,r4⟩:=Qnl hk ha hal f (i+1) ((s.set i (nw:Int)).set (i+1) (h:Int)) (by omega) (Ya (Ya hs ⟨Z55 _,Int.ofNat_lt.2 (show nw<18446744073709551616 from o2)⟩) ⟨Z55 _,Int.ofNat_lt.2 (show h<18446744073709551616 by omega)⟩) (by rw [Z26,Z26];exact hl)
   (λj hj=>by rw [Qa3 (by omega),Qa3 (by omega)];exact hz j (by omega))
   (by
    have:((s.set i (nw:Int)).set (i+1) (h:Int)).getD (i+1) 0=(h:Int):=by
     rw [Z26] at his'
     simp [List.getD,his']
    rw [this];exact_mod_cast hxd)
   (by
    rw [Ym his',Ym his,Qa3 (by omega),hz (i+1) (by omega),hcs,hv,J5 hi,<-W1 hi,hx]
    have e5:((LB^(i+1):Nat):Int)=18446744073709551616*(LB^i:Nat):=by
     rw [Z45,Z25,Z13];rfl
    have e6:(nw:Int)=w*(2^k:Nat)+c:=by rw [<-hnw,Z40,Z13]
    have e7:(x:Int)*(2^k:Nat)=h*18446744073709551616+w*(2^k:Nat):=by
     have:=congrArg (λn:Nat=>(n:Int)) hparts
     simp only [Z40,Z13] at this
     exact this
    rw [e5,e6]
    generalize ((LB^i:Nat):Int)=p
    generalize ((2^k:Nat):Int)=t at *
    generalize valB LB (a.take i)=v
    grind)
  refine ⟨s',.step (λrec=>?_) r1,r2,r3,r4⟩
  have ek:wr .i64 ((i:Int)+1)=((i+1:Nat):Int):=by rw [Qe (by omega) (by omega)];rfl
  unfold z43.l0P
  simp only [ek,e2]
  rw [bif_t (by omega),if_pos (by omega),if_pos (by omega),Zi i,if_pos his,if_pos (by omega),if_pos (by omega),if_pos his,if_pos (by omega),Zi k,e3,hx,hcs,e1,o1,if_pos (by rw [Z26];omega),Zi (i+1),if_pos his',Zi (64-k),e4,Jz,hh]
theorem Qn7 {a:J0} {k:Nat} (hk:k<=63) (ha:inB LB a) (hal:a.length<=900000000):∃s,z43.l0 (k:Int) a (a.length:Int) ((0:Int),List.replicate (a.length+1) (0:Int))=some ((a.length:Int),s)/\z43.l0a (k:Int) a (a.length:Int) ((0:Int),List.replicate (a.length+1) (0:Int))=some ((a.length:Int),s)/\inB LB s/\s.length=a.length+1/\valB LB s=(2^k:Nat)*valB LB a:=by
 have hp:=Z64 k
 obtain ⟨s,r1,r2,r3,r4⟩:=Qnl hk ha hal a.length 0 (List.replicate (a.length+1) 0) (by omega) (Qa8 (by decide) _) (by simp) (λj _=>Qc3 _ j) (by rw [Qc3];omega) (by rw [Qb5];simp [valB])
 exact ⟨s,r1.lfp,r1.lfp,r2,r3,r4⟩
def shrL (k:Nat):J0->J0
 |[]=>[]
 |[x]=>[x/(2^k:Nat)]
 |x::y::l=>(y*(2^(64-k):Nat)%18446744073709551616+x/(2^k:Nat))::shrL k (y::l)
theorem Ql0 (k:Nat):∀l:J0,(shrL k l).length=l.length
 |[]=>rfl
 |[x]=>rfl
 |x::y::l=>by simp [shrL,Ql0 k (y::l)]
theorem Qoj {k:Nat} (hk:k<=63):∀{l:J0},inB LB l->valB LB (shrL k l)=valB LB l/(2^k:Nat)
 |[],_=>by simp [shrL,valB]
 |[x],h=>by simp [shrL,valB]
 |
  x::y::l,h=>by
  rw [Ww] at h
  have ih:=Qoj hk h.2
  have hp:(0:Int)<(2^k:Nat):=by exact_mod_cast Z64 k
  have hp':(0:Int)<(2^(64-k):Nat):=by exact_mod_cast Z64 (64-k)
  have hB:((2^(64-k):Nat):Int)*(2^k:Nat)=18446744073709551616:=by
   rw [<-Z13,Qbh (by omega)];rfl
  show y*(2^(64-k):Nat)%18446744073709551616+x/(2^k:Nat)+(LB:Nat)*valB LB (shrL k (y::l))=(x+(LB:Nat)*valB LB (y::l))/(2^k:Nat)
  rw [ih]
  have hW:valB LB (y::l)=y+(LB:Nat)*valB LB l:=rfl
  have e:((LB:Nat):Int)=18446744073709551616:=rfl
  rw [e] at hW ⊢
  generalize valB LB (y::l)=W at *
  generalize valB LB l=W' at *
  generalize ((2^k:Nat):Int)=p at *
  generalize ((2^(64-k):Nat):Int)=p' at *
  have e1:(x+18446744073709551616*W)/p=x/p+p'*W:=by
   rw [<-hB,Int.mul_right_comm,Z82 (p'*W) p,Int.add_mul_ediv_left _ _ (Int.ne_of_gt hp)]
  have e2:p'*W/18446744073709551616=W/p:=by
   rw [<-hB,Int.mul_ediv_mul_of_pos _ _ hp']
  have e3:p'*W%18446744073709551616=y*p'%18446744073709551616:=by
   rw [hW,Int.mul_add,Int.mul_left_comm p',Int.add_mul_emod_self_left,Z82]
  have e4:=Z78 (p'*W) 18446744073709551616
  rw [e2,e3] at e4
  rw [e1]
  omega
theorem Qni {k:Nat} (hk:k<=63):∀(l P:J0),inB LB l->P.length+l.length<=900000000 ->
  Runs (λrec x=>z41.l0P 0 (P.length+l.length) (k:Int) ((P.length+l.length:Nat):Int) rec some x) ((P.length:Int),P++l) (((P.length+l.length:Nat):Int),P++shrL k l)
 |
  [],P,_,_=>by
  refine .done λrec=>?_
  unfold z41.l0P
  simp only [Z54,Z72]
  rw [Qb (by omega)];rfl
 |
  x::l,P,h,hl=>by
  rw [Ww] at h
  simp only [Z10] at hl ⊢
  obtain ⟨n,hn⟩:=Ye h.1.1
  have hnb:n<18446744073709551616:=by have:=h.1.2;rw [hn] at this;exact_mod_cast this
  have g1:(P++x::l).getD P.length 0=(n:Int):=by rw [<-hn];simp [List.getD]
  have e0:min k 64=k:=by omega
  have e2:wr .u64 ((64:Int)-k)=((64-k:Nat):Int):=by rw [Qn (by omega) (by omega)];omega
  have e4:min (64-k) 64=64-k:=by omega
  have ek:wr .i64 ((P.length:Int)+1)=((P.length+1:Nat):Int):=by rw [Qe (by omega) (by omega)];rfl
  have hset:∀v:Int,(P++x::l).set P.length v=P++v::l:=λv=>by simp
  have hlen:∀v:Int,(P++v::l).length=P.length+(l.length+1):=λv=>by simp
  have hp:=Z64 k
  have hnk:n/2^k<2^(64-k):=by
   refine Z56 ?_
   rw [Z25,Qbh (by omega)];exact hnb
  cases l with
  |
   nil=>
   simp only [Z54,Z17] at hl hlen ⊢
   refine .step (y:=(((P.length+1:Nat):Int),P++[x/(2^k:Nat)])) (λrec=>?_) (.done λrec=>?_)
   ·unfold z41.l0P
    simp only [Z17,ek]
    rw [bif_t (by omega),if_pos (by omega),Zi P.length,if_pos (by rw [hlen];omega),if_pos (by omega),if_pos (by omega),if_pos (by rw [hlen];omega),Qb (by omega),g1,Zi k,e0,Jz,hset,hn]
    rfl
   ·unfold z41.l0P
    simp only [Z17]
    rw [Qb (by omega)];rfl
  |
   cons y l=>
   have hy:=h.2
   rw [Ww] at hy
   obtain ⟨m,hm⟩:=Ye hy.1.1
   have hmb:m<18446744073709551616:=by have:=hy.1.2;rw [hm] at this;exact_mod_cast this
   have ih:=Qni hk (y::l) (P++[y*(2^(64-k):Nat)%18446744073709551616+x/(2^k:Nat)]) h.2 (by simp only [Z9,Z10,Z54] at hl ⊢;omega)
   simp only [Z9,Z10,Z54,Z90,List.singleton_append] at ih
   rw [show P.length+(0+1)+(l.length+1)=P.length+(l.length+1+1) by omega,show P.length+(0+1)=P.length+1 by omega] at ih
   refine .step (λrec=>?_) ih
   have g2:∀v:Int,(P++v::y::l).getD (P.length+1) 0=(m:Int):=λv=>by rw [<-hm];simp [List.getD]
   have g3:∀v:Int,(P++v::y::l).getD P.length 0=v:=λv=>by simp [List.getD]
   have hset2:∀v w:Int,(P++v::y::l).set P.length w=P++w::y::l:=λv w=>by simp
   have hmm:=Qgn (x:=m) (k:=64-k) (by omega)
   rw [show 64-(64-k)=k by omega] at hmm
   have hmk:=Z74 m hp
   obtain ⟨o1,_⟩:=Qjq (c:=n/2^k) (w:=m%2^k) (k:=64-k) (by omega) hnk (by rw [show 64-(64-k)=k by omega];exact hmk)
   have e5:wr .u64 ((m:Int)*2^(64-k))=((m%2^k*2^(64-k):Nat):Int):=by
    rw [show (m:Int)*2^(64-k)=((m*2^(64-k):Nat):Int) by push_cast;rfl,Wv,<-hmm];rfl
   have e6:y*(2^(64-k):Nat)%18446744073709551616+x/(2^k:Nat)=((m%2^k*2^(64-k)+n/2^k:Nat):Int):=by
    rw [hm,hn,Z40,<-hmm];rfl
   simp only [Z10] at hlen
   unfold z41.l0P
   simp only [Z17,ek,e2,Z10]
   rw [bif_t (by omega),if_pos (by omega),Zi P.length,if_pos (by rw [hlen];omega),if_pos (by omega),if_pos (by omega),if_pos (by rw [hlen];omega),bif_t (by omega),g1,Zi k,e0,Jz,hset,if_pos (by omega),if_pos (by rw [hlen];omega),if_pos (by omega),Zi (P.length+1),if_pos (by rw [hlen];omega),if_pos (by omega),if_pos (by omega),if_pos (by rw [hlen];omega),g2,g3,hset2,Zi (64-k),e4,e5,o1,e6]
theorem quot_Shr {v k:Nat} (hk:k<=63) (hl:(lb v).length<=800000000):z41.F (lb v) (k:Int)=some (lb (v/2^k),0):=by
 have ht:Int.tdiv (k:Int) 64=0:=by rw [Y6 (by omega)];omega
 have hm:Int.tmod (k:Int) 64=(k:Int):=by rw [Jh (by omega)];omega
 have h0:wr .i64 0=0:=by decide
 have hw:wr .u64 (k:Int)=(k:Int):=Qn (by omega) (by omega)
 have hi:(if (((lb v).length:Nat):Int)<0 then (((lb v).length:Nat):Int) else (0:Int))=0:=by rw [if_neg (by omega)]
 have hr:=(Qni hk (lb v) [] (Q4 bL v) (by simp only [Z54];omega)).lfp
 simp only [Z54,Z17,Z103] at hr
 have er:z41.l0 0 (lb v).length (k:Int) (((lb v).length:Nat):Int) ((0:Int),lb v)=some ((((lb v).length:Nat):Int),shrL k (lb v)):=hr
 have hv:=Qoj hk (Q4 bL v)
 rw [Wn bL] at hv
 have hlen:=Ql0 k (lb v)
 have hval:∀i:Nat,(shrL k (lb v)).getD i 0=(shrL k (lb v)).getD i 0:=λ_=>rfl
 have hin:inB LB (shrL k (lb v)):=by
  have key:∀l:J0,inB LB l->inB LB (shrL k l):=by
   intro l
   induction l with
   |nil=>intro _;exact inB_nil _
   |
    cons x l ih=>
    intro h
    rw [Ww] at h
    obtain ⟨n,hn⟩:=Ye h.1.1
    have hnb:n<18446744073709551616:=by have:=h.1.2;rw [hn] at this;exact_mod_cast this
    have hp:=Z64 k
    have hnk:n/2^k<2^(64-k):=by
     refine Z56 ?_
     rw [Z25,Qbh (by omega)];exact hnb
    cases l with
    |
     nil=>
     refine Ww.2 ⟨⟨?_,?_⟩,inB_nil _⟩
     ·rw [hn];exact Z55 (n/2^k)
     ·rw [hn]
      have:=Z95 n (2^k)
      exact Int.ofNat_lt.2 (show n/2^k<18446744073709551616 by omega)
    |
     cons y l=>
     have hy:=h.2
     rw [Ww] at hy
     obtain ⟨m,hm⟩:=Ye hy.1.1
     have hmm:=Qgn (x:=m) (k:=64-k) (by omega)
     rw [show 64-(64-k)=k by omega] at hmm
     have hmk:=Z74 m hp
     obtain ⟨_,o2⟩:=Qjq (c:=n/2^k) (w:=m%2^k) (k:=64-k) (by omega) hnk (by rw [show 64-(64-k)=k by omega];exact hmk)
     have e6:y*(2^(64-k):Nat)%18446744073709551616+x/(2^k:Nat)=((m%2^k*2^(64-k)+n/2^k:Nat):Int):=by
      rw [hm,hn,Z40,<-hmm];rfl
     refine Ww.2 ⟨?_,ih h.2⟩
     rw [e6]
     exact ⟨Z55 _,Int.ofNat_lt.2 o2⟩
  exact key _ (Q4 bL v)
 unfold z41.F z40.F
 rw [Qb (by omega),Zf (by omega)]
 simp only [Zb,Zc]
 rw [ht,hm,h0,hw,hi,if_pos (by omega),if_pos (by omega)]
 simp only [Int.toNat_zero,Nat.sub_zero]
 rw [er]
 simp only [Zb,Z36]
 rw [Z28 (by omega),Qcj hin (by show List.length _<=_;omega),hv]
 simp only [Zb]
 congr 3
theorem Qdz (n:Nat):inB LB (lb n):=Q4 bL n
theorem Qw7 {x s:Nat} (hs:s<=63) (h:x*2^s<18446744073709551616):(x+1)*2^s<=18446744073709551616:=by
 rw [<-Qbh (show s<=64 by omega)] at h ⊢
 have:=Nat.lt_of_mul_lt_mul_right h
 exact Z3 _ (by omega)
theorem Qr9 {a b:Nat} (hb:2<=(lb b).length) (hab:(lb b).length<=(lb a).length) (hl:(lb a).length<=700000000) :
  ∃q,z43.F (lb a) (lb b)=some (q,lb (a%b))/\inB LB q/\q.length<=900000000/\valB LB q=((a/b:Nat):Int):=by
 obtain ⟨n,hn⟩:∃n,(lb b).length=n:=⟨_,rfl⟩
 obtain ⟨la,hla⟩:∃n,(lb a).length=n:=⟨_,rfl⟩
 have hb0:0<b:=by
  rcases Z12 b with h|h
  ·subst h;rw [lb_zero] at hb;simp at hb
  ·exact h
 obtain ⟨x,hx,hxb⟩:=limb (Qdz b) (n-1)
 have hsplit:=Qbc LB (l:=lb b) (k:=n-1) (by omega)
 have hd1:=Wf (B:=LB) (lb b) (n-1)
 rw [show n-1+1=n by omega,show List.drop n (lb b)=[] from Z21 (by omega),show valB LB []=0 from rfl,Int.mul_zero,Int.add_zero,hx] at hd1
 rw [Wn bL,hd1] at hsplit
 have hlow:=W2 bL (Wh (Qdz b) (n-1))
 rw [Z8,Z53 (by omega)] at hlow
 have hlow0:=Wc (Wh (Qdz b) (n-1))
 obtain ⟨bl,hbl⟩:=Ye hlow0
 rw [hbl] at hsplit hlow
 have hbe:b=LB^(n-1)*x+bl:=by
  have:(b:Int)=((LB^(n-1)*x+bl:Nat):Int):=by rw [hsplit,Z40,Z13];omega
  exact_mod_cast this
 have hblt:bl<LB^(n-1):=by exact_mod_cast hlow
 have hx0:0<x:=by
  have hne:lb b≠[]:=λe=>by rw [e] at hb;simp at hb
  have h1:(lb b).getLast hne≠0:=Qhn bL b hne
  rw [List.getLast_eq_getElem] at h1
  have e:(lb b).getD ((lb b).length-1) 0=(lb b)[(lb b).length-1]'(by omega):=by simp [List.getD,show (lb b).length-1<(lb b).length by omega]
  have hx':(lb b).getD ((lb b).length-1) 0=(x:Int):=by rw [hn];exact hx
  rw [hx'] at e
  rcases Z12 x with h|h
  ·subst h;exact absurd e.symm h1
  ·exact h
 obtain ⟨s,hs,s1,s2,hlead⟩:=Qpq hx0 hxb
 have hp:=Z64 s
 obtain ⟨u0,mu,_,iu,lu,vu⟩:=Qn7 hs (Qdz a) (by omega)
 obtain ⟨d0,_,md,id,ld,vd⟩:=Qn7 hs (Qdz b) (by omega)
 rw [Wn bL] at vu vd
 rw [hla] at mu lu
 rw [hn] at md ld
 obtain ⟨P,hP⟩:∃P,LB^(n-1)=P:=⟨_,rfl⟩
 have hPp:0<P:=hP▸Z105 (by decide)
 have hPn:LB^n=P*18446744073709551616:=by
  rw [<-hP,show n=n-1+1 by omega,Z45];simp
 rw [hP] at hbe hblt
 have hDlt:b*2^s<LB^n:=by
  have h1:b<P*(x+1):=by rw [Z111,Z113];omega
  have h2:b*2^s<P*(x+1)*2^s:=Z81 h1 hp
  have h3:P*((x+1)*2^s)<=P*18446744073709551616:=Z49 _ (Qw7 hs s2)
  rw [Z46] at h2
  omega
 have hDge:P*9223372036854775808<=b*2^s:=by
  have h1:P*x*2^s<=b*2^s:=Z3 _ (by omega)
  have h2:P*9223372036854775808<=P*(x*2^s):=Z49 _ s1
  rw [Z46] at h1
  omega
 have hvd:valB LB d0=((b*2^s:Nat):Int):=by rw [vd,Z13,Z82]
 have hvu:valB LB u0=((a*2^s:Nat):Int):=by rw [vu,Z13,Z82]
 have hd0z:valB LB (d0.drop n)=0:=by
  have:=Qhg id (i:=0) (n:=n) (by omega) (by rw [Z36,hvd];exact Int.ofNat_lt.2 hDlt)
  rwa [Z17] at this
 have hD:((b*2^s:Nat):Int)=valB LB (d0.take n):=by
  rw [<-hvd,Qbc LB (l:=d0) (k:=n) (by omega),hd0z,Int.mul_zero,Int.add_zero]
 have hD1:18446744073709551616<=2*d0.getD (n-1) 0:=by
  obtain ⟨t,ht,htb⟩:=limb id (n-1)
  have h1:=Qbc LB (l:=d0) (k:=n-1) (by omega)
  have h2:=Wf (B:=LB) d0 (n-1)
  rw [show n-1+1=n by omega,hd0z,Int.mul_zero,Int.add_zero,ht] at h2
  rw [hvd,h2] at h1
  have h3:=W2 bL (Wh id (n-1))
  rw [Z8,Z53 (by omega)] at h3
  obtain ⟨w,hw⟩:=Ye (Wc (Wh id (n-1)))
  rw [hw,hP] at h1 h3
  have h4:b*2^s=P*t+w:=by
   have:((b*2^s:Nat):Int)=((P*t+w:Nat):Int):=by rw [h1,Z40,Z13];omega
   exact Int.natCast_inj.1 this
  have h5:w<P:=by exact_mod_cast h3
  have h6:P*9223372036854775808<P*(t+1):=by rw [Z111,Z113];omega
  have h7:=Nat.lt_of_mul_lt_mul_left h6
  rw [ht];omega
 have hD0:0<b*2^s:=Z48 hb0 hp
 obtain ⟨m,hm⟩:=Ye (Wc (Y7 iu (la+1-n)))
 have hmD:m<b*2^s:=by
  have h1:=Qbc LB (l:=u0) (k:=la+1-n) (by omega)
  rw [hvu,hm] at h1
  obtain ⟨w,hw⟩:=Ye (Wc (Wh iu (la+1-n)))
  rw [hw] at h1
  have h2:a*2^s=w+LB^(la+1-n)*m:=by
   have:((a*2^s:Nat):Int)=((w+LB^(la+1-n)*m:Nat):Int):=by rw [h1,Z40,Z13]
   exact Int.natCast_inj.1 this
  have h3:a<LB^la:=hla▸Qa4 bL
  have h4:LB^la=LB^(la+1-n)*P:=by rw [<-hP,<-Z97];congr 1;omega
  have h5:a*2^s<LB^(la+1-n)*P*2^s:=by rw [<-h4];exact Z81 h3 hp
  rw [Z46] at h5
  have h6:LB^(la+1-n)*m<LB^(la+1-n)*(P*2^s):=by omega
  have h7:=Nat.lt_of_mul_lt_mul_left h6
  have h8:P*2^s<=P*9223372036854775808:=Z49 _ (Z33 (n:=2) (by decide) hs)
  omega
 obtain ⟨u',q',r1,r2,r3,r4,r5,r6,r7⟩:=Qo3 (n:=n) (d:=d0) (D:=b*2^s) (by omega) (by omega) id (by omega) hD hD1 (a:=u0) (N:=a*2^s) iu (by omega) hvu.symm (la+1-n) (by omega) m u0 (List.replicate (la+1-n) 0) hm.symm iu rfl rfl (by rw [Z106 hmD];exact hm) (by rw [Z79];omega) (Qa8 (by decide) _)
  (by rw [Z21 (by rw [Z79];omega),Nat.div_eq_of_lt hmD];rfl)
 have hq:a*2^s/(b*2^s)=a/b:=Nat.mul_div_mul_right _ _ hp
 have hr:a*2^s%(b*2^s)=a%b*2^s:=Nat.mul_mod_mul_right _ _ _
 rw [hq] at r4
 rw [hr] at r7
 have er:z43.l0aa 0 n d0 (((la+1-n:Nat):Int)-1,u0,List.replicate (la+1-n) 0)=some ((-1:Int),u',q'):=r1.lfp
 refine ⟨q',?_,r3,by omega,r4⟩
 have hml:a%b<=a:=Nat.mod_le a b
 have w1:wr .i64 ((n:Int)-1)=((n-1:Nat):Int):=by rw [Qe (by omega) (by omega)];omega
 have w2:wr .i64 ((la:Int)+1)=((la+1:Nat):Int):=by rw [Qe (by omega) (by omega)];rfl
 have w3:wr .i64 ((n:Int)+1)=((n+1:Nat):Int):=by rw [Qe (by omega) (by omega)];rfl
 have w4:wr .i64 (((la+1:Nat):Int)-(n:Int))=((la+1-n:Nat):Int):=by rw [Qe (by omega) (by omega)];omega
 have w5:wr .i64 (((la+1-n:Nat):Int)-1)=((la+1-n:Nat):Int)-1:=Qe (by omega) (by omega)
 have w6:wr .u64 (s:Int)=(s:Int):=Qn (by omega) (by omega)
 have w7:wr .i64 (s:Int)=(s:Int):=Qe (by omega) (by omega)
 have hu':u'.length=la+1:=by omega
 have hlr:(lb (a%b*2^s)).length<=la+1:=by
  have h1:=W2 bL r5
  rw [r7,hu'] at h1
  exact Yh bL (Int.ofNat_lt.1 h1)
 unfold z43.F
 rw [hn,w1,if_pos (by omega),Zi (n-1),hx,hlead]
 simp only [Zb]
 rw [hla,w2,if_pos (by omega),w6,Zi (la+1),mu]
 simp only [Zb]
 rw [w3,if_pos (by omega),Zi (n+1),md]
 simp only [Zb]
 rw [if_pos (by omega),lu,Zi n,w4,if_pos (by omega),Zi (la+1-n),Z79,w5,er]
 simp only [Zb]
 rw [Qcj r5 (by show List.length _<=_;omega),r7,Zi]
 simp only [Zb]
 rw [w7,quot_Shr hs (by omega),Nat.mul_div_cancel _ hp]
 simp only [Zb]
 have hlm:(lb (a%b)).length<=la:=by
  have:=Yh bL (B:=LB) (n:=a%b) (k:=la) (Nat.lt_of_le_of_lt hml (hla▸Qa4 bL))
  exact this
 rw [J3 (by show List.length _<=_;omega)]
 rfl
theorem Qpo {a b:Nat} (hb:0<b) (ha:(lb a).length<=700000000):Yy a b:=by
 rcases Z44 a b with h|h
 ·exact Qhe h (by omega)
 rcases Z44 b 18446744073709551616 with hs|hs
 ·exact Qjz hb hs (by omega)
 have hab:(lb b).length<=(lb a).length:=by
  rcases Z44 (lb a).length (lb b).length with h'|h'
  ·have:=Qe8 bL h';omega
  ·exact h'
 have hb2:2<=(lb b).length:=by
  rcases Z44 (lb b).length 2 with h'|h'
  ·exfalso
   have h1:b<LB^(lb b).length:=Qa4 bL
   have h2:LB^(lb b).length<=LB^1:=Z33 (by decide) (by omega)
   have h3:LB^1=18446744073709551616:=rfl
   omega
  ·exact h'
 obtain ⟨q,q1,q2,q3,q4⟩:=Qr9 hb2 hab ha
 unfold Yy z44.F
 rw [Wy]
 simp only [Zb]
 rw [Qb (by omega),Qcm (by omega)]
 simp only [Zb]
 have:¬cmpI (a:Int) b<0:=by unfold cmpI;rw [if_neg (by omega)];split<;>omega
 rw [Qb this,J3 (by show List.length _<=_;omega),J3 (by show List.length _<=_;omega)]
 simp only [Zb]
 rw [Qb (by omega),q1]
 simp only [Zb]
 have hml:=Nat.mod_le a b
 have hlm:(lb (a%b)).length<=(lb a).length:=Yh bL (Nat.lt_of_le_of_lt hml (Qa4 bL))
 rw [Qcj q2 (by show List.length _<=_;omega),q4,Qw3 (by show List.length _<=_;omega)]
 rfl
theorem Qg6 {M:Nat} (h:sz M<=700000000):Qbb M:=λx y hx _ hy=>Qpo hy (Z11 (Qk x) (Z11 (Q8 hx) h))
theorem Qae (m n:Nat):sz (m+n)<=max (sz m) (sz n)+1:=sz_le (by
 have h1:m<10^max (sz m) (sz n):=Z14 (J9 m) (Z33 (by decide) (by omega))
 have h2:n<10^max (sz m) (sz n):=Z14 (J9 n) (Z33 (by decide) (by omega))
 rw [Z45];omega)
theorem Qh0 (a b:Int):sz (a+b).natAbs<=max (sz a.natAbs) (sz b.natAbs)+1:=Z11 (Q8 (Int.natAbs_add_le a b)) (Qae _ _)
theorem Qal (a b:Int):sz (a*b).natAbs<=sz a.natAbs+sz b.natAbs:=by rw [Z102];exact W6 _ _
def Sq (k:Nat) (q:Rat):Prop:=sz q.num.natAbs<=2*k/\sz q.den<=k
theorem Sq.mono {k j:Nat} {q:Rat} (h:Sq k q) (hj:k<=j):Sq j q:=⟨Z11 h.1 (by omega),Z11 h.2 hj⟩
theorem Sq.mk {k d:Nat} {n:Int} (h0:0<d) (hn:sz n.natAbs<=2*k) (hd:sz d<=k):Sq k (mkRat n d):=
 ⟨Z11 (Q8 (Qbl n h0)) hn,Z11 (Q8 (Qcl n h0)) hd⟩
theorem Sq.div {k:Nat} {n d:Int} (h0:0<d) (hn:sz n.natAbs<=2*k) (hd:sz d.natAbs<=k):Sq k (Rat.divInt n d):=by
 obtain ⟨e,rfl⟩:∃e:Nat,d=e:=⟨d.toNat,by omega⟩
 rw [Rat.divInt_ofNat]
 exact Sq.mk (by omega) hn hd
theorem Sq.cross {k j:Nat} {q r:Rat} (h:Sq k q) (h':Sq j r):sz (q.num*r.den).natAbs<=2*k+j:=by
 have:=Qal q.num r.den
 have e:(r.den:Int).natAbs=r.den:=rfl
 rw [e] at this
 have:=h.1;have:=h'.2;omega
theorem Sq.dens {k j:Nat} {q r:Rat} (h:Sq k q) (h':Sq j r):sz (q.den*r.den)<=k+j:=by
 have:=W6 q.den r.den
 have:=h.2;have:=h'.2;omega
theorem Sq.add {k j:Nat} {q r:Rat} (h:Sq k q) (h':Sq j r):Sq (k+j+1) (q+r):=by
 rw [Rat.add_def']
 have h1:=h.cross h'
 have h2:=h'.cross h
 have h3:=h.dens h'
 have h4:=Qh0 (q.num*r.den) (r.num*q.den)
 exact Sq.mk (Z48 q.den_pos r.den_pos) (by omega) (by omega)
theorem Sq.mul {k j:Nat} {q r:Rat} (h:Sq k q) (h':Sq j r):Sq (k+j) (q*r):=by
 rw [Rat.mul_def']
 have h1:=Qal q.num r.num
 have h3:=h.dens h'
 have:=h.1;have:=h'.1
 exact Sq.mk (Z48 q.den_pos r.den_pos) (by omega) h3
theorem Sq.neg {k:Nat} {q:Rat} (h:Sq k q):Sq k (-q):=by
 refine ⟨?_,h.2⟩
 show sz (-q.num).natAbs<=_
 rw [Int.natAbs_neg];exact h.1
theorem Sq.int {k:Nat} {z:Int} (h:sz z.natAbs<=2*k) (h1:1<=k):Sq k (z:Rat):=⟨h,Z11 (sz_le (show 1<10^1 by decide)) h1⟩
theorem Sq.zero {k:Nat} (h1:1<=k):Sq k 0:=Sq.int (z:=0) (by simp [Qak]) h1
theorem Qvx (z:Int):fr (z:Rat)=(lb z.natAbs,neg z,[]):=by
 show (lb z.natAbs,neg z,lb (1-1))=_
 rw [lb_zero]
theorem Qly {num:Int} {den:Nat} (h0:0<den) (hn:sz num.natAbs<=700000000) (hd:sz den<=700000000) :
  z46.F (lb num.natAbs) (neg num) (lb den)=some (fr (mkRat num den)):=by
 have hm:sz (max num.natAbs den)<=700000000:=by
  rcases Nat.le_total num.natAbs den with h|h
  ·rw [Nat.max_eq_right h];exact hd
  ·rw [Nat.max_eq_left h];exact hn
 exact frac_made (Qg6 hm) h0 (Nat.le_max_left _ _) (Nat.le_max_right _ _) hd
theorem Qf7 {num den:Int} (h0:den≠0) (hn:sz num.natAbs<=700000000) (hd:sz den.natAbs<=700000000) :
  z47.F (lb num.natAbs) (neg num) (lb den.natAbs) (neg den)=some ((fr (Rat.divInt num den)).1,(fr (Rat.divInt num den)).2.1,(fr (Rat.divInt num den)).2.2,0):=by
 have hm:sz (max num.natAbs den.natAbs)<=700000000:=by
  rcases Nat.le_total num.natAbs den.natAbs with h|h
  ·rw [Nat.max_eq_right h];exact hd
  ·rw [Nat.max_eq_left h];exact hn
 exact frac_Of (Qg6 hm) h0 (Nat.le_max_left _ _) (Nat.le_max_right _ _) hd
theorem Qc8 {k j:Nat} {q r:Rat} (hq:Sq k q) (hr:Sq j r) (hs:k+j<=100000000) :
  z84.F (fr q).1 (fr q).2.1 (fr q).2.2 (fr r).1 (fr r).2.1 (fr r).2.2=some (fr (q*r)):=by
 have h1:=hq.dens hr
 have h2:=Qal q.num r.num
 have q1:=hq.1;have q2:=hq.2;have r1:=hr.1;have r2:=hr.2
 have l1:=Qk q.num.natAbs;have l2:=Qk r.num.natAbs;have l3:=Qk q.den;have l4:=Qk r.den
 unfold z84.F
 rw [J8 (by omega)]
 simp only [Zb]
 rw [Js q _ _ (by omega)]
 simp only [Zb]
 rw [Js r _ _ (by omega)]
 simp only [Zb]
 rw [Jg (by omega)]
 simp only [Zb]
 rw [Qly (Z48 q.den_pos r.den_pos) (by omega) (by omega),<-Rat.mul_def']
 rfl
theorem Qgl {k j:Nat} {q r:Rat} (hq:Sq k q) (hr:Sq j r) (hs:k+j<=100000000) :
  z113.F (fr q).1 (fr q).2.1 (fr q).2.2 (fr r).1 (fr r).2.1 (fr r).2.2=some (fr (q+r)):=by
 have h1:=hq.dens hr
 have h2:=hq.cross hr;have h2':=hr.cross hq
 have h3:=Qh0 (q.num*r.den) (r.num*q.den)
 have q1:=hq.1;have q2:=hq.2;have r1:=hr.1;have r2:=hr.2
 have l1:=Qk q.num.natAbs;have l2:=Qk r.num.natAbs;have l3:=Qk q.den;have l4:=Qk r.den
 have l3':(lb (q.den:Int).natAbs).length<=sz q.den:=l3
 have l4':(lb (r.den:Int).natAbs).length<=sz r.den:=l4
 have l5:=Qk (q.num*r.den).natAbs;have l6:=Qk (r.num*q.den).natAbs
 unfold z113.F
 rw [Qfy r _ _ (by omega)]
 simp only [Zb]
 rw [J8 (by omega)]
 simp only [Zb]
 rw [Qfy q _ _ (by omega)]
 simp only [Zb]
 rw [J8 (by omega)]
 simp only [Zb]
 rw [Qe5 (by omega)]
 simp only [Zb]
 rw [Js q _ _ (by omega)]
 simp only [Zb]
 rw [Js r _ _ (by omega)]
 simp only [Zb]
 rw [Jg (by omega)]
 simp only [Zb]
 rw [Qly (Z48 q.den_pos r.den_pos) (by omega) (by omega),<-Rat.add_def']
 rfl
theorem frac_From (z:Int):z27.F (lb z.natAbs) (neg z)=some (fr (z:Rat)):=by
 rw [Qvx];rfl
theorem Qkq (q:Rat) (b:J0):z86.F (lb q.num.natAbs) (neg q.num) b=some (cmpI q.num 0):=by
 unfold z86.F
 rw [Yc]
 rfl
theorem Qtz (q:Rat) (b:J0):z87.F (lb q.num.natAbs) (neg q.num) b=some (lb q.num.natAbs,neg q.num):=rfl
def upN (m:Int) (low rest d:Nat):Prop:=rest≠0/\(m=1\/m=2/\d<=2*rest\/m=3/\d<2*rest\/m=4/\(d<2*rest\/d=2*rest/\low%2=1))
instance (m:Int) (low rest d:Nat):Decidable (upN m low rest d):=by unfold upN;infer_instance
def rndN (m:Int) (a d:Nat):Nat:=if upN m (a/d) (a%d) d then a/d+1 else a/d
def rnd (m:Int) (q:Rat):Int:=if q.num<0 then -(rndN m q.num.natAbs q.den:Int) else (rndN m q.num.natAbs q.den:Int)
abbrev ysz (y:Int):Int:=if leap y then 366 else 365
theorem Qvj (y:Int):cumD y 13=ysz y:=by
 unfold cumD ysz;split<;>(try split)<;>omega
def inY (y k:Int):Rat:=(y:Rat)+Rat.divInt (k-aheadY y-1) (ysz y)
def yAt (y m d:Int):Rat:=inY y (num y m d)
theorem Qrl (y:Int):0<ysz y:=by unfold ysz;split<;>omega
theorem Qk7 (y:Int):ysz y≠0:=Int.ne_of_gt (Qrl y)
theorem Qs0 {a b c:Int} (h:c≠0):Rat.divInt a c-Rat.divInt b c=Rat.divInt (a-b) c:=by
 have hc:(c:Rat)≠0:=λe=>h (Rat.intCast_eq_zero_iff.1 e)
 rw [Z92,Z92,Z92,Rat.intCast_sub]
 grind
theorem Qi0 (y k j:Int):inY y k-inY y j=Rat.divInt (k-j) (ysz y):=by
 have h:=Qs0 (a:=k-aheadY y-1) (b:=j-aheadY y-1) (Qk7 y)
 rw [show k-aheadY y-1-(j-aheadY y-1)=k-j by omega] at h
 unfold inY
 rw [<-h]
 grind
theorem Qqd (y:Int):inY y (aheadY y+1)=y:=by
 unfold inY
 rw [show aheadY y+1-aheadY y-1=0 by omega,Rat.zero_divInt,Rat.add_zero]
theorem Qsr (y:Int):inY y (aheadY (y+1)+1)=((y+1:Int):Rat):=by
 unfold inY
 rw [Qdr,Qvj,show aheadY y+ysz y+1-aheadY y-1=ysz y by omega,Rat.divInt_self' (Qk7 y),Rat.intCast_add]
 rfl
def Ji (y m d y' m' d':Int):Int:=360*(y'-y)+30*(m'-m)+(if d'>30/\30<=d then 30 else d')-(if d>30 then 30 else d)
def yf (b y m d y' m' d':Int):Rat:=
 if b=0 then Rat.divInt (Ji y m d y' m' d') 360 else if b=1 then Rat.divInt (num y' m' d'-num y m d) 365 else yAt y' m' d'-yAt y m d
structure Lg where
 f:D3
 t:D3
 op:List UInt8
 rt:List UInt8
def lgv (x:Lg):List V:=[.int .i64 x.f.1,.int .i64 x.f.2.1,.int .i64 x.f.2.2,.int .i64 x.t.1,.int .i64 x.t.2.1,.int .i64 x.t.2.2,.str x.op,.str x.rt]
theorem asL0 {R:Type} (x:Lg) (K:Int->Option R):V.asInt .i64 ((lgv x).getD 0 .undef) K=K x.f.1:=by simp [lgv,V.asInt]
theorem asL1 {R:Type} (x:Lg) (K:Int->Option R):V.asInt .i64 ((lgv x).getD 1 .undef) K=K x.f.2.1:=by simp [lgv,V.asInt]
theorem asL2 {R:Type} (x:Lg) (K:Int->Option R):V.asInt .i64 ((lgv x).getD 2 .undef) K=K x.f.2.2:=by simp [lgv,V.asInt]
theorem asL3 {R:Type} (x:Lg) (K:Int->Option R):V.asInt .i64 ((lgv x).getD 3 .undef) K=K x.t.1:=by simp [lgv,V.asInt]
theorem asL4 {R:Type} (x:Lg) (K:Int->Option R):V.asInt .i64 ((lgv x).getD 4 .undef) K=K x.t.2.1:=by simp [lgv,V.asInt]
theorem asL5 {R:Type} (x:Lg) (K:Int->Option R):V.asInt .i64 ((lgv x).getD 5 .undef) K=K x.t.2.2:=by simp [lgv,V.asInt]
theorem asL6 {R:Type} (x:Lg) (K:J1->Option R):V.asStr ((lgv x).getD 6 .undef) K=K x.op:=by simp [lgv,V.asStr]
theorem asL7 {R:Type} (x:Lg) (K:J1->Option R):V.asStr ((lgv x).getD 7 .undef) K=K x.rt:=by simp [lgv,V.asStr]
def mLeg (a:Option D3) (x:Lg):Int:=
 if ¬(rightD x.f/\rightD x.t) then 11 else if cmpD x.f x.t>0\/a.all (λd=>decide (x.f=d))=false then 12 else if (mMoney x.op).2≠0 then (mMoney x.op).2 else (mRate x.rt).2
def mLegs:Option D3->List Lg->Int
 |_,[]=>0
 |a,x::l=>if mLeg a x≠0 then mLeg a x else mLegs (some x.t) l
theorem Qda {a:Option D3} {x:Lg} (h:mLeg a x=0):rightD x.f/\rightD x.t/\numD x.f<=numD x.t/\(∀d,a=some d->x.f=d)/\(mMoney x.op).2=0/\(mRate x.rt).2=0:=by
 unfold mLeg at h
 split at h
 ·simp at h
 rename_i h1
 have h1:rightD x.f/\rightD x.t:=Classical.not_not.1 h1
 split at h
 ·simp at h
 rename_i h2
 split at h
 ·rename_i h3;exact absurd h h3
 rename_i h3
 have h4:¬cmpD x.f x.t>0:=λe=>h2 (.inl e)
 rw [Yk h1.1 h1.2,Qaw] at h4
 refine ⟨h1.1,h1.2,by omega,λd e=>?_,by omega,h⟩
 subst e
 have h5:¬(decide (x.f=d)=false):=λe=>h2 (.inr e)
 simpa using h5
def minD (t tu:D3):D3:=if cmpD t tu<0 then t else tu
def term (b:Int) (tu:D3) (x:Lg):Rat:=((mMoney x.op).1:Rat)*(mRate x.rt).1*yf b x.f.1 x.f.2.1 x.f.2.2 (minD x.t tu).1 (minD x.t tu).2.1 (minD x.t tu).2.2
def exL (b:Int) (tu:D3):Rat->List Lg->Rat
 |s,[]=>s
 |s,x::l=>if cmpD x.f tu>=0 then s else exL b tu (s+term b tu x) l
theorem Qn3:∀(l:List Lg) (a:Option D3),mLegs a l=0->∀(h:l≠[]),∀x∈l,rightD x.f/\rightD x.t/\numD x.f<=numD x.t/\numD x.t<=numD (l.getLast h).t
 |[],_,_,h=>absurd rfl h
 |
  x::l,a,h,hne=>by
  unfold mLegs at h
  split at h
  ·rename_i h1;exact absurd h h1
  rename_i h1
  obtain ⟨r1,r2,r3,r4,_,_⟩:=Qda (by omega:mLeg a x=0)
  intro y hy
  by_cases hl:l=[]
  ·subst hl
   rw [List.mem_singleton] at hy
   subst hy
   exact ⟨r1,r2,r3,Z109 _⟩
  ·rw [List.getLast_cons hl]
   have ih:=Qn3 l (some x.t) h hl
   rcases Z108.1 hy with rfl|hy
   ·refine ⟨r1,r2,r3,?_⟩
    obtain ⟨z,l',rfl⟩:=List.exists_cons_of_ne_nil hl
    have hz:=ih z (List.mem_cons_self ..)
    unfold mLegs at h
    split at h
    ·rename_i h2;exact absurd h h2
    rename_i h2
    have:=(Qda (by omega:mLeg (some y.t) z=0)).2.2.2.1 y.t rfl
    rw [<-this]
    omega
   ·exact ih y hy
theorem Qux {y m d:Int} (h:right y m d):aheadY y+1<=num y m d/\num y m d<=aheadY (y+1):=by
 have g:=Wm h
 have s1:=Qcv g.1 ⟨g.2.1,g.2.2.1⟩
 have s2:=Qb8 (y:=y) (m:=m+1) (m':=13) (by omega) (by omega)
 have s3:=Qb8 (y:=y) (m:=1) (m':=m) (by omega) (by omega)
 have s4:=Qdr y
 rw [Qfh] at s3
 have h1:=h.1;have h2:=h.2
 unfold num
 omega
theorem Qgx {t tu:D3} (h:rightD t) (h':rightD tu):rightD (minD t tu)/\numD (minD t tu)=min (numD t) (numD tu):=by
 unfold minD
 by_cases hc:cmpD t tu<0
 ·rw [if_pos hc]
  rw [Yk h h',We] at hc
  exact ⟨h,by omega⟩
 ·rw [if_neg hc]
  rw [Yk h h',We] at hc
  exact ⟨h',by omega⟩
theorem Qq9 {n:Nat} (h:n<18446744073709551616):wr .u64 ((BitVec.ofInt (IntKind.bits .u64) (n:Int) &&& BitVec.ofInt (IntKind.bits .u64) (1:Int)).toNat:Int)=((n%2:Nat):Int):=by
 rw [BitVec.toNat_and,Qct h,show (1:Int)=((1:Nat):Int) from rfl,Qct (by omega),show (1:Nat)=2^1-1 from rfl,Nat.and_two_pow_sub_one_eq_mod,Qn (by omega) (by omega)]
theorem Qrp {m:Int} {low rest d:Nat} (hm:0<=m/\m<=4) (h0:rest≠0) (h1:sz low<=100000000) (h2:sz rest<=100000000):z93.F m (lb low) (lb rest) (lb d)=some (decide (upN m low rest d)):=by
 have l1:=Qk low;have l2:=Qk rest
 have l3:=Qk (rest+rest);have l4:=Qae rest rest
 unfold z93.F
 rw [Qbs (by omega)]
 simp only [Zb]
 rw [Qcm (by omega)]
 simp only [Zb]
 have g:cmpI ((rest+rest:Nat):Int) d>=0↔d<=2*rest:=by rw [Qcx];omega
 have g':cmpI ((rest+rest:Nat):Int) d>0↔d<2*rest:=by rw [Qaw];omega
 have g'':cmpI ((rest+rest:Nat):Int) d=0↔d=2*rest:=by rw [Qbe];omega
 generalize cmpI ((rest+rest:Nat):Int) d=c at *
 unfold upN
 by_cases m1:m=1
 ·rw [bif_t m1];congr 1;symm;apply Zt;exact ⟨h0,.inl m1⟩
 rw [Qb m1]
 by_cases m2:m=2
 ·rw [bif_t m2];congr 1;apply decide_eq_decide.2;rw [g];omega
 rw [Qb m2]
 by_cases m3:m=3
 ·rw [bif_t m3];congr 1;apply decide_eq_decide.2;rw [g'];omega
 rw [Qb m3]
 by_cases m4:m=4
 ·rw [bif_t m4,J3 (by show List.length _<=_;omega)]
  simp only [Zb]
  have hlen:=Qh9 low
  by_cases hl:low=0
  ·rw [Qb (by omega)]
   by_cases c1:c>0
   ·rw [bif_t c1];congr 1;symm;apply Zt;omega
   ·have hF:∀x:Bool,(bif x then some false else some false)=some false:=λx=>by cases x<;>rfl
    rw [Qb c1,hF];congr 1;symm;apply Zf;omega
  ·rw [bif_t (by omega),if_pos (by omega)]
   have e0:(lb low).getD 0 0=((low%LB:Nat):Int):=by
    have:=Qqy bL 0 low
    rwa [Nat.pow_zero,Nat.div_one] at this
   have e1:low%LB%2=low%2:=Nat.mod_mod_of_dvd low (by decide)
   rw [e0,Qq9 (n:=low%LB) (Z74 _ (by decide)),e1]
   by_cases c1:c>0
   ·rw [bif_t c1];congr 1;symm;apply Zt;omega
   ·rw [Qb c1]
    by_cases c2:c=0
    ·rw [bif_t c2];congr 1;apply decide_eq_decide.2;omega
    ·rw [Qb c2];congr 1;symm;apply Zf;omega
 ·rw [Qb m4];congr 1;symm;apply Zf;omega
theorem Ql2 (m:Int) (q:Rat):(rnd m q).natAbs=rndN m q.num.natAbs q.den/\((neg q.num=true/\rnd m q<=0)\/(neg q.num=false/\0<=rnd m q)):=by
 unfold rnd
 by_cases h:q.num<0
 ·rw [if_pos h];exact ⟨by omega,.inl ⟨Zt h,by omega⟩⟩
 ·rw [if_neg h];exact ⟨by omega,.inr ⟨Zf h,by omega⟩⟩
theorem Qkj (m:Int):z92.F m=some (decide (0<=m/\m<=4)):=by
 unfold z92.F
 by_cases h:m>=0
 ·rw [bif_t h];congr 1;apply decide_eq_decide.2;omega
 ·rw [Qb h];congr 1;symm;apply Zf;omega
theorem Qvy (b:Int):z102.F b=some (decide (0<=b/\b<=2)):=by
 unfold z102.F
 by_cases h:b>=0
 ·rw [bif_t h];congr 1;apply decide_eq_decide.2;omega
 ·rw [Qb h];congr 1;symm;apply Zf;omega
theorem Qwe {m:Int} (h:¬(0<=m/\m<=4)) (a:J0) (b:Bool) (c:J0):z94.F a b c m=some ([],false,2):=by
 unfold z94.F
 rw [Qkj,Zf h];rfl
theorem round_Whole {m:Int} {k:Nat} {q:Rat} (hm:0<=m/\m<=4) (hq:Sq k q) (hk:k<=40000000) :
  z94.F (fr q).1 (fr q).2.1 (fr q).2.2 m=some (lb (rnd m q).natAbs,neg (rnd m q),0):=by
 have q1:=hq.1;have q2:=hq.2
 have l1:=Qk q.num.natAbs
 have s1:=Q8 (Z95 q.num.natAbs q.den)
 have s2:=Q8 (Nat.mod_le q.num.natAbs q.den)
 have l2:=Qk (q.num.natAbs/q.den)
 have l3:(lb 1).length<=1:=Z11 (Qk 1) (sz_le (by decide))
 obtain ⟨a1,a2⟩:=Ql2 m q
 have hj:∀b:J0,z94.j14 (lb q.num.natAbs) (neg q.num) b (lb (rndN m q.num.natAbs q.den))=some (lb (rnd m q).natAbs,neg (rnd m q),0):=λb=>by
  unfold z94.j14
  rw [Qkq]
  simp only [Zb]
  rw [Qnq,Yn (z:=rnd m q) a1.symm a2]
  rfl
 unfold z94.F
 rw [Qkj,Zt hm]
 simp only [Zb,Zn,Zc]
 rw [Qtz]
 simp only [Zb]
 unfold z29.F
 simp only [Zb]
 rw [Js q _ _ (by omega)]
 simp only [Zb]
 have hdiv:z44.F (lb q.num.natAbs) (lb q.den)=_:=Qpo q.den_pos (by omega)
 rw [hdiv]
 simp only [Zb]
 rw [Wy]
 simp only [Zb]
 by_cases hr:q.num.natAbs%q.den=0
 ·rw [Zt hr,Zn,Zc]
  have:rndN m q.num.natAbs q.den=q.num.natAbs/q.den:=by unfold rndN;rw [if_neg (λh=>h.1 hr)]
  rw [<-this];exact hj _
 ·rw [Zf hr,Zo,Zd]
  try rw [Js q _ _ (by omega)]
  try simp only [Zb]
  rw [Qrp hm hr (by omega) (by omega)]
  simp only [Zb]
  by_cases hu:upN m (q.num.natAbs/q.den) (q.num.natAbs%q.den) q.den
  ·rw [bif_t hu,Yg (by omega)]
   simp only [Zb]
   rw [show Int.toNat 1=1 from rfl,Qbs (by omega)]
   simp only [Zb]
   have:rndN m q.num.natAbs q.den=q.num.natAbs/q.den+1:=by unfold rndN;rw [if_pos hu]
   rw [<-this];exact hj _
  ·rw [Qb hu]
   have:rndN m q.num.natAbs q.den=q.num.natAbs/q.den:=by unfold rndN;rw [if_neg hu]
   rw [<-this];exact hj _
theorem Qiu {z:Int} (h:-9223372036854775808<=z/\z<=9223372036854775808):sz z.natAbs<=20:=sz_le (by omega)
theorem count_part {n d:Int} (hn:-9223372036854775808<=n/\n<9223372036854775808) (hd:0<d/\d<9223372036854775808):z106.F n d=some (fr (Rat.divInt n d)):=by
 have s1:=Qiu (z:=n) (by omega);have s2:=Qiu (z:=d) (by omega)
 unfold z106.F
 rw [whole_From hn]
 simp only [Zb]
 rw [whole_From (by omega)]
 simp only [Zb]
 rw [Qf7 (by omega) (by omega) (by omega)]
 rfl
theorem Qw4 {y m y' m' j k:Int} (hy:1<=y/\y<=9999) (hm:1<=m/\m<=12) (hy':1<=y'/\y'<=9999) (hm':1<=m'/\m'<=12) (hj:0<=j/\j<=31) (hk:0<=k/\k<=31) :
  wr .i64 (wr .i64 (wr .i64 (wr .i64 (360*wr .i64 (y'-y))+wr .i64 (30*wr .i64 (m'-m)))+j)-k)=360*(y'-y)+30*(m'-m)+j-k:=by
 rw [Qe (n:=y'-y) (by omega) (by omega),Qe (n:=m'-m) (by omega) (by omega),Qe (n:=360*(y'-y)) (by omega) (by omega),Qe (n:=30*(m'-m)) (by omega) (by omega),Qe (n:=360*(y'-y)+30*(m'-m)) (by omega) (by omega),Qe (n:=360*(y'-y)+30*(m'-m)+j) (by omega) (by omega),Qe (by omega) (by omega)]
theorem count_thirty {a b:D3} (ha:rightD a) (hb:rightD b):z107.F a.1 a.2.1 a.2.2 b.1 b.2.1 b.2.2=some (fr (Rat.divInt (Ji a.1 a.2.1 a.2.2 b.1 b.2.1 b.2.2) 360)):=by
 have ga:=Wm ha
 have gb:=Wm hb
 obtain ⟨y,m,d⟩:=a
 obtain ⟨y',m',d'⟩:=b
 simp only at ga gb ⊢
 have key:∀{j k:Int},0<=j/\j<=31->0<=k/\k<=31->Ji y m d y' m' d'=360*(y'-y)+30*(m'-m)+j-k->z106.F (wr .i64 (wr .i64 (wr .i64 (wr .i64 (360*wr .i64 (y'-y))+wr .i64 (30*wr .i64 (m'-m)))+j)-k)) 360=some (fr (Rat.divInt (Ji y m d y' m' d') 360)):=λ{j k} hj hk e=>by
  rw [Qw4 ga.1 ⟨ga.2.1,ga.2.2.1⟩ gb.1 ⟨gb.2.1,gb.2.2.1⟩ hj hk,e,count_part (by omega) (by omega)]
 unfold z107.F
 by_cases h1:d>30
 ·rw [bif_t h1]
  by_cases h2:d'>30
  ·rw [bif_t h2];unfold z107.j6
   rw [key (by omega) (by omega) (by unfold Ji;rw [if_pos (by omega),if_pos h1])];rfl
  ·rw [Qb h2];unfold z107.j6
   rw [key (by omega) (by omega) (by unfold Ji;rw [if_neg (by omega),if_pos h1])];rfl
 ·rw [Qb h1]
  by_cases h2:d'>30
  ·rw [bif_t h2]
   by_cases h3:d=30
   ·rw [bif_t h3];unfold z107.j9
    rw [key (by omega) (by omega) (by unfold Ji;rw [if_pos (by omega),if_neg h1])];rfl
   ·rw [Qb h3];unfold z107.j9
    rw [key (by omega) (by omega) (by unfold Ji;rw [if_neg (by omega),if_neg h1])];rfl
  ·rw [Qb h2];unfold z107.j9
   rw [key (by omega) (by omega) (by unfold Ji;rw [if_neg (by omega),if_neg h1])];rfl
theorem Qap {a:D3} (h:rightD a):1<=numD a/\numD a<=3652059:=Qlb h
theorem Qez {a:D3} (h:rightD a):aheadY a.1+1<=numD a/\numD a<=aheadY (a.1+1):=Qux h
theorem count_days {a b:D3} (ha:rightD a) (hb:rightD b):z111.F a.1 a.2.1 a.2.2 b.1 b.2.1 b.2.2=some (numD b-numD a):=by
 have b1:=Qap ha;have b2:=Qap hb
 have en1:numD a=num a.1 a.2.1 a.2.2:=rfl
 have en2:numD b=num b.1 b.2.1 b.2.2:=rfl
 unfold z111.F z110.F
 rw [date_Number,if_pos ha]
 simp only [Zb,decide_true,Zn,Zc]
 rw [date_Number,if_pos hb]
 simp only [Zb,decide_true,Zn,Zc]
 rw [Qe (by omega) (by omega)]
theorem count_year {y:Int} (hy:goodY y):z112.F y=some (ysz y):=by
 unfold z112.F ysz
 rw [date_Leap]
 simp only [Zb]
 by_cases h:leap y
 ·rw [bif_t ⟨hy,h⟩,if_pos h]
 ·rw [Qb (λe=>h e.2),if_neg h]
theorem Qv3 {y:Int} (hy:goodY y):right y 1 1:=⟨by decide,by have:=Qjd hy (m:=1) ⟨by decide,by decide⟩;omega⟩
theorem Qvr {y:Int} (hy:goodY y):right y 12 31:=⟨by decide,by
 unfold dDays;rw [if_neg (by omega),if_neg (by decide),if_neg (by decide)];exact Z109 _⟩
theorem Qq5 (y:Int):num y 1 1=aheadY y+1:=by unfold num;rw [Qfh];omega
theorem Qvc {y:Int} (hy:goodY y):num y 12 31=aheadY (y+1):=by
 have h1:=Qdr y
 have h2:=Qcv hy (m:=12) ⟨by decide,by decide⟩
 have h3:dDays y 12=31:=by unfold dDays;rw [if_neg (by omega),if_neg (by decide),if_neg (by decide)]
 rw [h3,show (12:Int)+1=13 from rfl] at h2
 unfold num;omega
theorem Qjh (y:Int):365<=ysz y/\ysz y<=366:=by unfold ysz;split<;>omega
theorem Qbp {n d:Int} (hn:-9223372036854775808<=n/\n<=9223372036854775808) (hd:0<d/\d<10000):Sq 10 (Rat.divInt n d):=
 Sq.div hd.1 (Z11 (Qiu hn) (by decide)) (Z11 (sz_le (k:=4) (by omega)) (by decide))
theorem count_actual {a b:D3} (ha:rightD a) (hb:rightD b) (h:numD a<=numD b):z114.F a.1 a.2.1 a.2.2 b.1 b.2.1 b.2.2=some (fr (yAt b.1 b.2.1 b.2.2-yAt a.1 a.2.1 a.2.2)):=by
 have ga:=Wm ha
 have gb:=Wm hb
 have b1:=Qap ha;have b2:=Qap hb
 have en1:numD a=num a.1 a.2.1 a.2.2:=rfl
 have en2:numD b=num b.1 b.2.1 b.2.2:=rfl
 have y1:=Qez ha;have y2:=Qez hb
 have z1:=Qjh a.1;have z2:=Qjh b.1
 unfold z114.F
 by_cases hy:a.1=b.1
 ·rw [bif_t hy,count_days ha hb]
  simp only [Zb]
  rw [count_year ga.1]
  simp only [Zb]
  rw [count_part (by omega) (by omega)]
  have:yAt b.1 b.2.1 b.2.2-yAt a.1 a.2.1 a.2.2=Rat.divInt (numD b-numD a) (ysz a.1):=by
   show inY b.1 (numD b)-inY a.1 (numD a)=_
   rw [<-hy,Qi0]
  rw [this];rfl
 ·rw [Qb hy]
  have hlt:a.1<b.1:=by
   rcases Z91 a.1 b.1 with h1|h1|h1
   ·exact h1
   ·exact (hy h1).elim
   ·have:=Qil (y:=b.1+1) (y':=a.1) (by omega)
    unfold numD at h;omega
  have hdl:rightD (a.1,12,31):=Qvr ga.1
  have hdf:rightD (b.1,1,1):=Qv3 gb.1
  have d1:=count_days ha hdl
  have d2:=count_days hdf hb
  simp only at d1 d2
  rw [d1]
  simp only [Zb]
  rw [d2]
  simp only [Zb]
  rw [count_year ga.1]
  simp only [Zb]
  have n1:numD (a.1,12,31)=aheadY (a.1+1):=Qvc ga.1
  have n2:numD (b.1,1,1)=aheadY b.1+1:=Qq5 b.1
  rw [n1,n2]
  have m1:=Qcq (y:=a.1+1) (by omega)
  have m2:=Qcq (y:=b.1) (by omega)
  rw [Qe (n:=aheadY (a.1+1)-numD a+1) (by omega) (by omega),Qe (n:=b.1-a.1) (by omega) (by omega),Qe (n:=b.1-a.1-1) (by omega) (by omega),count_part (by omega) (by omega)]
  simp only [Zb]
  rw [count_part (by omega) (by omega)]
  simp only [Zb]
  have s1:=Qbp (n:=aheadY (a.1+1)-numD a+1) (d:=ysz a.1) (by omega) (by omega)
  have s2:=Qbp (n:=b.1-a.1-1) (d:=1) (by omega) (by omega)
  have s3:=Qbp (n:=numD b-(aheadY b.1+1)) (d:=ysz b.1) (by omega) (by omega)
  rw [Qgl s1 s2 (by decide)]
  simp only [Zb]
  rw [count_year gb.1]
  simp only [Zb]
  rw [count_part (by omega) (by omega)]
  simp only [Zb]
  rw [Qgl (s1.add s2) s3 (by decide)]
  have e1:=Qi0 a.1 (aheadY (a.1+1)+1) (numD a)
  have e3:=Qi0 b.1 (numD b) (aheadY b.1+1)
  rw [Qsr,show aheadY (a.1+1)+1-numD a=aheadY (a.1+1)-numD a+1 by omega] at e1
  rw [Qqd] at e3
  have e2:Rat.divInt (b.1-a.1-1) 1=(b.1:Rat)-((a.1+1:Int):Rat):=by
   rw [Z92,show ((1:Int):Rat)=1 from rfl,show b.1-a.1-1=b.1-(a.1+1) by omega,Rat.intCast_sub]
   grind
  have:Rat.divInt (aheadY (a.1+1)-numD a+1) (ysz a.1)+Rat.divInt (b.1-a.1-1) 1+Rat.divInt (numD b-(aheadY b.1+1)) (ysz b.1)=yAt b.1 b.2.1 b.2.2-yAt a.1 a.2.1 a.2.2:=by
   rw [<-e1,<-e3,e2]
   unfold yAt
   show _=inY b.1 (numD b)-inY a.1 (numD a)
   grind
  rw [this];rfl
theorem count_Year {bs:Int} {a b:D3} (hbs:0<=bs/\bs<=2) (ha:rightD a) (hb:rightD b) (h:numD a<=numD b) :
  z115.F bs a.1 a.2.1 a.2.2 b.1 b.2.1 b.2.2=some ((fr (yf bs a.1 a.2.1 a.2.2 b.1 b.2.1 b.2.2)).1,(fr (yf bs a.1 a.2.1 a.2.2 b.1 b.2.1 b.2.2)).2.1,(fr (yf bs a.1 a.2.1 a.2.2 b.1 b.2.1 b.2.2)).2.2,0):=by
 have b1:=Qap ha;have b2:=Qap hb
 have en1:numD a=num a.1 a.2.1 a.2.2:=rfl
 have en2:numD b=num b.1 b.2.1 b.2.2:=rfl
 unfold z115.F
 rw [Qvy,Zt hbs]
 simp only [Zb,Zn,Zc]
 rw [date_Check,if_pos ha]
 simp only [Zb,decide_true,Zn,Zc]
 rw [date_Check,if_pos hb]
 simp only [Zb,decide_true,Zn]
 unfold z115.j4
 rw [Zc,date_Cmp]
 simp only [Zb]
 have hc:=Yk ha hb
 rw [show dcmp a.1 a.2.1 a.2.2 b.1 b.2.1 b.2.2=cmpD a b from rfl,hc,Qb (by rw [Qaw];omega)]
 unfold yf
 by_cases h0:bs=0
 ·rw [bif_t h0,if_pos h0,count_thirty ha hb];rfl
 ·rw [Qb h0,if_neg h0]
  by_cases h1:bs=1
  ·rw [bif_t h1,if_pos h1,count_days ha hb]
   simp only [Zb]
   rw [count_part (by omega) (by omega)];rfl
  ·rw [Qb h1,if_neg h1,count_actual ha hb h];rfl
theorem Qlt (y k:Int) (hy:goodY y) (hk:-9223372036854775808<=k-aheadY y-1/\k-aheadY y-1<=9223372036854775808):Sq 15 (inY y k):=by
 unfold inY
 have z:=Qjh y
 have s1:=Qbp (n:=k-aheadY y-1) (d:=ysz y) hk (by omega)
 have s2:Sq 4 (y:Rat):=Sq.int (Z11 (sz_le (k:=4) (by omega)) (by decide)) (by decide)
 exact s2.add s1
theorem Qcz (bs:Int) {a b:D3} (ha:rightD a) (hb:rightD b):Sq 32 (yf bs a.1 a.2.1 a.2.2 b.1 b.2.1 b.2.2):=by
 have ga:=Wm ha;have gb:=Wm hb
 have b1:=Qap ha;have b2:=Qap hb
 have en1:numD a=num a.1 a.2.1 a.2.2:=rfl
 have en2:numD b=num b.1 b.2.1 b.2.2:=rfl
 have y1:=Qez ha;have y2:=Qez hb
 have m1:=Qcq (y:=a.1) (by omega)
 have m2:=Qcq (y:=b.1) (by omega)
 unfold yf
 split
 ·refine (Qbp ?_ ?_).mono (by decide)
  ·unfold Ji;split<;>split<;>omega
  ·omega
 ·split
  ·exact (Qbp (by omega) (by omega)).mono (by decide)
  ·unfold yAt
   rw [Rat.sub_eq_add_neg]
   exact (((Qlt b.1 _ gb.1 (by omega)).add (Qlt a.1 _ ga.1 (by omega)).neg)).mono (by decide)
abbrev lgT (x:Lg) (i:Int):Int×Int×Int×Int×Int×Int×J1×J1×Int:=(x.f.1,x.f.2.1,x.f.2.2,x.t.1,x.t.2.1,x.t.2.2,x.op,x.rt,i)
theorem Qmw {α:Type} (a b:D3) (x y:α):(bif (!(decide (a.1=b.1)&&(decide (a.2.1=b.2.1)&&decide (a.2.2=b.2.2)))) then x else y)=if a=b then y else x:=by
 by_cases h:a=b
 ·subst h;simp
 ·rw [if_neg h]
  have:¬(a.1=b.1/\a.2.1=b.2.1/\a.2.2=b.2.2):=λe=>h (by
   obtain ⟨a1,a2,a3⟩:=a
   obtain ⟨b1,b2,b3⟩:=b
   obtain ⟨rfl,rfl,rfl⟩:=e;rfl)
  by_cases h1:a.1=b.1
  ·by_cases h2:a.2.1=b.2.1
   ·have h3:¬a.2.2=b.2.2:=λe=>this ⟨h1,h2,e⟩
    rw [Zt h1,Zt h2,Zf h3];rfl
   ·rw [Zt h1,Zf h2];rfl
  ·rw [Zf h1];rfl
theorem Qdn (d:D3) (x:Lg):mLeg (some d) x=if ¬(rightD x.f/\rightD x.t) then 11 else if cmpD x.f x.t>0 then 12 else if x.f=d then (if (mMoney x.op).2≠0 then (mMoney x.op).2 else (mRate x.rt).2) else 12:=by
 unfold mLeg
 split
 ·rfl
 ·by_cases h:cmpD x.f x.t>0
  ·rw [if_pos (.inl h),if_pos h]
  ·rw [if_neg h]
   by_cases h':x.f=d
   ·rw [if_pos h',if_neg (λe=>e.elim h (by simp [h']))]
   ·rw [if_neg h',if_pos (.inr (by simp [h']))]
theorem Qf5 (x:Lg):mLeg none x=if ¬(rightD x.f/\rightD x.t) then 11 else if cmpD x.f x.t>0 then 12 else (if (mMoney x.op).2≠0 then (mMoney x.op).2 else (mRate x.rt).2):=by
 unfold mLeg
 split
 ·rfl
 ·by_cases h:cmpD x.f x.t>0
  ·rw [if_pos (.inl h),if_pos h]
  ·rw [if_neg h,if_neg (λe=>e.elim h (by simp))]
theorem Qn4 {R:Type} {l:List Lg} {i:Nat} (hi:i<l.length) (hl:l.length<=1000000000) (a:Lg) (rec:(Int×Int×Int×Int×Int×Int×J1×J1×Int)->Option R) (done:((Int×Int×Int×Int×Int×Int×J1×J1×Int)⊕(Int))->Option R) :
  z101.l0P (l.map lgv) (l.map lgv) (l.length:Int) rec done (lgT a i)=if mLeg (some a.t) l[i]≠0 then done (.inr (mLeg (some a.t) l[i])) else rec (lgT l[i] ((i+1:Nat):Int)):=by
 have ek:wr .i64 ((i:Int)+1)=((i+1:Nat):Int):=by rw [Qe (by omega) (by omega)];rfl
 have hb:(0:Int)<=(i:Int)/\(i:Int)<((l.map lgv).length:Int):=by rw [Z18];omega
 have hj2:z101.j1026a rec done l[i].op i (l.map lgv) l[i].rt=bif !decide ((mMoney l[i].op).2=0) then done (.inr (mMoney l[i].op).2) else bif !decide ((mRate l[i].rt).2=0) then done (.inr (mRate l[i].rt).2) else rec (lgT l[i] ((i+1:Nat):Int)):=by
  unfold z101.j1026a
  rw [terms_Money]
  simp only [Zb]
  by_cases h:(mMoney l[i].op).2=0
  ·rw [Zt h,Zn,Zc,Zc,terms_Rate]
   simp only [Zb]
   rw [if_pos hb,Zi]
   simp only [Qam lgv hi,asL0,asL1,asL2,asL3,asL4,asL5,asL6,asL7,ek]
  ·rw [Zf h,Zo,Zd,Zd,Zd]
 have hj:∀b:Bool,z101.j1024a rec done b l[i].f.1 l[i].f.2.1 l[i].f.2.2 l[i].t.1 l[i].t.2.1 l[i].t.2.2 a.t.1 a.t.2.1 a.t.2.2 l[i].op i (l.map lgv) l[i].rt=bif b then done (.inr 11) else bif decide (cmpD l[i].f l[i].t>0) then done (.inr 12) else if l[i].f=a.t then z101.j1026a rec done l[i].op i (l.map lgv) l[i].rt else done (.inr 12):=λb=>by
  unfold z101.j1024a
  cases b with
  |true=>rfl
  |
   false=>
   rw [Zc,Zc,date_Cmp]
   simp only [Zb]
   rw [Qmw l[i].f a.t]
 unfold z101.l0P
 simp only
 rw [bif_t (by omega),if_pos hb,Zi]
 simp only [Qam lgv hi,asL0,asL1,asL2,asL3,asL4,asL5,asL6,asL7]
 rw [date_Check]
 simp only [Zb]
 by_cases h1:rightD l[i].f
 ·rw [if_pos h1,Zt rfl,Zn,Zc,date_Check]
  simp only [Zb]
  by_cases h2:rightD l[i].t
  ·rw [if_pos h2,Zt rfl,Zn,hj,Zc]
   by_cases h3:cmpD l[i].f l[i].t>0
   ·have hm:mLeg (some a.t) l[i]=12:=by rw [Qdn,if_neg (λe=>e ⟨h1,h2⟩),if_pos h3]
    rw [bif_t h3,hm];rfl
   ·rw [Qb h3]
    by_cases h4:l[i].f=a.t
    ·have hm:mLeg (some a.t) l[i]=if (mMoney l[i].op).2≠0 then (mMoney l[i].op).2 else (mRate l[i].rt).2:=by rw [Qdn,if_neg (λe=>e ⟨h1,h2⟩),if_neg h3,if_pos h4]
     rw [if_pos h4,hj2,hm]
     by_cases h5:(mMoney l[i].op).2=0
     ·rw [Zt h5,Zn,Zc,if_neg (show ¬((mMoney l[i].op).2≠0) from λe=>e h5)]
      by_cases h6:(mRate l[i].rt).2=0
      ·rw [Zt h6,Zn,Zc,if_neg (λe=>e h6)]
      ·rw [Zf h6,Zo,Zd,if_pos h6]
     ·rw [Zf h5,Zo,Zd,if_pos (show (mMoney l[i].op).2≠0 from h5),if_pos h5]
    ·have hm:mLeg (some a.t) l[i]=12:=by rw [Qdn,if_neg (λe=>e ⟨h1,h2⟩),if_neg h3,if_neg h4]
     rw [if_neg h4,hm];rfl
  ·have hm:mLeg (some a.t) l[i]=11:=by rw [Qdn,if_pos (λe=>h2 e.2)]
   rw [if_neg h2,Zf (by decide),Zo,hj,Zd,hm];rfl
 ·have hm:mLeg (some a.t) l[i]=11:=by rw [Qdn,if_pos (λe=>h1 e.1)]
  rw [if_neg h1,Zf (by decide),Zo,Zd,hj,Zd,hm];rfl
theorem Qom {l:List Lg} (hl:l.length<=1000000000):∀(f i:Nat) (a:Lg),i+f=l.length->∃o,Runs (λrec x=>z101.l0P (l.map lgv) (l.map lgv) (l.length:Int) rec some x) (lgT a i) o/\(match o with | .inl _=>(0:Int) | .inr e=>e)=mLegs (some a.t) (l.drop i)
 |
  0,i,a,hf=>by
  refine ⟨.inl (lgT a i),.done λrec=>?_,?_⟩
  ·unfold z101.l0P
   simp only
   rw [Qb (by omega)]
  ·rw [Z21 (by omega)];rfl
 |
  f+1,i,a,hf=>by
  have hi:i<l.length:=by omega
  rw [Z38 hi]
  by_cases h:mLeg (some a.t) l[i]≠0
  ·refine ⟨.inr (mLeg (some a.t) l[i]),.done λrec=>?_,?_⟩
   ·rw [Qn4 hi hl,if_pos h]
   ·unfold mLegs;rw [if_pos h]
  ·obtain ⟨o,r1,r2⟩:=Qom hl f (i+1) l[i] (by omega)
   refine ⟨o,.step (λrec=>?_) r1,?_⟩
   ·rw [Qn4 hi hl,if_neg h]
   ·unfold mLegs;rw [if_neg h];exact r2
theorem accrue_Check {l:List Lg} (hl:l.length<=1000000000):z101.F (l.map lgv)=some (mLegs none l):=by
 cases l with
 |nil=>rfl
 |
  cons x l=>
  have hi:0<(x::l).length:=by simp
  have hb:(0:Int)<=0/\(0:Int)<(((x::l).map lgv).length:Int):=by rw [Z18];simp only [Z10];omega
  obtain ⟨o,r1,r2⟩:=Qom hl l.length 1 x (by simp only [Z10];omega)
  have e1:z101.l0 ((x::l).map lgv) ((x::l).map lgv) ((x::l).length:Int) (x.f.1,x.f.2.1,x.f.2.2,x.t.1,x.t.2.1,x.t.2.2,x.op,x.rt,(1:Int))=some o:=r1.lfp
  have e2:z101.l0a ((x::l).map lgv) ((x::l).map lgv) ((x::l).length:Int) (x.f.1,x.f.2.1,x.f.2.2,x.t.1,x.t.2.1,x.t.2.2,x.op,x.rt,(1:Int))=some o:=r1.lfp
  have g0:((x::l).map lgv).getD 0 []=lgv x:=rfl
  have hj2:z101.j13 x.op ((x::l).map lgv) x.rt=bif !decide ((mMoney x.op).2=0) then some (mMoney x.op).2 else bif !decide ((mRate x.rt).2=0) then some (mRate x.rt).2 else some (mLegs (some x.t) l):=by
   unfold z101.j13
   rw [terms_Money]
   simp only [Zb]
   by_cases h:(mMoney x.op).2=0
   ·rw [Zt h,Zn,Zc,Zc,terms_Rate]
    simp only [Zb]
    rw [if_pos hb]
    simp only [g0,asL0,asL1,asL2,asL3,asL4,asL5,asL6,asL7]
    rw [Z18,e2]
    simp only [Zb]
    rw [List.drop_one,List.tail_cons] at r2
    rw [<-r2]
    cases o<;>rfl
   ·rw [Zf h,Zo,Zd,Zd,Zd]
  have hj:∀b:Bool,z101.j11 b x.f.1 x.f.2.1 x.f.2.2 x.t.1 x.t.2.1 x.t.2.2 x.op ((x::l).map lgv) x.rt=bif b then some 11 else bif decide (cmpD x.f x.t>0) then some 12 else z101.j13 x.op ((x::l).map lgv) x.rt:=λb=>by
   unfold z101.j11
   cases b with
   |true=>rfl
   |
    false=>
    rw [Zc,Zc,date_Cmp]
    simp only [Zb]
  have em:mLegs none (x::l)=if mLeg none x≠0 then mLeg none x else mLegs (some x.t) l:=rfl
  unfold z101.F
  rw [bif_t hb.2,if_pos hb]
  simp only [g0,asL0,asL1,asL2,asL3,asL4,asL5,asL6,asL7]
  rw [date_Check]
  simp only [Zb]
  rw [em]
  by_cases h1:rightD x.f
  ·rw [if_pos h1,Zt rfl,Zn,Zc,date_Check]
   simp only [Zb]
   by_cases h2:rightD x.t
   ·rw [if_pos h2,Zt rfl,Zn,hj,Zc]
    by_cases h3:cmpD x.f x.t>0
    ·have hm:mLeg none x=12:=by rw [Qf5,if_neg (λe=>e ⟨h1,h2⟩),if_pos h3]
     rw [bif_t h3,hm];rfl
    ·have hm:mLeg none x=if (mMoney x.op).2≠0 then (mMoney x.op).2 else (mRate x.rt).2:=by rw [Qf5,if_neg (λe=>e ⟨h1,h2⟩),if_neg h3]
     rw [Qb h3,hj2,hm]
     by_cases h5:(mMoney x.op).2=0
     ·rw [Zt h5,Zn,Zc,if_neg (show ¬((mMoney x.op).2≠0) from λe=>e h5)]
      by_cases h6:(mRate x.rt).2=0
      ·rw [Zt h6,Zn,Zc,if_neg (λe=>e h6)]
      ·rw [Zf h6,Zo,Zd,if_pos h6]
     ·rw [Zf h5,Zo,Zd,if_pos (show (mMoney x.op).2≠0 from h5),if_pos h5]
   ·have hm:mLeg none x=11:=by rw [Qf5,if_pos (λe=>h2 e.2)]
    rw [if_neg h2,Zf (by decide),Zo,hj,Zd,hm];rfl
  ·have hm:mLeg none x=11:=by rw [Qf5,if_pos (λe=>h1 e.1)]
   rw [if_neg h1,Zf (by decide),Zo,Zd,hj,Zd,hm];rfl
def okL (l:List Lg):Prop:=∀x∈l,rightD x.f/\rightD x.t/\numD x.f<=numD x.t
theorem Qi4 {l:List Lg} {a:Option D3} (h:mLegs a l=0):okL l:=λx hx=>by
 have:=Qn3 l a h (List.ne_nil_of_mem hx) x hx
 exact ⟨this.1,this.2.1,this.2.2.1⟩
theorem Qfn (s:J1):Sq 16 ((mMoney s).1:Rat):=Sq.int (Z11 (Qoa s) (by decide)) (by decide)
theorem Jp (s:J1):Sq 100 (mRate s).1:=⟨Z11 (Qhs s).1 (by decide),(Qhs s).2⟩
theorem Qoy {b:Int} {tu:D3} {x:Lg} (h1:rightD x.f) (h2:rightD x.t) (hr:rightD tu):Sq 148 (term b tu x):=
 ((Qfn x.op).mul (Jp x.rt)).mul (Qcz b h1 (Qgx h2 hr).1)
theorem Qrd {tu:D3} {x:Lg} (h1:rightD x.f) (h2:rightD x.t) (h3:numD x.f<=numD x.t) (hr:rightD tu) (hc:¬cmpD x.f tu>=0):numD x.f<=numD (minD x.t tu):=by
 rw [Yk h1 hr,Qcx] at hc
 rw [(Qgx h2 hr).2];omega
theorem Qo6 {l:List Lg} {b:Int} {tu:D3} (hb:0<=b/\b<=2) (hr:rightD tu) (hk:okL l) (hl:l.length<=20000):∀(f i:Nat) (s:Rat),i+f=l.length->Sq (1+149*i) s ->
  ∃t,Runs (λrec x=>z117.l0P b (l.map lgv) (l.length:Int) tu.1 tu.2.1 tu.2.2 rec some x) ((i:Int),(fr s).1,(fr s).2.1,(fr s).2.2) (t,(fr (exL b tu s (l.drop i))).1,(fr (exL b tu s (l.drop i))).2.1,(fr (exL b tu s (l.drop i))).2.2)
 |
  0,i,s,hf,hs=>by
  refine ⟨(i:Int),.done λrec=>?_⟩
  rw [Z21 (by omega)]
  unfold z117.l0P
  simp only
  rw [Qb (by omega)];rfl
 |
  f+1,i,s,hf,hs=>by
  have hi:i<l.length:=by omega
  obtain ⟨h1,h2,h3⟩:=hk l[i] (Z16 hi)
  have ek:wr .i64 ((i:Int)+1)=((i+1:Nat):Int):=by rw [Qe (by omega) (by omega)];rfl
  rw [Z38 hi]
  have hd:∀{R:Type} (rec done:(Int×J0×Bool×J0)->Option R),z117.l0P b (l.map lgv) (l.length:Int) tu.1 tu.2.1 tu.2.2 rec done ((i:Int),(fr s).1,(fr s).2.1,(fr s).2.2) =
    bif decide (cmpD l[i].f tu>=0) then done ((i:Int),(fr s).1,(fr s).2.1,(fr s).2.2) else rec (((i+1:Nat):Int),(fr (s+term b tu l[i])).1,(fr (s+term b tu l[i])).2.1,(fr (s+term b tu l[i])).2.2):=λrec done=>by
   unfold z117.l0P
   simp only
   rw [bif_t (by omega),if_pos (by rw [Z18];omega),Zi]
   simp only [Qam lgv hi,asL0,asL1,asL2,asL3,asL4,asL5,asL6,asL7]
   rw [date_Cmp]
   simp only [Zb]
   by_cases hc:cmpD l[i].f tu>=0
   ·rw [bif_t hc,bif_t hc]
   ·rw [Qb hc,Qb hc,terms_Money]
    simp only [Zb]
    rw [terms_Rate]
    simp only [Zb]
    have he:z116.F l[i].t.1 l[i].t.2.1 l[i].t.2.2 tu.1 tu.2.1 tu.2.2=some (minD l[i].t tu):=by
     unfold z116.F minD
     rw [date_Cmp]
     simp only [Zb]
     by_cases h:cmpD l[i].t tu<0
     ·rw [bif_t h,if_pos h]
     ·rw [Qb h,if_neg h]
    rw [he]
    simp only [Zb]
    obtain ⟨m1,m2⟩:=Qgx h2 hr
    rw [count_Year hb h1 m1 (Qrd h1 h2 h3 hr hc)]
    simp only [Zb]
    rw [frac_From]
    simp only [Zb]
    rw [Qc8 (Qfn _) (Jp _) (by decide)]
    simp only [Zb]
    rw [Qc8 ((Qfn _).mul (Jp _)) (Qcz b h1 m1) (by decide)]
    simp only [Zb]
    rw [Qgl hs (((Qfn _).mul (Jp _)).mul (Qcz b h1 m1)) (by omega)]
    simp only [Zb]
    rw [ek]
    rfl
  by_cases hc:cmpD l[i].f tu>=0
  ·refine ⟨(i:Int),.done λrec=>?_⟩
   rw [hd,bif_t hc]
   unfold exL;rw [if_pos hc]
  ·obtain ⟨t,r1⟩:=Qo6 hb hr hk hl f (i+1) (s+term b tu l[i]) (by omega) ((hs.add (Qoy h1 h2 hr)).mono (by omega))
   refine ⟨t,?_⟩
   have e:exL b tu s (l[i]::l.drop (i+1))=exL b tu (s+term b tu l[i]) (l.drop (i+1)):=by
    rw [exL,if_neg hc]
   rw [e]
   exact .step (λrec=>by rw [hd,Qb hc]) r1
theorem Qi1 {b:Int} {tu:D3} (hr:rightD tu):∀(l:List Lg) (s:Rat) (k:Nat),okL l->Sq k s->Sq (k+149*l.length) (exL b tu s l)
 |[],s,k,_,hs=>hs
 |
  x::l,s,k,hk,hs=>by
  have hk':okL l:=λy hy=>hk y (List.mem_cons_of_mem _ hy)
  obtain ⟨h1,h2,h3⟩:=hk x (List.mem_cons_self ..)
  unfold exL
  split
  ·exact hs.mono (by omega)
  ·have:=Qi1 (b:=b) hr l (s+term b tu x) (k+148+1) hk' (hs.add (Qoy h1 h2 hr))
   exact this.mono (by simp only [Z10];omega)
theorem Qt0:fr 0=([],false,[]):=Qnr
theorem accrue_exact {l:List Lg} {b:Int} {tu:D3} (hb:0<=b/\b<=2) (hr:rightD tu) (hk:okL l) (hl:l.length<=20000):z117.F b (l.map lgv) tu.1 tu.2.1 tu.2.2=some (fr (exL b tu 0 l)):=by
 obtain ⟨t,r⟩:=Qo6 hb hr hk hl l.length 0 0 (by omega) (Sq.zero (by decide))
 rw [Z36] at r
 have e:z117.l0 b (l.map lgv) (l.length:Int) tu.1 tu.2.1 tu.2.2 ((0:Int),[],false,[])=some (t,(fr (exL b tu 0 l)).1,(fr (exL b tu 0 l)).2.1,(fr (exL b tu 0 l)).2.2):=by
  have h:=r.lfp
  rw [Qt0] at h
  exact h
 unfold z117.F
 rw [Z18,e]
 rfl
def mExact (b:Int) (l:List Lg) (tu:D3):Int:=if mLegs none l≠0 then mLegs none l else if ¬rightD tu then 11 else if ¬(0<=b/\b<=2) then 2 else 0
theorem accrue_good (b:Int):z105.F b=some (decide (0<=b/\b<=2)):=by
 obtain ⟨w,e,hw⟩:=Qln b
 unfold z105.F
 rw [e]
 simp only [Zb]
 rw [hw]
 congr 1
 by_cases h:0<=b/\b<=2
 ·rw [Zf (λe=>e h),Zt h];rfl
 ·rw [Zt h,Zf h];rfl
theorem accrue_Exact {l:List Lg} {b:Int} {tu:D3} (hl:l.length<=20000):z118.F b (l.map lgv) tu.1 tu.2.1 tu.2.2 =
  some (if mExact b l tu=0 then ((fr (exL b tu 0 l)).1,(fr (exL b tu 0 l)).2.1,(fr (exL b tu 0 l)).2.2,0) else ([],false,[],mExact b l tu)):=by
 unfold z118.F mExact
 rw [accrue_Check (by omega)]
 simp only [Zb]
 by_cases h:mLegs none l=0
 ·rw [Zt h,Zn,Zc,date_Check,if_neg (show ¬(mLegs none l≠0) from λe=>e h)]
  simp only [Zb]
  by_cases h2:rightD tu
  ·rw [if_pos h2,Zt rfl,Zn,Zc,accrue_good,if_neg (show ¬¬rightD tu from λe=>e h2)]
   simp only [Zb]
   by_cases h3:0<=b/\b<=2
   ·rw [Zt h3,Zn,Zc,accrue_exact h3 h2 (Qi4 h) hl,if_neg (show ¬¬(0<=b/\b<=2) from λe=>e h3)]
    rfl
   ·rw [Zf h3,Zo,Zd,if_pos (show ¬(0<=b/\b<=2) from h3)]
    rfl
  ·rw [if_neg h2,Zf (by decide),Zo,Zd,if_pos (show ¬rightD tu from h2)]
   rfl
 ·rw [Zf h,Zo,Zd,if_pos (show mLegs none l≠0 from h),if_neg h]
theorem Qv2 {b:Int} {tu:D3} (hr:rightD tu) {l:List Lg} (hk:okL l) (hl:l.length<=20000):Sq 4000000 (exL b tu 0 l):=
 (Qi1 hr l 0 1 hk (Sq.zero (by decide))).mono (by omega)
theorem accrue_Posted {l:List Lg} {b m:Int} {tu:D3} (hl:l.length<=20000):z119.F b m (l.map lgv) tu.1 tu.2.1 tu.2.2 =
  some (if mExact b l tu=0 then (if 0<=m/\m<=4 then (lb (rnd m (exL b tu 0 l)).natAbs,neg (rnd m (exL b tu 0 l)),0) else ([],false,2)) else ([],false,mExact b l tu)):=by
 unfold z119.F
 rw [accrue_Exact hl]
 simp only [Zb]
 by_cases h:mExact b l tu=0
 ·rw [if_pos h,if_pos h]
  simp only
  have hx:=h
  unfold mExact at hx
  have hg:mLegs none l=0:=by
   by_cases hh:mLegs none l=0
   ·exact hh
   ·rw [if_pos hh] at hx;exact hx
  rw [if_neg (λe=>e hg)] at hx
  have hr:rightD tu:=by
   by_cases hh:rightD tu
   ·exact hh
   ·rw [if_pos hh] at hx;simp at hx
  simp only [decide_true,Zn,Zc]
  by_cases hm:0<=m/\m<=4
  ·rw [if_pos hm,round_Whole hm (Qv2 hr (Qi4 hg) hl) (by decide)];rfl
  ·rw [if_neg hm,Qwe hm];rfl
 ·rw [if_neg h,if_neg h]
  simp only
  rw [Zf h,Zo,Zd]
open Classical in
theorem Qcf (m:Int) {q:Rat} {k:Nat} (h:Sq k q):sz (rnd m q).natAbs<=2*k+2:=by
 obtain ⟨a1,_⟩:=Ql2 m q
 rw [a1]
 have h1:rndN m q.num.natAbs q.den<=q.num.natAbs+1:=by
  have:=Z95 q.num.natAbs q.den
  unfold rndN
  split<;>omega
 have h2:=Q8 h1
 have h3:=Qae q.num.natAbs 1
 have h4:sz 1<=1:=sz_le (by decide)
 have:=h.1
 omega
theorem Qqk {l:List Lg} {b:Int} {tu:D3} (hb:0<=b/\b<=2) (hr:rightD tu) (hg:mLegs none l=0):mExact b l tu=0:=by
 unfold mExact
 rw [if_neg (λe=>e hg),if_neg (λe=>e hr),if_neg (λe=>e hb)]
theorem Qt4 {n:Nat} (hl:(lb n).length<=100000000):∃b:Int,z88.F (lb n)=some b/\0<=b/\b<=64*((lb n).length:Int):=by
 unfold z88.F
 rw [Wy,Zb]
 by_cases h:n=0
 ·rw [Zt h,Zd]
  exact ⟨0,rfl,Z109 _,by omega⟩
 ·rw [Zf h,Zc]
  have h0:0<(lb n).length:=by
   rcases Z12 (lb n).length with e|e
   ·exact absurd ((Qh9 n).1 (by omega)) h
   ·exact e
  have hw:wr .i64 ((((lb n).length:Nat):Int)-1)=(((lb n).length-1:Nat):Int):=by rw [Qe (by omega) (by omega)];omega
  rw [hw,if_pos (by omega),Zi]
  obtain ⟨x,hx,hx2⟩:=limb (Q4 bL n) ((lb n).length-1)
  have hx':(lb n).getD ((lb n).length-1) 0=(x:Int):=hx
  have hpos:0<x:=by
   rcases Z12 x with e|e
   ·exfalso
    have hne:lb n≠[]:=λe=>by rw [e] at h0;exact absurd h0 (by decide)
    have ht:(lb n).getLast hne≠0:=Qhn bL n hne
    rw [List.getLast_eq_getElem] at ht
    rw [e] at hx'
    apply ht
    have:(lb n)[(lb n).length-1]'(by omega)=(lb n).getD ((lb n).length-1) 0:=by rw [Zl,Z1 (by omega)];rfl
    rw [this,hx'];rfl
   ·exact e
  obtain ⟨k,h1,_,_,h4⟩:=bits_Len64 hpos hx2
  rw [hx',h4,Zb]
  rw [Qe (n:=64*(((lb n).length-1:Nat):Int)) (by omega) (by omega),Qe (by omega) (by omega)]
  exact ⟨_,rfl,by omega,by omega⟩
theorem digits_Pow {n t:Nat} (ht:t<=1200) (h:64*(lb n).length*t<=262144) (hs:sz n<=100000):z89.F (lb n) (t:Int)=some (lb (n^t),0):=by
 have l1:=Qk n
 obtain ⟨b,hb,h1,h2⟩:=Qt4 (n:=n) (by omega)
 unfold z89.F
 rw [Qb (by omega),Qb (by omega),hb,Zb]
 have hm:b*(t:Int)<=((64*(lb n).length*t:Nat):Int):=by
  rw [Z13]
  exact Z60 (by omega) (by omega)
 have hm0:0<=b*(t:Int):=Z43 h1 (by omega)
 have hp:t*sz n<=700000000:=Z11 (Z112 ht hs) (by decide)
 rw [Qe (by omega) (by omega),Qb (by omega),digits_power (by omega) hp]
 rfl
def lvl (a r:Rat) (n:Nat):Rat:=if r=0 then a/(n:Rat) else a*r*(1+r)^n/((1+r)^n-1)
theorem Qpx (u v:Rat) (hv:v≠0):∀n:Nat,v^n≠0/\(u/v)^n=u^n/v^n
 |0=>by rw [Rat.pow_zero,Rat.pow_zero,Rat.pow_zero];exact ⟨by decide,by grind⟩
 |
  n+1=>by
  obtain ⟨h1,h2⟩:=Qpx u v hv n
  have h3:v^n*v≠0:=by
   intro e
   rcases Rat.mul_eq_zero.1 e with e|e
   ·exact h1 e
   ·exact hv e
  rw [Rat.pow_succ,Rat.pow_succ,Rat.pow_succ,h2]
  exact ⟨h3,by grind⟩
theorem Qv7 (an rn ad rd U W:Rat) (h1:ad≠0) (h2:rd≠0) (h3:W≠0) (h4:U-W≠0):(an*rn*U)/(ad*rd*(U-W))=(an/ad)*(rn/rd)*(U/W)/(U/W-1):=by
 have h5:U/W-1≠0:=by
  intro h
  apply h4
  have:U/W*W=U:=Rat.div_mul_cancel h3
  grind
 grind
theorem Qf6 (u:Nat):∀n:Nat,((u^n:Nat):Rat)=(u:Rat)^n
 |0=>by rw [Nat.pow_zero,Rat.pow_zero];rfl
 |n+1=>by rw [Z45,Rat.pow_succ,<-Qf6 u n,Rat.natCast_mul]
theorem Qe3 (q:Rat):(q.num:Rat)/((q.den:Nat):Rat)=q:=by
 have h:=Rat.mkRat_eq_div q.num q.den
 rw [Rat.mkRat_self] at h
 exact h.symm
theorem Qch {n:Nat} (h:n≠0):((n:Nat):Rat)≠0:=λe=>by
 have:((n:Nat):Rat)=((0:Nat):Rat):=e
 exact h (Rat.natCast_inj.1 this)
theorem Qig {a r:Rat} {n:Nat} (hr:0<r) (hn:0<n) :
  Rat.divInt (a.num*r.num*(((r.num.natAbs+r.den)^n:Nat):Int)) ((a.den*r.den*((r.num.natAbs+r.den)^n-r.den^n):Nat):Int)=lvl a r n:=by
 have hr0:r≠0:=λe=>by rw [e] at hr;exact absurd hr (by decide)
 have hnum:0<r.num:=by
  have h1:0<=r.num:=Rat.num_nonneg.2 (by grind)
  have h2:r.num≠0:=λe=>hr0 (Rat.num_eq_zero.1 e)
  omega
 have hlt:r.den^n<(r.num.natAbs+r.den)^n:=Nat.pow_lt_pow_left (by omega) (by omega)
 have had:((a.den:Nat):Rat)≠0:=Qch (by have:=a.den_pos;omega)
 have hrd:((r.den:Nat):Rat)≠0:=Qch (by have:=r.den_pos;omega)
 obtain ⟨w1,w2⟩:=Qpx ((r.num.natAbs+r.den:Nat):Rat) ((r.den:Nat):Rat) hrd n
 have hg:1+r=((r.num.natAbs+r.den:Nat):Rat)/((r.den:Nat):Rat):=by
  have e:((r.num.natAbs:Nat):Rat)=(r.num:Rat):=by
   have:(r.num:Int)=((r.num.natAbs:Nat):Int):=by omega
   rw [this];rfl
  rw [Rat.natCast_add,e]
  have:=Qe3 r
  grind
 have hsub:(((r.num.natAbs+r.den)^n-r.den^n:Nat):Rat)=((r.num.natAbs+r.den:Nat):Rat)^n-((r.den:Nat):Rat)^n:=by
  have e:((r.num.natAbs+r.den)^n-r.den^n)+r.den^n=(r.num.natAbs+r.den)^n:=by omega
  have e':(((r.num.natAbs+r.den)^n-r.den^n+r.den^n:Nat):Rat)=(((r.num.natAbs+r.den)^n:Nat):Rat):=congrArg (λk:Nat=>(k:Rat)) e
  rw [Rat.natCast_add,Qf6,Qf6] at e'
  grind
 have hd:((r.num.natAbs+r.den:Nat):Rat)^n-((r.den:Nat):Rat)^n≠0:=by
  rw [<-hsub]
  exact Qch (by omega)
 unfold lvl
 rw [if_neg hr0,hg,w2,Z92]
 have ea:=Qe3 a
 have er:=Qe3 r
 have h:=Qv7 (a.num:Rat) (r.num:Rat) ((a.den:Nat):Rat) ((r.den:Nat):Rat) (((r.num.natAbs+r.den:Nat):Rat)^n) (((r.den:Nat):Rat)^n) had hrd w1 hd
 rw [ea,er] at h
 rw [<-h,Rat.intCast_mul,Rat.intCast_mul]
 have c1:(((r.num.natAbs+r.den)^n:Nat):Int)=(((r.num.natAbs+r.den)^n:Nat):Int):=rfl
 rw [Rat.intCast_natCast,Rat.intCast_natCast,Qf6,Rat.natCast_mul,Rat.natCast_mul,hsub]
theorem Qoz (n:Nat):neg ((n:Nat):Int)=false:=Zf (by omega)
theorem power_plain (n:Nat):z90.F (lb n)=some (lb n,false):=by
 unfold z90.F
 rw [whole_Of,Zb,Z71]
theorem Qqp {k j:Nat} {q r:Rat} (hq:Sq k q) (hr:Sq j r) (h0:r≠0) (hs:k+j<=100000000) :
  z53.F (fr q).1 (fr q).2.1 (fr q).2.2 (fr r).1 (fr r).2.1 (fr r).2.2=some ((fr (q/r)).1,(fr (q/r)).2.1,(fr (q/r)).2.2,0):=by
 have q1:=hq.1;have q2:=hq.2;have r1:=hr.1;have r2:=hr.2
 have h1:=hq.cross hr
 have h2:=hr.cross hq
 rw [Z82] at h2
 have hm:=Qae (q.num*r.den).natAbs ((q.den:Int)*r.num).natAbs
 exact Qj0 (Qg6 (M:=(q.num*r.den).natAbs+((q.den:Int)*r.num).natAbs) (by omega)) h0 (by omega) (by omega) (by omega) (by omega)
theorem Qoh (n:Nat) {t:Nat} (ht:t≠0):sz (n^t)<=t*sz n:=sz_le (by
 have:=Nat.pow_lt_pow_left (J9 n) ht
 rw [<-Nat.pow_mul,Z25] at this
 exact this)
theorem power_Level {a r:Rat} {n:Nat} {k:Nat} (ha:Sq k a) (hk:k<=10000000) (hr:0<=r) (hr':Sq k r) (hn:1<=n/\n<=1200) (hb:64*sz (r.num.natAbs+r.den)*n<=262144) :
  z91.F (fr a).1 (fr a).2.1 (fr a).2.2 (fr r).1 (fr r).2.1 (fr r).2.2 (n:Int)=some ((fr (lvl a r n)).1,(fr (lvl a r n)).2.1,(fr (lvl a r n)).2.2,0):=by
 have hnum:0<=r.num:=Rat.num_nonneg.2 hr
 unfold z91.F
 rw [Qb (by omega),Zf (by omega)]
 unfold z91.j1
 rw [Zc]
 have es:=Qkq r (fr r).2.2
 rw [es,Zb,Qb (by rw [We];omega),Zb]
 by_cases h0:r=0
 ·have hn0:((n:Int):Rat)≠0:=Qch (n:=n) (by omega)
  have sn:sz n<=4:=sz_le (by omega)
  rw [bif_t (by rw [Qbe,h0];rfl),whole_From (by omega),Zb]
  simp only
  rw [frac_From,Zb,Qqp ha (Sq.int (k:=4) (z:=(n:Int)) (by rw [Z41];omega) (by decide)) hn0 (by omega)]
  have e:lvl a r n=a/((n:Int):Rat):=by unfold lvl;rw [if_pos h0];rfl
  rw [e];rfl
 ·have hpos:0<r:=by grind
  have hne:r.num≠0:=λe=>h0 (Rat.num_eq_zero.1 e)
  have a1:=ha.1;have a2:=ha.2;have r1:=hr'.1;have r2:=hr'.2
  have hden:=r.den_pos
  generalize hu:r.num.natAbs+r.den=u at *
  have hnu:n*sz u<=4096:=by
   have e:64*sz u*n=64*(n*sz u):=by rw [Z46,Z25 (sz u) n]
   omega
  have hsu:sz u<=4096:=Z11 (Nat.le_mul_of_pos_left _ (by omega)) hnu
  have lu:=Qk u
  have hvu:sz r.den<=sz u:=Q8 (by omega)
  have lv:=Qk r.den
  have b1:64*(lb u).length*n<=262144:=Z11 (Z3 n (by omega)) hb
  have b2:64*(lb r.den).length*n<=262144:=Z11 (Z3 n (by omega)) hb
  have hle:r.den^n<=u^n:=Nat.pow_le_pow_left (by omega) n
  have hlt:r.den^n<u^n:=Nat.pow_lt_pow_left (by omega) (by omega)
  have sp:sz (u^n)<=n*sz u:=Qoh u (by omega)
  have lp:=Qk (u^n)
  have sl:sz (u^n-r.den^n)<=n*sz u:=Z11 (Q8 (Nat.sub_le _ _)) sp
  have ll:=Qk (u^n-r.den^n)
  have ln:=Qk r.num.natAbs
  have ln2:=Qk a.num.natAbs
  have s1:=Qal a.num r.num
  have l1:=Qk (a.num*r.num).natAbs
  have s2:=Qal (a.num*r.num) ((u^n:Nat):Int)
  have s3:=W6 a.den r.den
  have l3:=Qk (a.den*r.den)
  have l4:=Qk a.den
  have s4:=W6 (a.den*r.den) (u^n-r.den^n)
  rw [Qb (by rw [Qbe];exact hne)]
  have eD:=Js r (fr r).1 (fr r).2.1 (by omega)
  rw [eD,Zb,show z87.F (fr r).1 (fr r).2.1 (fr r).2.2=some ((fr r).1,(fr r).2.1) from rfl,Zb]
  simp only
  rw [show z29.F (lb r.num.natAbs) (neg r.num)=some (lb r.num.natAbs) from rfl,Zb,Qbs (by omega),Zb,hu,digits_Pow hn.2 b1 (by omega),Zb,digits_Pow hn.2 b2 (by omega),Zb]
  simp only [decide_true,Zn,Zc]
  unfold z91.j13
  simp only
  rw [Qfd (by omega),if_pos hle,Zb,show z87.F (lb a.num.natAbs) (neg a.num) (lb (a.den-1))=some (lb a.num.natAbs,neg a.num) from rfl,Zb,show z87.F (lb r.num.natAbs) (neg r.num) (lb (r.den-1))=some (lb r.num.natAbs,neg r.num) from rfl,Zb]
  simp only
  have m1:=J8 (x:=a.num) (y:=r.num) (by omega)
  have m2:=J8 (x:=a.num*r.num) (y:=((u^n:Nat):Int)) (by rw [Z41];omega)
  have o1:=Qf7 (num:=a.num*r.num*((u^n:Nat):Int)) (den:=((a.den*r.den*(u^n-r.den^n):Nat):Int)) (by
   have h1:0<a.den:=a.den_pos
   have h2:0<a.den*r.den:=Z48 h1 hden
   have h3:0<a.den*r.den*(u^n-r.den^n):=Z48 h2 (by omega)
   omega) (by rw [Z41] at s2;omega) (by rw [Z41];omega)
  rw [Z41] at m2
  rw [Qoz] at m2
  rw [Z41 ((a.den*r.den*(u^n-r.den^n):Nat)),Qoz] at o1
  rw [m1,Zb,power_plain,Zb]
  simp only
  rw [m2,Zb,Js a _ _ (by omega),Zb,Jg (by omega),Zb,Jg (by omega),Zb,power_plain,Zb]
  simp only
  rw [o1,Zb,<-hu,Qig hpos (by omega)]
theorem Qy2 (s:J1):0<=(mRate s).1:=by
 unfold mRate
 split
 ·exact Rat.le_refl
 ·split
  ·exact Rat.le_refl
  ·rename_i h
   show (0:Rat)<=mkRat (mDec s).1 (10^(mDec s).2.1)/100
   have h0:0<=(mDec s).1:=by omega
   rw [Rat.mkRat_eq_div]
   have e1:((0:Int):Rat)<=((mDec s).1:Rat):=Rat.intCast_le_intCast.2 h0
   have e2:(0:Rat)<=((mDec s).1:Rat):=e1
   have hp:(0:Nat)<10^(mDec s).2.1:=Z105 (by decide)
   have e3:((0:Nat):Rat)<((10^(mDec s).2.1:Nat):Rat):=Rat.natCast_lt_natCast.2 hp
   have e4:(0:Rat)<((10^(mDec s).2.1:Nat):Rat):=e3
   generalize ((mDec s).1:Rat)=x at *
   generalize ((10^(mDec s).2.1:Nat):Rat)=y at *
   have e5:0<=x/y:=by
    rw [Rat.div_def]
    exact Rat.mul_nonneg e2 (Rat.le_of_lt (Rat.inv_pos.2 e4))
   grind
theorem Qaq (s:J1):0<=(mMoney s).1/\(mMoney s).1<=10^30:=by
 unfold mMoney
 have h10:(0:Int)<=10^30:=by decide
 split
 ·exact ⟨Z109 _,h10⟩
 ·split
  ·exact ⟨Z109 _,h10⟩
  ·rename_i h;exact ⟨by show 0<=(mWhole s).1;omega,by show (mWhole s).1<=_;omega⟩
def perR (s:J1) (every:Int):Rat:=(mRate s).1*Rat.divInt every 12
theorem Qlh {e:Int} (he:1<=e/\e<=12):Sq 2 (Rat.divInt e 12):=Sq.div (by decide) (sz_le (by omega)) (sz_le (by decide))
theorem Qfc (s:J1) {e:Int} (he:1<=e/\e<=12):Sq 102 (perR s e):=(Jp s).mul (Qlh he)
theorem Qsq {e:Int} (he:1<=e):0<Rat.divInt e 12:=by
 rw [Z92]
 have:((1:Int):Rat)<=(e:Rat):=Rat.intCast_le_intCast.2 he
 have e1:(1:Rat)<=(e:Rat):=this
 show 0<(e:Rat)/12
 grind
theorem Qby (s:J1) {e:Int} (he:1<=e):0<=perR s e:=Rat.mul_nonneg (Qy2 s) (Rat.le_of_lt (Qsq he))
theorem level_Rate {s:J1} {e:Int} (h:(mRate s).2=0) (he:1<=e/\e<=12):z85.F s e=some ((fr (perR s e)).1,(fr (perR s e)).2.1,(fr (perR s e)).2.2,0):=by
 unfold z85.F
 rw [terms_Rate,Zb,h]
 simp only [decide_true,Zn,Zc]
 rw [Qb (by omega),Qb (by omega)]
 unfold z85.j2
 have se:sz e.natAbs<=2:=sz_le (by omega)
 have s12:sz (Int.natAbs 12)<=2:=sz_le (by decide)
 have o:=Qf7 (num:=e) (den:=12) (by decide) (by omega) (by omega)
 rw [whole_From (by omega),Zb,whole_From (by decide),Zb]
 simp only
 rw [o,Zb]
 simp only
 rw [Qc8 (Jp s) (Qlh he) (by decide),Zb]
 rfl
def payN (m:Int) (a:Int) (s:J1) (e:Int) (n:Nat):Int:=rnd m (lvl (a:Rat) (perR s e) n)
theorem Qiy {a r:Rat} {n k:Nat} (ha:Sq k a) (hr:0<=r) (hr':Sq k r) (hn:1<=n) (hk:4<=k) (hb:64*sz (r.num.natAbs+r.den)*n<=262144):Sq (2*k+4100) (lvl a r n):=by
 have a1:=ha.1;have a2:=ha.2;have r1:=hr'.1;have r2:=hr'.2
 by_cases h0:r=0
 ·have sn:sz n<=4:=by
   have h1:sz 1<=1:=sz_le (by decide)
   have h2:0<sz (r.num.natAbs+r.den):=by
    have:=Q8 (show 1<=r.num.natAbs+r.den by have:=r.den_pos;omega)
    have e1:sz 1≠0:=by decide +kernel
    omega
   have:64*1*n<=262144:=Z11 (Z3 n (Z49 64 h2)) hb
   exact sz_le (by omega)
  unfold lvl
  rw [if_pos h0]
  have e:a/(n:Rat)=Rat.divInt (a.num) ((a.den*n:Nat):Int):=by
   rw [Z92,Rat.intCast_natCast,Rat.natCast_mul]
   have:=Qe3 a
   have hn0:((n:Nat):Rat)≠0:=Qch (by omega)
   have had:((a.den:Nat):Rat)≠0:=Qch (by have:=a.den_pos;omega)
   grind
  rw [e]
  have hm:=W6 a.den n
  exact Sq.div (by have:=Z48 a.den_pos (show 0<n by omega);omega) (by omega) (by rw [Z41];omega)
 ·have hpos:0<r:=by grind
  rw [<-Qig hpos (by omega)]
  have hden:=r.den_pos
  have hnum:0<=r.num:=Rat.num_nonneg.2 hr
  have hne:r.num≠0:=λe=>h0 (Rat.num_eq_zero.1 e)
  generalize hu:r.num.natAbs+r.den=u at *
  have hnu:n*sz u<=4096:=by
   have e:64*sz u*n=64*(n*sz u):=by rw [Z46,Z25 (sz u) n]
   omega
  have sp:sz (u^n)<=n*sz u:=Qoh u (by omega)
  have sl:sz (u^n-r.den^n)<=n*sz u:=Z11 (Q8 (Nat.sub_le _ _)) sp
  have hlt:r.den^n<u^n:=Nat.pow_lt_pow_left (by omega) (by omega)
  have s1:=Qal a.num r.num
  have s2:=Qal (a.num*r.num) ((u^n:Nat):Int)
  have s3:=W6 a.den r.den
  have s4:=W6 (a.den*r.den) (u^n-r.den^n)
  rw [Z41] at s2
  refine Sq.div ?_ (by omega) (by rw [Z41];omega)
  have h1:0<a.den:=a.den_pos
  have h2:0<a.den*r.den:=Z48 h1 hden
  have h3:0<a.den*r.den*(u^n-r.den^n):=Z48 h2 (by omega)
  omega
theorem Qhl (s:J1) {e:Int} (he:1<=e/\e<=12) {n:Nat} (hn:n<=30):64*sz ((perR s e).num.natAbs+(perR s e).den)*n<=262144:=by
 have h:sz (perR s e).num.natAbs<=102/\sz (perR s e).den<=102:=by
  have h1:=Qhs s
  have se:sz e.natAbs<=2:=sz_le (by omega)
  have s12:sz 12<=2:=sz_le (by decide)
  unfold perR
  have hd:Rat.divInt e 12=mkRat e 12:=rfl
  have m1:=Qbl e (show 0<12 by decide)
  have m2:=Qcl e (show 0<12 by decide)
  rw [<-hd] at m1 m2
  have n1:=Q8 m1
  have n2:=Q8 m2
  rw [Rat.mul_def']
  have p0:0<(mRate s).1.den*(Rat.divInt e 12).den:=Z48 (mRate s).1.den_pos (Rat.divInt e 12).den_pos
  have k1:=Q8 (Qbl ((mRate s).1.num*(Rat.divInt e 12).num) p0)
  have k2:=Q8 (Qcl ((mRate s).1.num*(Rat.divInt e 12).num) p0)
  have k3:=Qal (mRate s).1.num (Rat.divInt e 12).num
  have k4:=W6 (mRate s).1.den (Rat.divInt e 12).den
  constructor<;>omega
 have hm:=Qae (perR s e).num.natAbs (perR s e).den
 have hs:sz ((perR s e).num.natAbs+(perR s e).den)<=104:=by omega
 exact Z11 (Z112 (Z49 64 hs) hn) (by decide)
theorem level_Payment {a:Int} {s:J1} {e m:Int} {n:Nat} (ha:0<=a) (hz:sz a.natAbs<=200) (h:(mRate s).2=0) (he:1<=e/\e<=12) (hn:1<=n/\n<=30) (hm:0<=m/\m<=4) :
  z95.F (lb a.natAbs) (neg a) s e (n:Int) m=some (lb (payN m a s e n).natAbs,neg (payN m a s e n),0):=by
 have hq:Sq 102 (a:Rat):=Sq.int (by omega) (by decide)
 have hb:=Qhl s he hn.2
 unfold z95.F
 rw [level_Rate h he,Zb]
 simp only [decide_true,Zn,Zc]
 rw [Yc,Zb,Qb (by rw [We];omega),frac_From,Zb,power_Level hq (by decide) (Qby s he.1) (Qfc s he) ⟨hn.1,by omega⟩ hb,Zb]
 simp only [decide_true,Zn,Zc]
 rw [round_Whole hm (Qiy hq (Qby s he.1) (Qfc s he) hn.1 (by decide) hb) (by decide),Zb]
 rfl
def Qgd (m:Int) (a:Int) (n:Nat):Int:=rnd m (Rat.divInt a n)
theorem level_Part {a:Int} {m:Int} {n:Nat} (ha:0<=a) (hz:sz a.natAbs<=200) (hn:1<=n/\n<=1200) (hm:0<=m/\m<=4):z96.F (lb a.natAbs) (neg a) (n:Int) m=some (lb (Qgd m a n).natAbs,neg (Qgd m a n),0):=by
 have sn:sz n<=4:=sz_le (by omega)
 unfold z96.F
 rw [Yc,Zb,Qb (by rw [We];omega),Qb (by omega),Qb (by omega)]
 unfold z96.j2
 rw [whole_From (by omega),Zb]
 simp only
 rw [Qf7 (by omega) (by omega) (by rw [Z41];omega),Zb]
 simp only
 rw [round_Whole hm (Sq.div (k:=200) (by omega) (by omega) (by rw [Z41];omega)) (by decide),Zb]
 rfl
def intX (t:Tm) (z:Int) (a b:D3):Rat:=(z:Rat)*(mRate t.r).1*yf t.basis a.1 a.2.1 a.2.2 b.1 b.2.1 b.2.2
def intN (t:Tm) (z:Int) (a b:D3):Int:=rnd t.mode (intX t z a b)
theorem Qo4 {t:Tm} {z:Int} {a b:D3} (hz:sz z.natAbs<=200) (ha:rightD a) (hb:rightD b):Sq 232 (intX t z a b):=
 ((Sq.int (k:=100) (by omega) (by decide)).mul (Jp t.r)).mul (Qcz t.basis ha hb)
theorem Qwf {t:Tm} {z:Int} {a b:D3} (hz:sz z.natAbs<=200) (ha:rightD a) (hb:rightD b):sz (intN t z a b).natAbs<=466:=Qcf t.mode (Qo4 hz ha hb)
theorem Qdc {t:Tm} (h:kindsOK t):(0<=t.kind/\t.kind<=2)/\(0<=t.basis/\t.basis<=2)/\(0<=t.mode/\t.mode<=4)/\Qcs t.every:=h
theorem plan_Interest {t:Tm} (h:mCheck t=0) {z:Int} (hz:sz z.natAbs<=200) {a b:D3} (ha:rightD a) (hb:rightD b) (hab:numD a<=numD b) :
  z143.F (lb z.natAbs) (neg z) t.p t.r t.kind t.basis t.mode t.y t.m t.d t.every t.count a.1 a.2.1 a.2.2 b.1 b.2.1 b.2.2=some (lb (intN t z a b).natAbs,neg (intN t z a b),0):=by
 obtain ⟨hk,hc,_,_⟩:=Yo h
 obtain ⟨_,k2,k3,_⟩:=Qdc hk
 have q1:Sq 100 (z:Rat):=Sq.int (by omega) (by decide)
 unfold z143.F
 rw [terms_Check,Zb,h]
 simp only [decide_true,Zn,Zc]
 rw [count_Year k2 ha hb hab,Zb]
 simp only [decide_true,Zn,Zc]
 rw [terms_Rate,Zb,frac_From,Zb,Qc8 q1 (Jp t.r) (by decide),Zb,Qc8 (q1.mul (Jp t.r)) (Qcz t.basis ha hb) (by decide),Zb]
 have hw:=round_Whole k3 (Qo4 (t:=t) hz ha hb) (by decide)
 unfold intX at hw
 rw [hw,Zb]
 rfl
structure Rw where
 due:D3
 o:Int
 n:Int
 b:Int
 pay:Int
 c:Int
deriving DecidableEq
def rwv (x:Rw):List V:=[.int .i64 x.due.1,.int .i64 x.due.2.1,.int .i64 x.due.2.2,.str (itxt x.o),.str (itxt x.n),.str (itxt x.b),.str (itxt x.pay),.str (itxt x.c)]
theorem asW0 {R:Type} (x:Rw) (K:Int->Option R):V.asInt .i64 ((rwv x).getD 0 .undef) K=K x.due.1:=by simp [rwv,V.asInt]
theorem asW1 {R:Type} (x:Rw) (K:Int->Option R):V.asInt .i64 ((rwv x).getD 1 .undef) K=K x.due.2.1:=by simp [rwv,V.asInt]
theorem asW2 {R:Type} (x:Rw) (K:Int->Option R):V.asInt .i64 ((rwv x).getD 2 .undef) K=K x.due.2.2:=by simp [rwv,V.asInt]
theorem asW3 {R:Type} (x:Rw) (K:J1->Option R):V.asStr ((rwv x).getD 3 .undef) K=K (itxt x.o):=by simp [rwv,V.asStr]
theorem asW4 {R:Type} (x:Rw) (K:J1->Option R):V.asStr ((rwv x).getD 4 .undef) K=K (itxt x.n):=by simp [rwv,V.asStr]
theorem asW5 {R:Type} (x:Rw) (K:J1->Option R):V.asStr ((rwv x).getD 5 .undef) K=K (itxt x.b):=by simp [rwv,V.asStr]
theorem asW6 {R:Type} (x:Rw) (K:J1->Option R):V.asStr ((rwv x).getD 6 .undef) K=K (itxt x.pay):=by simp [rwv,V.asStr]
theorem asW7 {R:Type} (x:Rw) (K:J1->Option R):V.asStr ((rwv x).getD 7 .undef) K=K (itxt x.c):=by simp [rwv,V.asStr]
def less (a b:Int):Int:=if a<b then a else b
def Yb (kind one z n:Int):Int:=if kind=0 then (if one-n<0 then 0 else less (one-n) z) else less one z
theorem Qke {a b:Int} (h:sz a.natAbs+sz b.natAbs<=700000000):z144.F (lb a.natAbs) (neg a) (lb b.natAbs) (neg b)=some (lb (less a b).natAbs,neg (less a b)):=by
 have l1:=Qk a.natAbs
 have l2:=Qk b.natAbs
 unfold z144.F less
 rw [Qbt (by omega),Zb]
 by_cases c:a<b
 ·rw [bif_t (We.2 c),if_pos c]
 ·rw [Qb (λe=>c (We.1 e)),if_neg c]
theorem plan_part {kind one z n:Int} (h1:sz one.natAbs<=10000000) (h2:sz z.natAbs<=10000000) (h3:sz n.natAbs<=10000000):z145.F kind (lb one.natAbs) (neg one) (lb z.natAbs) (neg z) (lb n.natAbs) (neg n)=some (lb (Yb kind one z n).natAbs,neg (Yb kind one z n)):=by
 have l1:=Qk one.natAbs
 have l3:=Qk n.natAbs
 have hs:sz (one-n).natAbs<=10000001:=by
  have h:=Q8 (show (one-n).natAbs<=one.natAbs+n.natAbs by omega)
  have:=Qae one.natAbs n.natAbs
  omega
 unfold z145.F Yb
 by_cases hk:kind=0
 ·rw [bif_t hk,if_pos hk,Qb6 (by omega),Zb]
  simp only
  rw [Yc,Zb]
  by_cases c:one-n<0
  ·rw [bif_t (by rw [We];exact c),if_pos c,show Int.natAbs 0=0 from rfl,lb_zero];rfl
  ·rw [Qb (by rw [We];exact c),if_neg c,Qke (by omega),Zb]
 ·rw [Qb hk,if_neg hk,Qke (by omega),Zb]
def mRow (t:Tm) (one z:Int) (p:D3×D3) (last:Bool):Rw:=
 let n:=intN t z p.1 p.2
 let b:=if last then z else Yb t.kind one z n
 ⟨p.2,z,n,b,n+b,z-b⟩
def Y1 (t:Tm) (one:Int):Int->List (D3×D3)->List Rw
 |_,[]=>[]
 |z,p::ps=>mRow t one z p (decide (ps=[]))::Y1 t one (mRow t one z p (decide (ps=[]))).c ps
theorem Qs9 {kind one z n:Int} (h1:0<=one) (hz:0<=z):0<=Yb kind one z n/\Yb kind one z n<=z:=by
 unfold Yb less
 split<;>(try split)<;>(try split)<;>omega
theorem Qb9 {t:Tm} {one z:Int} {p:D3×D3} {last:Bool} (h1:0<=one) (hz:0<=z):0<=(mRow t one z p last).c/\(mRow t one z p last).c<=z/\0<=(mRow t one z p last).b/\(mRow t one z p last).b<=z:=by
 have h:=Qs9 (kind:=t.kind) (n:=intN t z p.1 p.2) h1 hz
 show 0<=z-(if last then z else Yb t.kind one z (intN t z p.1 p.2))/\z-(if last then z else Yb t.kind one z (intN t z p.1 p.2))<=z/\0<=(if last then z else Yb t.kind one z (intN t z p.1 p.2))/\(if last then z else Yb t.kind one z (intN t z p.1 p.2))<=z
 split<;>omega
theorem Qne (t:Tm) (one:Int):∀(ps:List (D3×D3)) (z:Int),(Y1 t one z ps).length=ps.length
 |[],_=>rfl
 |p::ps,z=>by simp [Y1,Qne t one ps]
def okP (ps:List (D3×D3)):Prop:=∀p∈ps,rightD p.1/\rightD p.2/\numD p.1<=numD p.2
theorem Qga {z:Int} (h0:0<=z) (h:z<=10^30):sz z.natAbs<=31:=sz_le (by
 have e:(10:Int)^30=1000000000000000000000000000000:=by decide
 rw [e] at h
 omega)
theorem Qm6 {t:Tm} (h:mCheck t=0) {one:Int} (h1:0<=one) (h1s:sz one.natAbs<=10000000) {ps:List (D3×D3)} (hp:okP ps) (hl:ps.length<=1200):∀(f i:Nat) (z:Int) (s:List Rw),i+f=ps.length->0<=z->z<=10^30->s.length=i ->
  ∃st:Int×J0×Bool,Runs (λrec x=>z146.l0P (ps.map pv) (ps.map pv) (((ps.map pv).length:Nat):Int) t.p t.r t.kind t.basis t.mode t.y t.m t.d t.every t.count (lb one.natAbs) (neg one) rec some x) ((i:Int),lb z.natAbs,neg z,s.map rwv) (.inl (st.1,st.2.1,st.2.2,(s++Y1 t one z (ps.drop i)).map rwv))
 |
  0,i,z,s,hf,hz,hz',hs=>by
  refine ⟨((i:Int),lb z.natAbs,neg z),.done λrec=>?_⟩
  rw [Z21 (by omega)]
  have ea:s++Y1 t one z []=s:=Z39 s
  rw [ea]
  unfold z146.l0P
  simp only
  rw [Qb (by rw [Z18];omega)]
 |
  f+1,i,z,s,hf,hz,hz',hs=>by
  have hi:i<ps.length:=by omega
  obtain ⟨r1,r2,r3⟩:=hp ps[i] (Z16 hi)
  have ek:wr .i64 ((i:Int)+1)=((i+1:Nat):Int):=by rw [Qe (by omega) (by omega)];rfl
  have hw:wr .i64 ((((ps.map pv).length:Nat):Int)-1)=((ps.length-1:Nat):Int):=by rw [Z18,Qe (by omega) (by omega)];omega
  have s0:=Qga hz hz'
  have sn:=Qwf (t:=t) (z:=z) (by omega) r1 r2
  have key:∀last:Bool,0<=(mRow t one z ps[i] last).b/\(mRow t one z ps[i] last).b<=z:=λlast=>⟨(Qb9 h1 hz).2.2.1,(Qb9 h1 hz).2.2.2⟩
  have hj:∀(last:Bool) (rec:(Int×J0×Bool×J2)->Option ((Int×J0×Bool×J2)⊕(J2×Int×J0×Bool×J2))),
    z146.j1031a rec some (lb z.natAbs) (neg z) (lb (mRow t one z ps[i] last).b.natAbs) (neg (mRow t one z ps[i] last).b) (lb (intN t z ps[i].1 ps[i].2).natAbs,neg (intN t z ps[i].1 ps[i].2),0) (s.map rwv) ps[i].2.1 ps[i].2.2.1 ps[i].2.2.2 (i:Int) =
     rec (((i+1:Nat):Int),lb (mRow t one z ps[i] last).c.natAbs,neg (mRow t one z ps[i] last).c,(s++[mRow t one z ps[i] last]).map rwv):=λlast rec=>by
   obtain ⟨kb1,kb2⟩:=key last
   have sb:=Qga kb1 (by omega)
   have sc:=Qga (Qb9 (t:=t) (p:=ps[i]) (last:=last) h1 hz).1 (by have:=(Qb9 (t:=t) (p:=ps[i]) (last:=last) h1 hz).2.1;omega)
   have ec:z-(mRow t one z ps[i] last).b=(mRow t one z ps[i] last).c:=rfl
   have ep:intN t z ps[i].1 ps[i].2+(mRow t one z ps[i] last).b=(mRow t one z ps[i] last).pay:=rfl
   have l1:=Qk z.natAbs
   have l2:=Qk (mRow t one z ps[i] last).b.natAbs
   have l3:=Qk (intN t z ps[i].1 ps[i].2).natAbs
   have sp:sz (mRow t one z ps[i] last).pay.natAbs<=500:=by
    have h:=Qh0 (intN t z ps[i].1 ps[i].2) (mRow t one z ps[i] last).b
    rw [ep] at h;omega
   unfold z146.j1031a
   rw [Qb6 (by omega),Zb,ec,W3 (by omega),Zb]
   simp only
   rw [W3 (by omega),Zb,W3 (by omega),Zb,Qe5 (by omega),Zb,ep]
   simp only
   rw [W3 (by omega),Zb,W3 (by omega),Zb,if_pos (by simp only [Z18,Z10,Z54];omega),ek,Z68]
   rfl
  have hdrop:ps.drop i=ps[i]::ps.drop (i+1):=Z38 hi
  have hlast:decide (ps.drop (i+1)=[])=decide (i=ps.length-1):=by
   apply decide_eq_decide.2
   rw [List.drop_eq_nil_iff];omega
  obtain ⟨st,r⟩:=Qm6 h h1 h1s hp hl f (i+1) (mRow t one z ps[i] (decide (i=ps.length-1))).c (s++[mRow t one z ps[i] (decide (i=ps.length-1))]) (by omega) (Qb9 h1 hz).1 (by have:=(Qb9 (t:=t) (p:=ps[i]) (last:=decide (i=ps.length-1)) h1 hz).2.1;omega) (by rw [Z9,Z35];omega)
  refine ⟨st,?_⟩
  have hm:Y1 t one z (ps.drop i)=mRow t one z ps[i] (decide (i=ps.length-1))::Y1 t one (mRow t one z ps[i] (decide (i=ps.length-1))).c (ps.drop (i+1)):=by
   rw [hdrop]
   show mRow t one z ps[i] (decide (ps.drop (i+1)=[]))::Y1 t one (mRow t one z ps[i] (decide (ps.drop (i+1)=[]))).c (ps.drop (i+1))=_
   rw [hlast]
  rw [hm,List.append_cons]
  refine .step (λrec=>?_) r
  unfold z146.l0P
  simp only
  rw [bif_t (by rw [Z18];omega),if_pos (by rw [Z18];omega),Zi,Qam pv hi]
  simp only [asP0,asP1,asP2,asP3,asP4,asP5]
  rw [plan_Interest h (by omega) r1 r2 r3,Zb]
  simp only [decide_true,Zn,Zc]
  rw [plan_part h1s (by omega) (by omega),Zb,hw]
  by_cases hc:i=ps.length-1
  ·rw [bif_t (by omega)]
   have:=hj true rec
   rw [Zt hc]
   exact this
  ·rw [Qb (by omega)]
   have:=hj false rec
   rw [Zf hc]
   exact this
theorem Qfj (m:Int) {q:Rat} (h:0<=q):0<=rnd m q:=by
 have:=Rat.num_nonneg.2 h
 unfold rnd
 rw [if_neg (by omega)]
 omega
theorem Qhj {a b:Int} (h:0<=a) (h':0<b):0<=Rat.divInt a b:=by
 rw [Z92,Rat.div_def]
 have e1:((0:Int):Rat)<=(a:Rat):=Rat.intCast_le_intCast.2 h
 have e2:((0:Int):Rat)<(b:Rat):=Rat.intCast_lt_intCast.2 h'
 exact Rat.mul_nonneg e1 (Rat.le_of_lt (Rat.inv_pos.2 e2))
theorem Qlz {a r:Rat} {n:Nat} (ha:0<=a) (hr:0<=r) (hn:1<=n):0<=lvl a r n:=by
 by_cases h0:r=0
 ·unfold lvl
  rw [if_pos h0,Rat.div_def]
  have e:((0:Nat):Rat)<=((n:Nat):Rat):=Rat.natCast_le_natCast.2 (Z89 n)
  have hn0:((0:Nat):Rat)<((n:Nat):Rat):=Rat.natCast_lt_natCast.2 (by omega)
  exact Rat.mul_nonneg ha (Rat.le_of_lt (Rat.inv_pos.2 hn0))
 ·have hpos:0<r:=by grind
  rw [<-Qig hpos (by omega)]
  have hnum:0<=r.num:=Rat.num_nonneg.2 hr
  have hne:r.num≠0:=λe=>h0 (Rat.num_eq_zero.1 e)
  have hna:0<=a.num:=Rat.num_nonneg.2 ha
  have hlt:r.den^n<(r.num.natAbs+r.den)^n:=Nat.pow_lt_pow_left (by omega) (by omega)
  have h2:0<a.den*r.den:=Z48 a.den_pos r.den_pos
  have h3:0<a.den*r.den*((r.num.natAbs+r.den)^n-r.den^n):=Z48 h2 (by omega)
  exact Qhj (Z43 (Z43 hna hnum) (by omega)) (by omega)
def Qbu (t:Tm):Int:=if t.kind=0 then payN t.mode (mMoney t.p).1 t.r t.every t.count.toNat else if t.kind=1 then Qgd t.mode (mMoney t.p).1 t.count.toNat else 0
theorem Qmp {z:Int} (h:0<=z):(0:Rat)<=(z:Rat):=by
 have e1:((0:Int):Rat)<=(z:Rat):=Rat.intCast_le_intCast.2 h
 exact e1
theorem Qsw {t:Tm} (h:mCheck t=0) (hc:t.count<=30):0<=Qbu t/\sz (Qbu t).natAbs<=10000/\z142.F t.p t.r t.kind t.basis t.mode t.y t.m t.d t.every t.count=some (lb (Qbu t).natAbs,neg (Qbu t),0):=by
 obtain ⟨hk,hcc,_,_⟩:=Yo h
 obtain ⟨k1,k2,k3,k4⟩:=Qdc hk
 have he:=Qd2 k4
 obtain ⟨i1,i2,_⟩:=(mCheck_iff t).1 h
 obtain ⟨n,hn⟩:=Ye (show 0<=t.count by omega)
 have hz:=Qaq t.p
 have hsz:=Qoa t.p
 have hq:Sq 102 (((mMoney t.p).1:Int):Rat):=Sq.int (by omega) (by decide)
 unfold z142.F
 rw [terms_Money,Zb]
 simp only
 unfold Qbu
 by_cases c0:t.kind=0
 ·rw [if_pos c0,bif_t c0,hn,Zi,level_Payment hz.1 (by omega) i2 he (by omega) k3,Zb]
  have hb:=Qhl t.r he (n:=n) (by omega)
  refine ⟨Qfj _ (Qlz (Qmp hz.1) (Qby t.r he.1) (by omega)),?_,rfl⟩
  have:=Qcf t.mode (Qiy (n:=n) hq (Qby t.r he.1) (Qfc t.r he) (by omega) (by decide) hb)
  show sz (rnd t.mode (lvl ((mMoney t.p).1:Rat) (perR t.r t.every) n)).natAbs<=10000
  omega
 ·rw [if_neg c0,Qb c0]
  by_cases c1:t.kind=1
  ·rw [if_pos c1,bif_t c1,hn,Zi,level_Part hz.1 (by omega) (by omega) k3,Zb]
   have sn:sz n<=4:=sz_le (by omega)
   refine ⟨Qfj _ (Qhj hz.1 (by omega)),?_,rfl⟩
   have:=Qcf t.mode (Sq.div (k:=200) (n:=(mMoney t.p).1) (d:=(n:Int)) (by omega) (by omega) (by rw [Z41];omega))
   show sz (rnd t.mode (Rat.divInt (mMoney t.p).1 n)).natAbs<=10000
   omega
  ·rw [if_neg c1,Qb c1]
   refine ⟨Z109 _,by show sz 0<=_;rw [Qak];omega,?_⟩
   rw [show Int.natAbs 0=0 from rfl,lb_zero];rfl
theorem Qmn:∀(a:D3) (l:List D3),rightD a->(∀x∈l,rightD x)->(∀j (h:j<l.length),numD (if h0:j=0 then a else l[j-1]'(by omega))<=numD l[j])->okP (pairs a l)
 |a,[],_,_,_=>λp hp=>by simp [pairs] at hp
 |
  a,b::l,ha,hl,hn=>by
  intro p hp
  have hb:=hl b (List.mem_cons_self ..)
  rcases Z108.1 (show p∈(a,b)::pairs b l from hp) with rfl|hp
  ·exact ⟨ha,hb,hn 0 (by simp)⟩
  ·refine Qmn b l hb (λx hx=>hl x (List.mem_cons_of_mem _ hx)) (λj hj=>?_) p hp
   have:=hn (j+1) (by simp only [Z10];omega)
   rw [dif_neg (by omega)] at this
   by_cases h0:j=0
   ·subst h0;exact this
   ·rw [dif_neg h0]
    obtain ⟨i,rfl⟩:∃i,j=i+1:=⟨j-1,by omega⟩
    exact this
theorem Qgr {t:Tm} (h:mCheck t=0):okP t.periods:=by
 have d:=Qh7 h
 refine Qmn t.start t.dates d.start (λx hx=>?_) (λj hj=>?_)
 ·obtain ⟨i,hi,rfl⟩:=Z76 hx
  exact d.right i hi
 ·by_cases h0:j=0
  ·subst h0
   rw [dif_pos rfl]
   exact Int.le_of_lt (d.first 0 hj)
  ·rw [dif_neg h0]
   exact Int.le_of_lt (d.lt (j-1) j (by omega) hj (by omega))
theorem Qfz (t:Tm):t.periods.length=t.count.toNat:=by
 show (pairs t.start t.dates).length=_
 rw [Qc7,t.dates_len]
def mBuild (t:Tm):List Rw:=Y1 t (Qbu t) (mMoney t.p).1 t.periods
theorem Qr4 (t:Tm):(mBuild t).length=t.count.toNat:=by
 unfold mBuild
 rw [Qne,Qfz]
theorem plan_Build {t:Tm} (h:mCheck t=0) (hc:t.count<=30):z146.F t.p t.r t.kind t.basis t.mode t.y t.m t.d t.every t.count=some ((mBuild t).map rwv,0):=by
 obtain ⟨e1,e2,e3⟩:=Qsw h hc
 have hz:=Qaq t.p
 have hl:=Qfz t
 obtain ⟨st,r⟩:=Qm6 h e1 (by omega) (Qgr h) (by omega) t.periods.length 0 (mMoney t.p).1 [] (Z17 _) hz.1 hz.2 rfl
 rw [Z36,Z103] at r
 have er:=r.lfp
 unfold z146.F
 rw [dues_Periods,if_pos h,Zb]
 simp only [decide_true,Zn,Zc]
 rw [e3,Zb]
 simp only [decide_true,Zn,Zc]
 rw [terms_Money,Zb]
 simp only
 refine (congrArg (λo=>Option.bind o _) er).trans ?_
 rfl
theorem Qtp {t:Tm} {most:Int} (h:Good t most) (hm:most<=40):mCheck t=0:=by
 have hb:=Qg9 h.kinds.2.2.2 (c:=t.count) ⟨h.count.1,by have:=h.count.2;omega⟩
 have hc:=h.count
 have hev:=h.kinds.2.2.2
 exact h.check (by
  have h1:t.every<=12:=by rcases hev with h|h|h|h|h|h<;>omega
  have h2:t.every*t.count<=12*t.count:=Z60 h1 (by omega)
  omega) (by omega)
theorem Quo {l:List Rw} (hl:l.length<=2000):z141.F (l.map rwv) (l.map rwv)=some true:=by
 have key:∀(f i:Nat),i+f=l.length->Runs (λrec x=>z141.l0P (l.map rwv) (l.map rwv) (((l.map rwv).length:Nat):Int) rec some x) (i:Int) (.inl ((l.length:Nat):Int)):=by
  intro f
  induction f with
  |
   zero=>
   intro i hi
   refine .done λrec=>?_
   unfold z141.l0P
   rw [Qb (by rw [Z18];omega)]
   have:(i:Int)=((l.length:Nat):Int):=by omega
   rw [this]
  |
   succ f ih=>
   intro i hi
   have hi':i<l.length:=by omega
   have ek:wr .i64 ((i:Int)+1)=((i+1:Nat):Int):=by rw [Qe (by omega) (by omega)];rfl
   refine .step (λrec=>?_) (ih (i+1) (by omega))
   unfold z141.l0P
   rw [bif_t (by rw [Z18];omega),if_pos (by rw [Z18];omega),Zi,Qam rwv hi']
   simp only [asW0,asW1,asW2,asW3,asW4,asW5,asW6,asW7]
   rw [if_pos (by rw [Z18];omega)]
   simp only [decide_true,Bool.and_true,Zn,Zc]
   rw [ek]
 have r:=(key l.length 0 (Z17 _)).lfp
 unfold z141.F
 rw [Zt rfl,Zn,Zc]
 refine (congrArg (λo=>Option.bind o _) r).trans ?_
 rfl
def kDue:J1:=[100,117,101]
def Qjl (v:J1):Int:=if (mMoney v).2≠0 then (mMoney v).2 else if (mMoney v).1=0 then 19 else 0
def mVal (k:Int) (v:J1):Int:=
 if k=3 then (if v=[] then 0 else 4) else if k=2 then (mRate v).2 else if k=0/\v=kDue then 0 else Qjl v
theorem script_money (v:J1):z77.F v=some (Qjl v):=by
 unfold z77.F Qjl
 rw [terms_Money,Zb]
 by_cases h:(mMoney v).2=0
 ·simp only [h,decide_true,Zd,ne_eq,not_true_eq_false,if_false]
  rw [Yc,Zb]
  by_cases h0:(mMoney v).1=0
  ·rw [if_pos h0,bif_t (Qbe.2 h0)]
  ·rw [if_neg h0,Qb (λe=>h0 (Qbe.1 e))]
 ·rw [if_pos h,Qb h]
theorem script_value {k:Int} (hk:0<=k/\k<=3) (y m d:Int) (v:J1):z78.F k y m d v=some (mVal k v):=by
 unfold z78.F mVal
 by_cases h0:k=0
 ·rw [bif_t h0,if_neg (by omega),if_neg (by omega)]
  by_cases hv:v=kDue
  ·rw [if_pos ⟨h0,hv⟩];exact bif_t hv
  ·rw [if_neg (λh=>hv h.2)]
   refine (Qb hv).trans ?_
   rw [script_money];rfl
 ·rw [Qb h0,if_neg (show ¬(k=0/\v=kDue) from λh=>h0 h.1)]
  by_cases h1:k=1
  ·rw [bif_t h1,if_neg (by omega),if_neg (by omega),script_money];rfl
  ·rw [Qb h1]
   by_cases h2:k=2
   ·rw [bif_t h2,if_neg (by omega),if_pos h2,terms_Rate];rfl
   ·rw [Qb h2,if_pos (show k=3 by omega)]
    by_cases hv:v=[]
    ·rw [if_pos hv,Zt hv];rfl
    ·rw [if_neg hv,Zf hv];rfl
structure Evt where
 k:Int
 y:Int
 m:Int
 d:Int
 v:List UInt8
deriving DecidableEq
def Evt.r (e:Evt):List V:=[.int .i64 e.k,.int .i64 e.y,.int .i64 e.m,.int .i64 e.d,.str e.v]
structure Qdt (e:Evt):Prop where
 k:0<=e.k/\e.k<=3
 d:right e.y e.m e.d
 v:mVal e.k e.v=0
 l:e.v.length<=4096
def Seq:Int->Int->Int->List Evt->Prop
 |_,_,_,[]=>True
 |y,m,d,e::t=>¬dcmp e.y e.m e.d y m d<0/\Qdt e/\Seq e.y e.m e.d t
theorem eK {R:Type} (t:Evt) (K:Int->Option R):V.asInt .i64 ((Evt.r t).getD 0 .undef) K=K t.k:=rfl
theorem eY {R:Type} (t:Evt) (K:Int->Option R):V.asInt .i64 ((Evt.r t).getD 1 .undef) K=K t.y:=rfl
theorem eM {R:Type} (t:Evt) (K:Int->Option R):V.asInt .i64 ((Evt.r t).getD 2 .undef) K=K t.m:=rfl
theorem eD {R:Type} (t:Evt) (K:Int->Option R):V.asInt .i64 ((Evt.r t).getD 3 .undef) K=K t.d:=rfl
theorem eV {R:Type} (t:Evt) (K:J1->Option R):V.asStr ((Evt.r t).getD 4 .undef) K=K t.v:=rfl
theorem Qha {L:List Evt} {i:Nat} (h:i<L.length):(L.map Evt.r).getD i []=Evt.r L[i]:=by
 rw [Zl,List.getElem?_map,Z1 h];rfl
theorem Qnn:∀{L:List Evt} {y m d:Int},Seq y m d L->∀e∈L,Qdt e
 |[],_,_,_,_,e,he=>by simp at he
 |
  a::t,_,_,_,h,e,he=>by
  rcases Z108.1 he with rfl|he
  ·exact h.2.1
  ·exact Qnn h.2.2 e he
def eErr (y m d:Int) (e:Evt):Int:=
 if e.k<0\/3<e.k then 2 else if ¬right e.y e.m e.d then 11 else if dcmp e.y e.m e.d y m d<0 then 12 else mVal e.k e.v
def mChk:Int->Int->Int->Int->List Evt->Int×Int
 |_,_,_,_,[]=>(0,0)
 |i,y,m,d,e::t=>if eErr y m d e≠0 then (i,eErr y m d e) else mChk (i+1) e.y e.m e.d t
theorem Qw8 (e:Evt) (y m d:Int):z79.F e.k e.y e.m e.d e.v y m d=some (eErr y m d e):=by
 unfold z79.F eErr
 by_cases h0:e.k<0
 ·rw [bif_t h0,if_pos (.inl h0)];rfl
 ·rw [Qb h0]
  unfold z79.j1
  by_cases h4:e.k>=4
  ·rw [bif_t h4,if_pos (.inr (by omega))]
  ·rw [Qb h4,if_neg (by omega),date_Check,Zb]
   by_cases hr:right e.y e.m e.d
   ·rw [if_pos hr,if_neg (λhh=>hh hr),show (!decide ((0:Int)=0))=false from rfl]
    simp only [Zc]
    rw [date_Cmp,Zb]
    by_cases hd:dcmp e.y e.m e.d y m d<0
    ·rw [bif_t hd,if_pos hd]
    ·rw [Qb hd,if_neg hd,script_value (by omega)];rfl
   ·rw [if_neg hr,if_pos hr];rfl
def outC:(Int×Int×Int×Int)⊕(Int×Int×Int×Int×Int)->Int×Int
 |.inl _=>(0,0)
 |.inr q=>(q.1,q.2.1)
theorem Qjx {L:List Evt} (hL:L.length<=10000):∀(f i:Nat) (y m d:Int),i+f=L.length->∃x,Runs (λrec x=>z80.l0P (L.map Evt.r) (L.length:Int) rec some x) ((i:Int),y,m,d) x/\outC x=mChk (i:Int) y m d (L.drop i)
 |
  0,i,y,m,d,h=>by
  refine ⟨.inl ((i:Int),y,m,d),.done λrec=>?_,?_⟩
  ·unfold z80.l0P
   simp only
   rw [Qb (by omega)]
  ·rw [Z85 (by omega)];rfl
 |
  f+1,i,y,m,d,h=>by
  have hi:i<L.length:=by omega
  have l2:(L.map Evt.r).length=L.length:=by simp
  have hst:∀rec:(Int×Int×Int×Int)->Option ((Int×Int×Int×Int)⊕(Int×Int×Int×Int×Int)),z80.l0P (L.map Evt.r) (L.length:Int) rec some ((i:Int),y,m,d)=if eErr y m d L[i]≠0 then some (.inr ((i:Int),eErr y m d L[i],y,m,d)) else rec (((i+1:Nat):Int),L[i].y,L[i].m,L[i].d):=λrec=>by
   unfold z80.l0P
   simp only
   rw [bif_t (by omega),if_pos (by omega),Zi,Qha hi]
   simp only [eK,eY,eM,eD,eV]
   rw [Qw8,Zb,Qe (by omega) (by omega)]
   by_cases he:eErr y m d L[i]=0
   ·rw [Zt he,if_neg (λhh=>hh he)];rfl
   ·rw [Zf he,if_pos he];rfl
  rw [Z38 hi,mChk]
  by_cases he:eErr y m d L[i]=0
  ·obtain ⟨x,hx,ho⟩:=Qjx hL f (i+1) L[i].y L[i].m L[i].d (by omega)
   exact ⟨x,.step (λrec=>by rw [hst,if_neg (λhh=>hh he)]) hx,by rw [if_neg (λhh=>hh he),ho];rfl⟩
  ·exact ⟨_,.done λrec=>by rw [hst,if_pos he],by rw [if_pos he];rfl⟩
theorem Qtu {L:List Evt} (hL:L.length<=10000):z80.F (L.map Evt.r)=some (mChk 0 0 0 0 L):=by
 have l2:(L.map Evt.r).length=L.length:=by simp
 obtain ⟨x,hx,ho⟩:=Qjx hL L.length 0 0 0 0 (by omega)
 have e:z80.l0 (L.map Evt.r) (L.length:Int) (0,0,0,0)=some x:=hx.lfp
 rw [Z36] at ho
 have ho:outC x=mChk 0 0 0 0 L:=ho
 unfold z80.F
 rw [l2,Qb (by omega),e,<-ho]
 cases x<;>rfl
theorem Ql4:∀(L:List Evt) (i y m d:Int),(∀e∈L,e.v.length<=4096)->(mChk i y m d L).2=0->Seq y m d L/\(mChk i y m d L).1=0
 |[],_,_,_,_,_,_=>⟨trivial,rfl⟩
 |
  e::t,i,y,m,d,hl,h=>by
  rw [mChk] at h ⊢
  by_cases he:eErr y m d e=0
  ·rw [if_neg (λhh=>hh he)] at h ⊢
   obtain ⟨h1,h2⟩:=Ql4 t (i+1) e.y e.m e.d (λx hx=>hl x (by simp [hx])) h
   refine ⟨⟨?_,?_,h1⟩,h2⟩
   ·intro hd
    unfold eErr at he
    split at he
    ·simp at he
    ·split at he
     ·simp at he
     ·first|(simp at he;done)|(rw [if_pos hd] at he;simp at he)
   ·unfold eErr at he
    split at he
    ·simp at he
    ·rename_i hk
     split at he
     ·simp at he
     ·rename_i hr
      split at he
      ·simp at he
      ·exact ⟨by omega,Classical.byContradiction hr,he,hl e (by simp)⟩
  ·rw [if_pos he] at h;exact (he h).elim
theorem Qv4 {y m d:Int} (h:right y m d):¬dcmp y m d 0 0 0<0:=by
 obtain ⟨hy,_⟩:=Wm h
 unfold dcmp
 rw [if_neg (by omega),if_pos (by omega)];omega
def Yz (t:Tm) (z:Int) (r:J1) (n:Nat):Int:=if t.kind=0 then payN t.mode z r t.every n else if t.kind=1 then Qgd t.mode z n else 0
theorem Qhf {t:Tm} (h:mCheck t=0) {z:Int} (hz:0<=z) (hs:sz z.natAbs<=100) {r:J1} {n:Nat} (hn:1<=n/\n<=30):0<=Yz t z r n/\sz (Yz t z r n).natAbs<=10000:=by
 obtain ⟨hk,_,_,_⟩:=Yo h
 obtain ⟨k1,k2,k3,k4⟩:=Qdc hk
 have he:=Qd2 k4
 have hq:Sq 102 ((z:Int):Rat):=Sq.int (by omega) (by decide)
 unfold Yz
 by_cases c0:t.kind=0
 ·rw [if_pos c0]
  have hb:=Qhl r he (n:=n) (by omega)
  refine ⟨Qfj _ (Qlz (Qmp hz) (Qby r he.1) (by omega)),?_⟩
  have:=Qcf t.mode (Qiy (n:=n) hq (Qby r he.1) (Qfc r he) (by omega) (by decide) hb)
  show sz (rnd t.mode (lvl (z:Rat) (perR r t.every) n)).natAbs<=10000
  omega
 ·rw [if_neg c0]
  by_cases c1:t.kind=1
  ·rw [if_pos c1]
   have sn:sz n<=4:=sz_le (by omega)
   refine ⟨Qfj _ (Qhj hz (by omega)),?_⟩
   have:=Qcf t.mode (Sq.div (k:=200) (n:=z) (d:=(n:Int)) (by omega) (by omega) (by rw [Z41];omega))
   show sz (rnd t.mode (Rat.divInt z n)).natAbs<=10000
   omega
  ·rw [if_neg c1]
   exact ⟨Z109 _,by show sz 0<=_;rw [Qak];omega⟩
theorem Qee {t:Tm} (h:mCheck t=0) {z:Int} (hz:0<=z) (hs:sz z.natAbs<=100) {r:J1} (hr:(mRate r).2=0) {n:Nat} (hn:1<=n/\n<=30) :
  z97.F t.p t.r t.kind t.basis t.mode t.y t.m t.d t.every t.count (lb z.natAbs) (neg z) r (n:Int)=some (lb (Yz t z r n).natAbs,neg (Yz t z r n),0):=by
 obtain ⟨hk,_,_,_⟩:=Yo h
 obtain ⟨k1,k2,k3,k4⟩:=Qdc hk
 have he:=Qd2 k4
 unfold z97.F Yz
 by_cases c0:t.kind=0
 ·rw [if_pos c0,bif_t c0,level_Payment hz (by omega) hr he hn k3,Zb]
 ·rw [if_neg c0,Qb c0]
  by_cases c1:t.kind=1
  ·rw [if_pos c1,bif_t c1,level_Part hz (by omega) (by omega) k3,Zb]
  ·rw [if_neg c1,Qb c1,bif_t (by omega),show Int.natAbs 0=0 from rfl,lb_zero];rfl
def chg (x:Lg) (d:D3) (o r:J1):List Lg:=if x.f=d then [⟨x.f,x.t,o,r⟩] else [⟨x.f,d,x.op,x.rt⟩,⟨d,x.t,o,r⟩]
def Ys:List Lg->D3->J1->J1->List Lg
 |[],_,_,_=>[]
 |[x],d,o,r=>chg x d o r
 |x::y::l,d,o,r=>x::Ys (y::l) d o r
theorem Qfg:∀(i:List Lg) (x:Lg) (d:D3) (o r:J1),Ys (i++[x]) d o r=i++chg x d o r
 |[],_,_,_,_=>rfl
 |[a],x,d,o,r=>rfl
 |
  a::b::i,x,d,o,r=>by
  show a::Ys ((b::i)++[x]) d o r=_
  rw [Qfg (b::i) x d o r];rfl
theorem Qv9 (x:Lg) (d:D3) (o r:J1):1<=(chg x d o r).length/\(chg x d o r).length<=2:=by unfold chg;split<;>simp
theorem Qud {α:Type} (a b:D3) (x y:α):(bif (decide (a.1=b.1)&&(decide (a.2.1=b.2.1)&&decide (a.2.2=b.2.2))) then x else y)=if a=b then x else y:=by
 have:=Qmw a b x y
 by_cases h:a=b
 ·subst h;simp
 ·rw [if_neg h] at this ⊢
  cases hb:(decide (a.1=b.1)&&(decide (a.2.1=b.2.1)&&decide (a.2.2=b.2.2)))
  ·rfl
  ·simp only [Z7,decide_eq_true_eq] at hb
   exact absurd (Prod.ext hb.1 (Prod.ext hb.2.1 hb.2.2)) h
theorem Ql3 {α:Type} (l:List α) (a b:α):(l++[a]).set l.length b=l++[b]:=by
 rw [List.set_append_right _ _ (Z4 _),Nat.sub_self];rfl
theorem Qpj (l:J2) (a:List V):(l++[a]).getD l.length []=a:=by
 rw [Zl,Z61 (Z4 _),Nat.sub_self];rfl
theorem Qx8 (i:List Lg) (x:Lg) (hl:i.length<=20000) (d:D3) (o r:J1):z98.F ((i++[x]).map lgv) d.1 d.2.1 d.2.2 o r=some ((i++chg x d o r).map lgv):=by
 have hlen:((i++[x]).map lgv).length=i.length+1:=by simp
 have hw:wr .i64 (((((i++[x]).map lgv).length:Nat):Int)-1)=(i.length:Int):=by rw [hlen,Qe (by omega) (by omega)];omega
 have hm:(i++[x]).map lgv=i.map lgv++[lgv x]:=by rw [Z68];rfl
 have hil:(i.map lgv).length=i.length:=by simp
 have hg:((i++[x]).map lgv).getD i.length []=lgv x:=by rw [hm,<-hil,Qpj]
 have hset:∀v,((i++[x]).map lgv).set i.length v=i.map lgv++[v]:=λv=>by rw [hm,<-hil,Ql3]
 have hset2:∀u v,(i.map lgv++[u]).set i.length v=i.map lgv++[v]:=λu v=>by rw [<-hil,Ql3]
 have hg2:∀v,(i.map lgv++[v]).getD i.length []=v:=λv=>by rw [<-hil,Qpj]
 unfold z98.F
 rw [hw,if_pos (by rw [hlen];omega),if_pos (by rw [hlen];omega),Zi,if_pos (by rw [hlen];omega),hg,asL0,asL1,asL2]
 rw [Qud x.f d]
 unfold chg
 by_cases he:x.f=d
 ·rw [if_pos he,if_pos he,if_pos (by rw [hlen];omega),hset,hset2,hg2,if_pos (by rw [Z9,hil];simp),Z68]
  rfl
 ·rw [if_neg he,if_neg he,if_pos (by rw [hlen];omega),asL3,asL4,asL5,if_pos (by rw [hlen];omega),hset,if_pos (by simp only [Z9,hil,Z10,Z54];omega),Z68,Z90]
  rfl
theorem Qkz {α:Type} {l:List α} (h:l≠[]):∃i x,l=i++[x]:=⟨l.dropLast,l.getLast h,(List.dropLast_concat_getLast h).symm⟩
theorem Qu7 {l:List Lg} (hne:l≠[]) (hl:l.length<=20000) (d:D3) (o r:J1):z98.F (l.map lgv) d.1 d.2.1 d.2.2 o r=some ((Ys l d o r).map lgv):=by
 obtain ⟨i,x,rfl⟩:=Qkz hne
 rw [Qx8 i x (by simp at hl;omega),Qfg]
def Jj (b f:D3) (l:List Lg):Prop:=∃i x,l=i++[x]/\mLegs none (i++[x])=0/\x.t=b/\x.f=f
theorem Qmu:∀(i:List Lg) (a:Option D3) (u v:Lg),mLegs a (i++[u])=0->u.t=v.f->mLeg (some v.f) v=0->mLegs a (i++[u,v])=0
 |
  [],a,u,v,h,h2,h3=>by
  simp only [Z103,mLegs] at h ⊢
  by_cases hu:mLeg a u=0
  ·rw [if_neg (λhh=>hh hu),h2,if_neg (λhh=>hh h3)]
  ·rw [if_pos hu] at h;exact absurd h hu
 |
  x::i,a,u,v,h,h2,h3=>by
  simp only [List.cons_append,mLegs] at h ⊢
  by_cases hu:mLeg a x=0
  ·rw [if_neg (λhh=>hh hu)] at h ⊢;exact Qmu i _ u v h h2 h3
  ·rw [if_pos hu] at h;exact absurd h hu
theorem Qhm:∀(i:List Lg) (a:Option D3) (u v:Lg),mLegs a (i++[u])=0->(∀b,mLeg b u=0->mLeg b v=0)->mLegs a (i++[v])=0
 |
  [],a,u,v,h,h2=>by
  simp only [Z103,mLegs] at h ⊢
  by_cases hu:mLeg a u=0
  ·rw [if_neg (λhh=>hh (h2 a hu))]
  ·rw [if_pos hu] at h;exact absurd h hu
 |
  x::i,a,u,v,h,h2=>by
  simp only [List.cons_append,mLegs] at h ⊢
  by_cases hu:mLeg a x=0
  ·rw [if_neg (λhh=>hh hu)] at h ⊢;exact Qhm i _ u v h h2
  ·rw [if_pos hu] at h;exact absurd h hu
theorem Qov:∀(i:List Lg) (a:Option D3) (u:Lg),mLegs a (i++[u])=0->∃b,mLeg b u=0
 |
  [],a,u,h=>by
  simp only [Z103,mLegs] at h
  by_cases hu:mLeg a u=0
  ·exact ⟨a,hu⟩
  ·rw [if_pos hu] at h;exact absurd h hu
 |
  x::i,a,u,h=>by
  simp only [List.cons_append,mLegs] at h
  by_cases hu:mLeg a x=0
  ·rw [if_neg (λhh=>hh hu)] at h;exact Qov i _ u h
  ·rw [if_pos hu] at h;exact absurd h hu
theorem Qfx {a:Option D3} {x:Lg} (h1:rightD x.f) (h2:rightD x.t) (h3:numD x.f<=numD x.t) (h4:∀d,a=some d->x.f=d) (h5:(mMoney x.op).2=0) (h6:(mRate x.rt).2=0):mLeg a x=0:=by
 unfold mLeg
 have hc:¬cmpD x.f x.t>0:=by
  rw [Yk h1 h2];unfold cmpI;split<;>(try split)<;>omega
 have ha:(a.all λd=>decide (x.f=d))=true:=by
  cases a with
  |none=>rfl
  |some d=>simp [h4 d rfl]
 rw [if_neg (λhh=>hh ⟨h1,h2⟩),if_neg (λhh=>hh.elim hc (λe=>by rw [ha] at e;simp at e)),if_neg (λhh=>hh h5),h6]
theorem Jj.change {b f:D3} {l:List Lg} (h:Jj b f l) {d:D3} (hd:rightD d) (h1:numD f<=numD d) (h2:numD d<=numD b) {o r:J1} (ho:(mMoney o).2=0) (hr:(mRate r).2=0) :
  Jj b d (Ys l d o r)/\(Ys l d o r).length<=l.length+1:=by
 obtain ⟨i,x,rfl,hok,hlast,hfrom⟩:=h
 obtain ⟨p,hx⟩:=Qov i none x hok
 obtain ⟨x1,x2,x3,x4,x5,x6⟩:=Qda hx
 rw [Qfg]
 unfold chg
 by_cases he:x.f=d
 ·rw [if_pos he]
  refine ⟨⟨i,⟨x.f,x.t,o,r⟩,rfl,Qhm i none x ⟨x.f,x.t,o,r⟩ hok (λb0 h0=>?_),hlast,he⟩,by simp⟩
  obtain ⟨y1,y2,y3,y4,y5,y6⟩:=Qda h0
  exact Qfx y1 y2 y3 y4 ho hr
 ·rw [if_neg he]
  have e2:i++[⟨x.f,d,x.op,x.rt⟩,⟨d,x.t,o,r⟩]=(i++[(⟨x.f,d,x.op,x.rt⟩:Lg)])++[⟨d,x.t,o,r⟩]:=by simp
  refine ⟨⟨i++[⟨x.f,d,x.op,x.rt⟩],⟨d,x.t,o,r⟩,e2,?_,hlast,rfl⟩,by simp⟩
  rw [<-e2]
  refine Qmu i none ⟨x.f,d,x.op,x.rt⟩ ⟨d,x.t,o,r⟩ (Qhm i none x _ hok (λb0 h0=>?_)) rfl (Qfx hd x2 (by rw [hlast];exact h2) (λd' e'=>by simpa using e') ho hr)
  obtain ⟨y1,y2,y3,y4,y5,y6⟩:=Qda h0
  exact Qfx y1 hd (by rw [hfrom];exact h1) y4 y5 y6
theorem Jj.ok {b f:D3} {l:List Lg} (h:Jj b f l):mLegs none l=0:=by
 obtain ⟨i,x,rfl,h,_⟩:=h;exact h
structure Ls where
 z:Int
 r:List UInt8
 one:Int
structure LsOK (s:Ls):Prop where
 z:0<=s.z/\s.z<=10^30
 r:(mRate s.r).2=0
 one:0<=s.one/\sz s.one.natAbs<=10000
def mHap (t:Tm) (e:Evt) (s:Ls) (l:List Lg) (left:Nat):Option (Ls×List Lg):=
 if e.k=2 then some (⟨s.z,e.v,Yz t s.z e.v left⟩,Ys l (e.y,e.m,e.d) (itxt s.z) e.v)
 else if (mMoney e.v).1>s.z then none
 else some (⟨s.z-(mMoney e.v).1,s.r,Yz t (s.z-(mMoney e.v).1) s.r left⟩,Ys l (e.y,e.m,e.d) (itxt (s.z-(mMoney e.v).1)) s.r)
theorem Jo {z:Int} (h:0<=z/\z<=10^30):sz z.natAbs<=31:=Qga h.1 h.2
theorem Qkt {t:Tm} (h:mCheck t=0) {e:Evt} (he:Qdt e) (hk:e.k=1\/e.k=2) {s:Ls} (hs:LsOK s) {l:List Lg} {left:Nat} (hn:1<=left/\left<=30) {s':Ls} {l':List Lg} (hh:mHap t e s l left=some (s',l')):LsOK s':=by
 unfold mHap at hh
 have hv:=he.v
 unfold mVal at hv
 rcases hk with hk|hk
 ·rw [if_neg (by omega)] at hh
  split at hh
  ·simp at hh
  ·rename_i hm
   simp only [Zs,Z2] at hh
   obtain ⟨rfl,_⟩:=hh
   have hz:=Qaq e.v
   have h0:0<=s.z-(mMoney e.v).1/\s.z-(mMoney e.v).1<=10^30:=by have:=hs.z;omega
   have hz':=Jo h0
   have hp:=Qhf h h0.1 (by omega) (r:=s.r) hn
   exact ⟨h0,hs.r,hp⟩
 ·rw [if_pos hk] at hh
  simp only [Zs,Z2] at hh
  obtain ⟨rfl,_⟩:=hh
  have hz':=Jo hs.z
  rw [if_neg (by omega),if_pos hk] at hv
  exact ⟨hs.z,hv,Qhf h hs.z.1 (by omega) hn⟩
theorem Qrr (v:J1):(lb (mMoney v).1.natAbs).length<=40:=by
 have:=Qk (mMoney v).1.natAbs
 have h:=Jo (Qaq v)
 omega
theorem Qxx {t:Tm} (h:mCheck t=0) {e:Evt} (he:Qdt e) (hk:e.k=1\/e.k=2) {s:Ls} (hs:LsOK s) {l:List Lg} (hne:l≠[]) (hl:l.length<=20000) {left:Nat} (hn:1<=left/\left<=30) (rows:J2) :
  z99.F t.p t.r t.kind t.basis t.mode t.y t.m t.d t.every t.count (lb s.z.natAbs) (neg s.z) s.r (lb s.one.natAbs) (neg s.one) rows e.k e.y e.m e.d e.v (l.map lgv) (left:Int) =
  some (match mHap t e s l left with
   |none=>([],16,t.p,t.r,t.kind,t.basis,t.mode,t.y,t.m,t.d,t.every,t.count,lb s.z.natAbs,neg s.z,s.r,lb s.one.natAbs,neg s.one,rows)
   |some (s',l')=>(l'.map lgv,0,t.p,t.r,t.kind,t.basis,t.mode,t.y,t.m,t.d,t.every,t.count,lb s'.z.natAbs,neg s'.z,s'.r,lb s'.one.natAbs,neg s'.one,rows)):=by
 have hv:=he.v
 unfold mVal at hv
 have hz':=Jo hs.z
 have hl1:=Qk s.z.natAbs
 have hch:=λo r=>Qu7 hne hl (e.y,e.m,e.d) o r
 unfold z99.F mHap
 rcases hk with hk|hk
 ·have hm:=Qrr e.v
  have hz:=Qaq e.v
  rw [Qb (by omega),if_neg (by omega),terms_Money,Zb]
  simp only
  rw [Qbt (by omega),Zb]
  by_cases hc:(mMoney e.v).1>s.z
  ·rw [bif_t (by unfold cmpI;rw [if_neg (by omega),if_neg (by omega)];decide),if_pos hc]
  ·have h0:0<=s.z-(mMoney e.v).1/\s.z-(mMoney e.v).1<=10^30:=by have:=hs.z;omega
   have hz2:=Jo h0
   rw [Qb (by unfold cmpI;split<;>(try split)<;>omega),if_neg hc,Qb6 (by omega),Zb]
   simp only
   rw [Qee h h0.1 (by omega) hs.r hn,Zb]
   simp only
   rw [W3 (by omega),Zb]
   have:=hch (itxt (s.z-(mMoney e.v).1)) s.r
   simp only at this
   rw [this,Zb]
 ·rw [if_neg (by omega),if_pos hk] at hv
  rw [bif_t hk,if_pos hk,Qee h hs.z.1 (by omega) hv hn,Zb]
  simp only
  rw [W3 (by omega),Zb]
  have:=hch (itxt s.z) e.v
  simp only at this
  rw [this,Zb]
abbrev Evt.day (e:Evt):D3:=(e.y,e.m,e.d)
abbrev bT (t:Tm) (s:Ls):J1×J1×Int×Int×Int×Int×Int×Int×Int×Int×J0×Bool×J1×J0×Bool:=
 (t.p,t.r,t.kind,t.basis,t.mode,t.y,t.m,t.d,t.every,t.count,lb s.z.natAbs,neg s.z,s.r,lb s.one.natAbs,neg s.one)
def mEvs (t:Tm) (tu:D3) (left:Nat):List Evt->Ls->List Lg->Nat×Option (Ls×List Lg)
 |[],s,l=>(0,some (s,l))
 |
  e::es,s,l=>if cmpD e.day tu>=0 then (0,some (s,l)) else
  match mHap t e s l left with
  |none=>(0,none)
  |some x=>((mEvs t tu left es x.1 x.2).1+1,(mEvs t tu left es x.1 x.2).2)
def inK (e:Evt):Prop:=Qdt e/\(e.k=1\/e.k=2)
def Asc:D3->List Evt->Prop
 |_,[]=>True
 |f,e::es=>numD f<=numD e.day/\Asc e.day es
theorem Que {t:Tm} (h:mCheck t=0) {e:Evt} (he:inK e) {s:Ls} (hs:LsOK s) {l:List Lg} {left:Nat} {b f:D3} (hl:Jj b f l) (h1:numD f<=numD e.day) (h2:numD e.day<=numD b) {x:Ls×List Lg} (hh:mHap t e s l left=some x) :
  Jj b e.day x.2/\x.2.length<=l.length+1:=by
 have hv:=he.1.v
 have money:∀z:Int,0<=z->z<=10^30->(mMoney (itxt z)).2=0:=λz h0 h30=>by
  have:itxt z=txt z.natAbs:=by unfold itxt;rw [if_neg (by omega)]
  have e:(10:Int)^30=1000000000000000000000000000000:=by decide
  have e2:(10:Nat)^30=1000000000000000000000000000000:=by decide
  rw [this,Qf8 (by omega)]
 unfold mHap at hh
 rcases he.2 with hk|hk
 ·rw [if_neg (by omega)] at hh
  split at hh
  ·simp at hh
  ·simp only [Zs] at hh
   subst hh
   have hz:=Qaq e.v
   have hz2:=hs.z
   exact hl.change he.1.d h1 h2 (money _ (by omega) (by omega)) hs.r
 ·rw [if_pos hk] at hh
  simp only [Zs] at hh
  subst hh
  unfold mVal at hv
  rw [if_neg (by omega),if_pos hk] at hv
  exact hl.change he.1.d h1 h2 (money _ hs.z.1 hs.z.2) hv
theorem Qna (t:Tm) (tu:D3) (left:Nat):∀(es:List Evt) (s:Ls) (l:List Lg),(mEvs t tu left es s l).1<=es.length
 |[],_,_=>Z4 _
 |
  e::es,s,l=>by
  unfold mEvs
  split
  ·simp
  ·split
   ·simp
   ·rename_i x _
    have:=Qna t tu left es x.1 x.2
    simp only [Z10];omega
theorem Qps {t:Tm} (h:mCheck t=0) {b:D3} (hb:rightD b) {left:Nat} (hn:1<=left/\left<=30):∀(es:List Evt) (s:Ls) (l:List Lg) (f:D3),(∀e∈es,inK e)->LsOK s->Jj b f l->Asc f es->∀x,(mEvs t b left es s l).2=some x ->
  LsOK x.1/\(∃f',Jj b f' x.2)/\x.2.length<=l.length+es.length/\Asc b (es.drop (mEvs t b left es s l).1)
 |
  [],s,l,f,hin,hs,hl,ha,x,hx=>by
  simp only [mEvs,Zs] at hx
  subst hx
  exact ⟨hs,⟨f,hl⟩,by simp,trivial⟩
 |
  e::es,s,l,f,hin,hs,hl,ha,x,hx=>by
  have he:=hin e (by simp)
  unfold mEvs at hx ⊢
  by_cases hc:cmpD e.day b>=0
  ·rw [if_pos hc] at hx ⊢
   simp only [Zs] at hx
   subst hx
   refine ⟨hs,⟨f,hl⟩,by simp,?_⟩
   rw [Yk he.1.d hb,Qcx] at hc
   exact ⟨hc,ha.2⟩
  ·rw [if_neg hc] at hx ⊢
   rw [Yk he.1.d hb,Qcx] at hc
   cases hh:mHap t e s l left with
   |none=>rw [hh] at hx;simp at hx
   |
    some y=>
    rw [hh] at hx
    simp only at hx ⊢
    have h1:=Qkt h he.1 he.2 hs hn (s':=y.1) (l':=y.2) hh
    obtain ⟨h2,h3⟩:=Que h he hs hl ha.1 (by omega) hh
    obtain ⟨g1,g2,g3,g4⟩:=Qps h hb hn es y.1 y.2 e.day (λe' h'=>hin e' (by simp [h'])) h1 h2 ha.2 x hx
    exact ⟨g1,g2,by simp only [Z10];omega,by simpa using g4⟩
theorem Qlj {t:Tm} (h:mCheck t=0) {L:List Evt} (hL:L.length<=20) (hin:∀e∈L,inK e) {tu:D3} {left:Nat} (hn:1<=left/\left<=30) (rows:J2):∀(f i:Nat) (s:Ls) (l:List Lg),i+f=L.length->LsOK s->l≠[]->l.length<=i+1 ->
  ∃
   o,Runs (λrec x=>z132.l0aP (left:Int) (L.map Evt.r) (L.length:Int) tu.1 tu.2.1 tu.2.2 rec some x) (l.map lgv,(i:Int),(i:Int),rows,bT t s) o /\
   match (mEvs t tu left (L.drop i) s l).2 with
   |some x=>o=.inl (x.2.map lgv,((i+(mEvs t tu left (L.drop i) s l).1:Nat):Int),((i+(mEvs t tu left (L.drop i) s l).1:Nat):Int),rows,bT t x.1)
   |none=>∃s',o=.inr (((i+(mEvs t tu left (L.drop i) s l).1:Nat):Int),16,rows,bT t s')
 |
  0,i,s,l,hf,hs,hne,hl=>by
  have e1:L.drop i=[]:=Z85 (by omega)
  rw [e1]
  refine ⟨_,.done λrec=>?_,rfl⟩
  unfold z132.l0aP
  simp only
  rw [Qb (by omega)];rfl
 |
  f+1,i,s,l,hf,hs,hne,hl=>by
  have hi:i<L.length:=by omega
  have l2:(L.map Evt.r).length=L.length:=by simp
  have he:=hin L[i] (Z16 hi)
  have w:wr .i64 ((i:Int)+1)=((i+1:Nat):Int):=by rw [Qe (by omega) (by omega)];rfl
  rw [Z38 hi]
  have hst:∀rec,z132.l0aP (left:Int) (L.map Evt.r) (L.length:Int) tu.1 tu.2.1 tu.2.2 rec some (l.map lgv,(i:Int),(i:Int),rows,bT t s) =
    if cmpD L[i].day tu>=0 then some (.inl (l.map lgv,(i:Int),(i:Int),rows,bT t s)) else
    match mHap t L[i] s l left with
    |none=>some (.inr ((i:Int),16,rows,bT t s))
    |some x=>rec (x.2.map lgv,((i+1:Nat):Int),((i+1:Nat):Int),rows,bT t x.1):=λrec=>by
   unfold z132.l0aP
   simp only
   rw [bif_t (by omega),if_pos (by omega),Zi,Qha hi]
   simp only [eK,eY,eM,eD,eV]
   rw [date_Cmp,Zb]
   by_cases hc:cmpD L[i].day tu>=0
   ·rw [if_pos hc,bif_t hc]
   ·rw [if_neg hc,Qb hc,Qxx h he.1 he.2 hs hne (by omega) hn,Zb]
    cases hh:mHap t L[i] s l left with
    |none=>rfl
    |
     some x=>
     simp only [decide_true,Zn,Zc]
     rw [w]
  unfold mEvs
  by_cases hc:cmpD L[i].day tu>=0
  ·rw [if_pos hc]
   exact ⟨_,.done λrec=>by rw [hst,if_pos hc];rfl,rfl⟩
  ·rw [if_neg hc]
   cases hh:mHap t L[i] s l left with
   |none=>exact ⟨_,.done λrec=>by rw [hst,if_neg hc,hh];rfl,s,rfl⟩
   |
    some x=>
    have h1:=Qkt h he.1 he.2 hs hn (s':=x.1) (l':=x.2) hh
    have hx2:x.2≠[]/\x.2.length<=l.length+1:=by
     obtain ⟨q,y,rfl⟩:=Qkz hne
     unfold mHap at hh
     have key:∀d o r,Ys (q++[y]) d o r≠[]/\(Ys (q++[y]) d o r).length<=(q++[y]).length+1:=λd o r=>by
      rw [Qfg]
      have hcl:=Qv9 y d o r
      refine ⟨λe0=>?_,by simp;omega⟩
      have hq:=(List.append_eq_nil_iff.1 e0).2
      rw [hq] at hcl;simp at hcl
     split at hh
     ·simp only [Zs] at hh;subst hh;exact key _ _ _
     ·split at hh
      ·simp at hh
      ·simp only [Zs] at hh;subst hh;exact key _ _ _
    obtain ⟨o,ho,hm⟩:=Qlj h hL hin (tu:=tu) hn rows f (i+1) x.1 x.2 (by omega) h1 hx2.1 (by omega)
    refine ⟨o,.step (λrec=>by rw [hst,if_neg hc,hh]) ho,?_⟩
    simp only
    have ea:i+((mEvs t tu left (L.drop (i+1)) x.1 x.2).1+1)=i+1+(mEvs t tu left (L.drop (i+1)) x.1 x.2).1:=by omega
    rw [ea]
    exact hm
def Wd (kind one z n:Int) (last:Bool):Int:=
 let o:=if kind=0 then one-n else one
 if last=true\/o>z then z else if o<0 then 0 else o
theorem Qkc {kind one z n:Int} (last:Bool) (hz:0<=z):0<=Wd kind one z n last/\Wd kind one z n last<=z:=by
 unfold Wd
 simp only
 generalize (if kind=0 then one-n else one)=o
 by_cases h:last=true\/o>z
 ·rw [if_pos h];omega
 ·rw [if_neg h]
  have:¬o>z:=λhh=>h (.inr hh)
  split<;>omega
theorem Qry (t:Tm) {s:Ls} (hz:0<=s.z) (hs:sz s.z.natAbs<=100) (ho:sz s.one.natAbs<=10000) {n:Int} (hn:sz n.natAbs<=10000000) (last:Bool) (rows:J2) :
  z100.F t.p t.r t.kind t.basis t.mode t.y t.m t.d t.every t.count (lb s.z.natAbs) (neg s.z) s.r (lb s.one.natAbs) (neg s.one) rows (lb n.natAbs) (neg n) last =
  some (lb (Wd t.kind s.one s.z n last).natAbs,neg (Wd t.kind s.one s.z n last),t.p,t.r,t.kind,t.basis,t.mode,t.y,t.m,t.d,t.every,t.count,lb s.z.natAbs,neg s.z,s.r,lb s.one.natAbs,neg s.one,rows):=by
 have l1:=Qk s.z.natAbs
 have l2:=Qk s.one.natAbs
 have l3:=Qk n.natAbs
 have hd:sz (s.one-n).natAbs<=10000001:=by
  have h:=Q8 (show (s.one-n).natAbs<=s.one.natAbs+n.natAbs by omega)
  have:=Qae s.one.natAbs n.natAbs
  omega
 have l4:=Qk (s.one-n).natAbs
 have zero:([]:J0)=lb (Int.natAbs 0):=by rw [show Int.natAbs 0=0 from rfl,lb_zero]
 have gt:∀a b:Int,decide (cmpI a b>0)=decide (a>b):=λa b=>by
  unfold cmpI
  split
  ·rw [Zf (by omega),Zf (by omega)]
  ·split
   ·rw [Zf (by omega),Zf (by omega)]
   ·rw [Zt (by omega),Zt (by omega)]
 unfold z100.F Wd
 by_cases hk:t.kind=0
 ·rw [bif_t hk,if_pos hk,Qb6 (by omega),Zb]
  simp only
  cases last with
  |true=>rfl
  |
   false=>
   simp only [Zc,Z24,false_or]
   rw [Qbt (by omega),Zb,gt]
   unfold z100.j8
   simp only
   by_cases hc:s.one-n>s.z
   ·rw [Zt hc,if_pos hc];rfl
   ·rw [Zf hc,if_neg hc]
    simp only [Zc]
    rw [Yc,Zb]
    by_cases h0:s.one-n<0
    ·rw [bif_t (We.2 h0),if_pos h0,zero];rfl
    ·rw [Qb (λe=>h0 (We.1 e)),if_neg h0]
 ·rw [Qb hk,if_neg hk]
  cases last with
  |true=>rfl
  |
   false=>
   simp only [Zc,Z24,false_or]
   rw [Qbt (by omega),Zb,gt]
   unfold z100.j11
   by_cases hc:s.one>s.z
   ·rw [Zt hc,if_pos hc];rfl
   ·rw [Zf hc,if_neg hc]
    simp only [Zc]
    rw [Yc,Zb]
    by_cases h0:s.one<0
    ·rw [bif_t (We.2 h0),if_pos h0,zero];rfl
    ·rw [Qb (λe=>h0 (We.1 e)),if_neg h0]
def Q2 (t:Tm) (tu:D3) (l:List Lg):Int:=rnd t.mode (exL t.basis tu 0 l)
def dueR (t:Tm) (tu:D3) (l:List Lg) (last:Bool) (s:Ls):Rw:=
 ⟨tu,s.z,Q2 t tu l,Wd t.kind s.one s.z (Q2 t tu l) last,Q2 t tu l+Wd t.kind s.one s.z (Q2 t tu l) last,s.z-Wd t.kind s.one s.z (Q2 t tu l) last⟩
theorem Qr0 (t:Tm) {tu:D3} (hr:rightD tu) {l:List Lg} (hg:mLegs none l=0) (hl:l.length<=40):sz (Q2 t tu l).natAbs<=20000:=by
 have h1:=Qi1 (b:=t.basis) hr l 0 1 (Qi4 hg) (Sq.zero (by decide))
 have h2:=Qcf t.mode h1
 show sz (rnd t.mode (exL t.basis tu 0 l)).natAbs<=20000
 omega
theorem Qqa {t:Tm} (h:mCheck t=0) {s:Ls} (hs:LsOK s) {tu:D3} (hr:rightD tu) {l:List Lg} (hg:mLegs none l=0) (hl:l.length<=40) (last:Bool) (rows:J2) (hrows:rows.length<=10000) (a b c:Int) :
  z120.F t.p t.r t.kind t.basis t.mode t.y t.m t.d t.every t.count (lb s.z.natAbs) (neg s.z) s.r (lb s.one.natAbs) (neg s.one) rows a b c tu.1 tu.2.1 tu.2.2 (l.map lgv) last =
  some (t.p,t.r,t.kind,t.basis,t.mode,t.y,t.m,t.d,t.every,t.count,lb (dueR t tu l last s).c.natAbs,neg (dueR t tu l last s).c,s.r,lb s.one.natAbs,neg s.one,rows++[rwv (dueR t tu l last s)]):=by
 obtain ⟨hk,_,_,_⟩:=Yo h
 obtain ⟨k1,k2,k3,k4⟩:=Qdc hk
 have hz:=Jo hs.z
 have hn:=Qr0 t hr hg hl
 have hp:=Qkc (kind:=t.kind) (one:=s.one) (n:=Q2 t tu l) last hs.z.1
 have hps:=Q8 (show (Wd t.kind s.one s.z (Q2 t tu l) last).natAbs<=s.z.natAbs by omega)
 have hc:=Q8 (show (s.z-Wd t.kind s.one s.z (Q2 t tu l) last).natAbs<=s.z.natAbs by omega)
 have hpay:sz (Q2 t tu l+Wd t.kind s.one s.z (Q2 t tu l) last).natAbs<=20001:=by
  have h1:=Q8 (show (Q2 t tu l+Wd t.kind s.one s.z (Q2 t tu l) last).natAbs<=(Q2 t tu l).natAbs+(Wd t.kind s.one s.z (Q2 t tu l) last).natAbs by omega)
  have:=Qae (Q2 t tu l).natAbs (Wd t.kind s.one s.z (Q2 t tu l) last).natAbs
  omega
 have q1:=Qk s.z.natAbs
 have q2:=Qk (Q2 t tu l).natAbs
 have q3:=Qk (Wd t.kind s.one s.z (Q2 t tu l) last).natAbs
 unfold z120.F
 rw [accrue_Posted (by omega),Zb,if_pos (Qqk k2 hr hg),if_pos k3]
 simp only
 rw [show rnd t.mode (exL t.basis tu 0 l)=Q2 t tu l from rfl,Qry t hs.z.1 (by omega) hs.one.2 (by omega) last rows,Zb]
 simp only
 rw [Qb6 (by omega),Zb]
 simp only
 rw [W3 (by omega),Zb,W3 (by omega),Zb,W3 (by omega),Zb,Qe5 (by omega),Zb]
 simp only
 rw [W3 (by omega),Zb,W3 (by omega),Zb,if_pos (by simp only [Z10,Z54];omega)]
 rfl
def afterR (t:Tm) (tu:D3) (l:List Lg) (last:Bool) (s:Ls):Ls:=⟨(dueR t tu l last s).c,s.r,s.one⟩
theorem afterR_ok {t:Tm} {tu:D3} {l:List Lg} {last:Bool} {s:Ls} (hs:LsOK s):LsOK (afterR t tu l last s):=by
 have hp:=Qkc (kind:=t.kind) (one:=s.one) (n:=Q2 t tu l) last hs.z.1
 have hz:=hs.z
 exact ⟨⟨show 0<=s.z-Wd t.kind s.one s.z (Q2 t tu l) last by omega,show s.z-Wd t.kind s.one s.z (Q2 t tu l) last<=10^30 by omega⟩,hs.r,hs.one⟩
def mPers (t:Tm):List (D3×D3)->List Evt->Ls->Nat->List Rw->List Rw×Nat×Int
 |[],_,_,_,rows=>(rows,0,0)
 |
  p::ps,es,s,dn,rows=>
  match (mEvs t p.2 (ps.length+1) es s [⟨p.1,p.2,itxt s.z,s.r⟩]).2 with
  |none=>([],dn+(mEvs t p.2 (ps.length+1) es s [⟨p.1,p.2,itxt s.z,s.r⟩]).1,16)
  |some x=>mPers t ps (es.drop (mEvs t p.2 (ps.length+1) es s [⟨p.1,p.2,itxt s.z,s.r⟩]).1) (afterR t p.2 x.2 (decide (ps=[])) x.1) (dn+(mEvs t p.2 (ps.length+1) es s [⟨p.1,p.2,itxt s.z,s.r⟩]).1)
    (rows++[dueR t p.2 x.2 (decide (ps=[])) x.1])
def Ch:D3->List (D3×D3)->Prop
 |_,[]=>True
 |a,p::ps=>p.1=a/\Ch p.2 ps
theorem Qt3 {p:D3×D3} (hp:rightD p.1/\rightD p.2/\numD p.1<=numD p.2) {s:Ls} (hs:LsOK s):Jj p.2 p.1 [⟨p.1,p.2,itxt s.z,s.r⟩]:=by
 have:itxt s.z=txt s.z.natAbs:=by unfold itxt;rw [if_neg (by have:=hs.z;omega)]
 have hm:(mMoney (itxt s.z)).2=0:=by
  have e:(10:Int)^30=1000000000000000000000000000000:=by decide
  have e2:(10:Nat)^30=1000000000000000000000000000000:=by decide
  have hz:=hs.z
  rw [this,Qf8 (by omega)]
 refine ⟨[],_,rfl,?_,rfl,rfl⟩
 show mLegs none [_]=0
 have hx:=Qfx (a:=none) (x:=⟨p.1,p.2,itxt s.z,s.r⟩) hp.1 hp.2.1 hp.2.2 (λd h=>by simp at h) hm hs.r
 unfold mLegs
 rw [if_neg (λhh=>hh hx)];rfl
abbrev PR:=(Int×Int×J2×J1×J1×Int×Int×Int×Int×Int×Int×Int×Int×J0×Bool×J1×J0×Bool)⊕(J2×Int×Int×J2×J1×J1×Int×Int×Int×Int×Int×Int×Int×Int×J0×Bool×J1×J0×Bool)
def Qss:PR->J2×Int×Int
 |.inl p=>(p.2.2.1,0,0)
 |.inr q=>(q.1,q.2.1,q.2.2.1)
theorem Qor {t:Tm} (h:mCheck t=0) {ps:List (D3×D3)} (hp:okP ps) (hps:ps.length<=30) {es:List Evt} (hes:es.length<=20) (hin:∀e∈es,inK e):∀(f i dn:Nat) (s:Ls) (rows:List Rw) (a:D3),i+f=ps.length->dn<=es.length->LsOK s->rows.length=i->Ch a (ps.drop i)->Asc a (es.drop dn) ->
  ∃
   o,Runs (λrec x=>z132.l0P (es.map Evt.r) (ps.map pv) (ps.map pv) (((ps.map pv).length:Nat):Int) rec some x) ((dn:Int),(i:Int),rows.map rwv,bT t s) o /\
   Qss o=((mPers t (ps.drop i) (es.drop dn) s dn rows).1.map rwv,((mPers t (ps.drop i) (es.drop dn) s dn rows).2.1:Int),(mPers t (ps.drop i) (es.drop dn) s dn rows).2.2)
 |
  0,i,dn,s,rows,a,hf,hd,hs,hr,hch,ha=>by
  have e1:ps.drop i=[]:=Z85 (by omega)
  rw [e1]
  refine ⟨.inl ((dn:Int),(i:Int),rows.map rwv,bT t s),.done λrec=>?_,rfl⟩
  unfold z132.l0P
  simp only
  rw [Qb (by rw [Z18];omega)]
 |
  f+1,i,dn,s,rows,a,hf,hd,hs,hr,hch,ha=>by
  have hi:i<ps.length:=by omega
  have hpi:=hp ps[i] (Z16 hi)
  have l2:(ps.map pv).length=ps.length:=by simp
  have l3:(es.map Evt.r).length=es.length:=by simp
  have w:wr .i64 ((i:Int)+1)=((i+1:Nat):Int):=by rw [Qe (by omega) (by omega)];rfl
  have wl:wr .i64 ((((ps.map pv).length:Nat):Int)-(i:Int))=((ps.length-i:Nat):Int):=by rw [l2,Qe (by omega) (by omega)];omega
  have hlen:(ps.drop (i+1)).length+1=ps.length-i:=by rw [Z34];omega
  rw [Z38 hi] at hch ⊢
  obtain ⟨hc1,hc2⟩:=hch
  obtain ⟨L,hLe⟩:∃L,L=es.drop dn:=⟨_,rfl⟩
  have hLl:L.length=es.length-dn:=by rw [hLe,Z34]
  have hLin:∀e∈L,inK e:=λe he=>hin e (by rw [hLe] at he;exact Z98 he)
  have hdr:(es.map Evt.r).drop dn=L.map Evt.r:=by rw [hLe,List.map_drop]
  have hleg:=Qt3 hpi hs
  have hz:=Jo hs.z
  obtain ⟨o1,r1,hm⟩:=Qlj h (L:=L) (by omega) hLin (tu:=ps[i].2) (left:=ps.length-i) (by omega) (rows.map rwv) L.length 0 s [⟨ps[i].1,ps[i].2,itxt s.z,s.r⟩] (by omega) hs (by simp) (by simp)
  rw [Z36] at hm
  simp only [Z17] at hm
  have el:z132.l0a ((ps.length-i:Nat):Int) (L.map Evt.r) (L.length:Int) ps[i].2.1 ps[i].2.2.1 ps[i].2.2.2 ([lgv ⟨ps[i].1,ps[i].2,itxt s.z,s.r⟩],0,0,rows.map rwv,bT t s)=some o1:=r1.lfp
  have hleg0:([[(.int .i64 ps[i].1.1),(.int .i64 ps[i].1.2.1),(.int .i64 ps[i].1.2.2),(.int .i64 ps[i].2.1),(.int .i64 ps[i].2.2.1),(.int .i64 ps[i].2.2.2),(.str (itxt s.z)),(.str s.r)]]:J2)=[lgv ⟨ps[i].1,ps[i].2,itxt s.z,s.r⟩]:=rfl
  have hL0:((((es.map Evt.r).drop dn).length:Nat):Int)=(L.length:Int):=by rw [hdr,Z18]
  have hst:∀rec,z132.l0P (es.map Evt.r) (ps.map pv) (ps.map pv) (((ps.map pv).length:Nat):Int) rec some ((dn:Int),(i:Int),rows.map rwv,bT t s) =
    match o1 with
    |.inl p1034=>((z120.F p1034.2.2.2.2.1 p1034.2.2.2.2.2.1 p1034.2.2.2.2.2.2.1 p1034.2.2.2.2.2.2.2.1 p1034.2.2.2.2.2.2.2.2.1 p1034.2.2.2.2.2.2.2.2.2.1 p1034.2.2.2.2.2.2.2.2.2.2.1 p1034.2.2.2.2.2.2.2.2.2.2.2.1 p1034.2.2.2.2.2.2.2.2.2.2.2.2.1 p1034.2.2.2.2.2.2.2.2.2.2.2.2.2.1 p1034.2.2.2.2.2.2.2.2.2.2.2.2.2.2.1 p1034.2.2.2.2.2.2.2.2.2.2.2.2.2.2.2.1 p1034.2.2.2.2.2.2.2.2.2.2.2.2.2.2.2.2.1 p1034.2.2.2.2.2.2.2.2.2.2.2.2.2.2.2.2.2.1 p1034.2.2.2.2.2.2.2.2.2.2.2.2.2.2.2.2.2.2 p1034.2.2.2.1 ps[i].1.1 ps[i].1.2.1 ps[i].1.2.2 ps[i].2.1 ps[i].2.2.1 ps[i].2.2.2 p1034.1 (decide (((ps.length-i:Nat):Int)=(1:Int)))).bind λr1036=>(rec ((wr .i64 ((dn:Int)+p1034.2.1)),((i+1:Nat):Int),r1036.2.2.2.2.2.2.2.2.2.2.2.2.2.2.2,r1036.1,r1036.2.1,r1036.2.2.1,r1036.2.2.2.1,r1036.2.2.2.2.1,r1036.2.2.2.2.2.1,r1036.2.2.2.2.2.2.1,r1036.2.2.2.2.2.2.2.1,r1036.2.2.2.2.2.2.2.2.1,r1036.2.2.2.2.2.2.2.2.2.1,r1036.2.2.2.2.2.2.2.2.2.2.1,r1036.2.2.2.2.2.2.2.2.2.2.2.1,r1036.2.2.2.2.2.2.2.2.2.2.2.2.1,r1036.2.2.2.2.2.2.2.2.2.2.2.2.2.1,r1036.2.2.2.2.2.2.2.2.2.2.2.2.2.2.1)))
    |.inr q1035=>(bif (!decide (q1035.2.1=(0:Int))) then some (.inr ([],(wr .i64 ((dn:Int)+q1035.1)),q1035.2.1,q1035.2.2)) else (rec ((wr .i64 ((dn:Int)+q1035.1)),((i+1:Nat):Int),q1035.2.2))):=λrec=>by
   unfold z132.l0P
   simp only
   rw [bif_t (by omega),if_pos (by omega),Zi,Qam pv hi]
   simp only [asP0,asP1,asP2,asP3,asP4,asP5]
   rw [if_pos (by omega),W3 (by omega),Zb,wl,Zi,hleg0,hL0,hdr]
   refine (congrArg (λo=>Option.bind o _) el).trans ?_
   rw [Zb,w]
   cases o1<;>rfl
  have hlast:decide (((ps.length-i:Nat):Int)=1)=decide (ps.drop (i+1)=[]):=by
   by_cases hh:i+1=ps.length
   ·rw [Zt (by omega),Zt (Z85 (by omega))]
   ·rw [Zf (by omega),Zf (λe0=>by have:=congrArg List.length e0;rw [Z34] at this;simp at this;omega)]
  have hel:=Qna t ps[i].2 (ps.length-i) L s [⟨ps[i].1,ps[i].2,itxt s.z,s.r⟩]
  have hok:=Qps h hpi.2.1 (left:=ps.length-i) (by omega) L s [⟨ps[i].1,ps[i].2,itxt s.z,s.r⟩] ps[i].1 hLin hs hleg (by rw [hc1,hLe];exact ha)
  unfold mPers
  rw [hlen,<-hLe]
  obtain ⟨k,hk⟩:∃k,k=(mEvs t ps[i].2 (ps.length-i) L s [⟨ps[i].1,ps[i].2,itxt s.z,s.r⟩]).1:=⟨_,rfl⟩
  rw [<-hk] at hm hel hok ⊢
  have wk:wr .i64 ((dn:Int)+(k:Int))=((dn+k:Nat):Int):=by rw [Qe (by omega) (by omega)];omega
  cases hq:(mEvs t ps[i].2 (ps.length-i) L s [⟨ps[i].1,ps[i].2,itxt s.z,s.r⟩]).2 with
  |
   none=>
   rw [hq] at hm
   obtain ⟨s',rfl⟩:=hm
   refine ⟨_,.done λrec=>by rw [hst];simp only;rw [wk];rfl,?_⟩
   rfl
  |
   some x=>
   rw [hq] at hm hok
   simp only at hm
   subst hm
   obtain ⟨g1,⟨f',g2⟩,g3,g4⟩:=hok x rfl
   have hdue:=Qqa h g1 hpi.2.1 g2.ok (by simp at g3;omega) (decide (ps.drop (i+1)=[])) (rows.map rwv) (by simp;omega) ps[i].1.1 ps[i].1.2.1 ps[i].1.2.2
   have hdd:L.drop k=es.drop (dn+k):=by rw [hLe,Z100]
   obtain ⟨o,r2,ho⟩:=Qor h hp hps hes hin f (i+1) (dn+k) (afterR t ps[i].2 x.2 (decide (ps.drop (i+1)=[])) x.1) (rows++[dueR t ps[i].2 x.2 (decide (ps.drop (i+1)=[])) x.1]) ps[i].2 (by omega) (by omega) (afterR_ok g1) (by simp;omega) hc2 (by rw [<-hdd];exact g4)
   refine ⟨o,.step (λrec=>?_) r2,?_⟩
   ·rw [hst]
    simp only
    rw [hlast,hdue,Zb,wk,Z68]
    rfl
   ·simp only
    rw [hdd];exact ho
def mWrong (t:Tm) (last:D3):Nat->List Evt->Nat×Int
 |_,[]=>(0,0)
 |i,e::es=>if e.k≠1/\e.k≠2 then (i,2) else if cmpD e.day t.start<0 then (i,12) else if cmpD e.day last>=0 then (i,17) else mWrong t last (i+1) es
def outW:Int⊕(Int×Int)->Int×Int
 |.inl _=>(0,0)
 |.inr q=>q
theorem Qkv (t:Tm) (last:D3) {L:List Evt} (hL:L.length<=10000):∀(f i:Nat),i+f=L.length->∃o,Runs (λrec x=>z131.l0P (L.map Evt.r) (L.length:Int) t.y t.m t.d last.1 last.2.1 last.2.2 rec some x) (i:Int) o /\
  outW o=(((mWrong t last i (L.drop i)).1:Int),(mWrong t last i (L.drop i)).2)
 |
  0,i,hf=>by
  have e1:L.drop i=[]:=Z85 (by omega)
  rw [e1]
  refine ⟨.inl (i:Int),.done λrec=>?_,rfl⟩
  unfold z131.l0P
  rw [Qb (by omega)]
 |
  f+1,i,hf=>by
  have hi:i<L.length:=by omega
  have l2:(L.map Evt.r).length=L.length:=by simp
  have w:wr .i64 ((i:Int)+1)=((i+1:Nat):Int):=by rw [Qe (by omega) (by omega)];rfl
  rw [Z38 hi]
  have hst:∀rec:Int->Option (Int⊕(Int×Int)),z131.l0P (L.map Evt.r) (L.length:Int) t.y t.m t.d last.1 last.2.1 last.2.2 rec some (i:Int) =
    if L[i].k≠1/\L[i].k≠2 then some (.inr ((i:Int),2)) else if cmpD L[i].day t.start<0 then some (.inr ((i:Int),12)) else if cmpD L[i].day last>=0 then some (.inr ((i:Int),17)) else rec ((i+1:Nat):Int):=λrec=>by
   unfold z131.l0P
   rw [bif_t (by omega),if_pos (by omega),Zi,Qha hi]
   simp only [eK,eY,eM,eD,eV]
   have tail:((z16.F L[i].y L[i].m L[i].d t.y t.m t.d).bind λr1026=>bif decide (r1026<(0:Int)) then (some (.inr ((i:Int),(12:Int))):Option (Int⊕(Int×Int))) else ((z16.F L[i].y L[i].m L[i].d last.1 last.2.1 last.2.2).bind λr1027=>bif decide (r1027>=(0:Int)) then (some (.inr ((i:Int),(17:Int)))) else (rec (wr .i64 ((i:Int)+(1:Int)))))) =
     if cmpD L[i].day t.start<0 then some (.inr ((i:Int),12)) else if cmpD L[i].day last>=0 then some (.inr ((i:Int),17)) else rec ((i+1:Nat):Int):=by
    rw [date_Cmp,Zb]
    by_cases c1:cmpD L[i].day t.start<0
    ·rw [if_pos c1,bif_t (show dcmp L[i].y L[i].m L[i].d t.y t.m t.d<0 from c1)]
    ·rw [if_neg c1,Qb (show ¬dcmp L[i].y L[i].m L[i].d t.y t.m t.d<0 from c1),date_Cmp,Zb,w]
     by_cases c2:cmpD L[i].day last>=0
     ·rw [if_pos c2,bif_t (show dcmp L[i].y L[i].m L[i].d last.1 last.2.1 last.2.2>=0 from c2)]
     ·rw [if_neg c2,Qb (show ¬dcmp L[i].y L[i].m L[i].d last.1 last.2.1 last.2.2>=0 from c2)]
   by_cases k1:L[i].k=1
   ·rw [Zt k1,if_neg (λhh=>hh.1 k1),<-tail];rfl
   ·by_cases k2:L[i].k=2
    ·rw [Zf k1,Zt k2,if_neg (λhh=>hh.2 k2),<-tail];rfl
    ·rw [Zf k1,Zf k2,if_pos ⟨k1,k2⟩];rfl
  unfold mWrong
  by_cases c0:L[i].k≠1/\L[i].k≠2
  ·rw [if_pos c0]
   exact ⟨.inr ((i:Int),2),.done λrec=>by rw [hst,if_pos c0],rfl⟩
  ·rw [if_neg c0]
   by_cases c1:cmpD L[i].day t.start<0
   ·rw [if_pos c1]
    exact ⟨.inr ((i:Int),12),.done λrec=>by rw [hst,if_neg c0,if_pos c1],rfl⟩
   ·rw [if_neg c1]
    by_cases c2:cmpD L[i].day last>=0
    ·rw [if_pos c2]
     exact ⟨.inr ((i:Int),17),.done λrec=>by rw [hst,if_neg c0,if_neg c1,if_pos c2],rfl⟩
    ·rw [if_neg c2]
     obtain ⟨o,h1,h2⟩:=Qkv t last hL f (i+1) (by omega)
     exact ⟨o,.step (λrec=>by rw [hst,if_neg c0,if_neg c1,if_neg c2]) h1,h2⟩
theorem Qyw (t:Tm) (last:D3) {L:List Evt} (hL:L.length<=10000):z131.F t.p t.r t.kind t.basis t.mode t.y t.m t.d t.every t.count last.1 last.2.1 last.2.2 (L.map Evt.r)=some (((mWrong t last 0 L).1:Int),(mWrong t last 0 L).2):=by
 have l2:(L.map Evt.r).length=L.length:=by simp
 obtain ⟨o,h1,h2⟩:=Qkv t last hL L.length 0 (by omega)
 rw [Z36] at h2
 have e:z131.l0 (L.map Evt.r) (L.length:Int) t.y t.m t.d last.1 last.2.1 last.2.2 0=some o:=h1.lfp
 unfold z131.F
 rw [l2,e,Zb,<-h2]
 cases o<;>rfl
def lastD (t:Tm):D3:=(t.periods.getLast?.getD (t.start,t.start)).2
def firstR (t:Tm):Ls:=⟨(mMoney t.p).1,t.r,Yz t (mMoney t.p).1 t.r t.count.toNat⟩
def mBuildR (t:Tm) (es:List Evt):List Rw×Int×Int:=
 if (mChk 0 0 0 0 es).2≠0 then ([],(mChk 0 0 0 0 es).1,(mChk 0 0 0 0 es).2)
 else if (mWrong t (lastD t) 0 es).2≠0 then ([],((mWrong t (lastD t) 0 es).1:Int),(mWrong t (lastD t) 0 es).2)
 else ((mPers t t.periods es (firstR t) 0 []).1,((mPers t t.periods es (firstR t) 0 []).2.1:Int),(mPers t t.periods es (firstR t) 0 []).2.2)
theorem Qgk {t:Tm} (h:mCheck t=0) (hc:t.count<=30):LsOK (firstR t):=by
 obtain ⟨i1,i2,_⟩:=(mCheck_iff t).1 h
 obtain ⟨_,hcc,_,_⟩:=Yo h
 have hz:=Qaq t.p
 have hs:=Jo hz
 exact ⟨hz,i2,Qhf h hz.1 (by omega) (by omega)⟩
theorem Qgm:∀(a:D3) (l:List D3),Ch a (pairs a l)
 |_,[]=>trivial
 |_,b::l=>⟨rfl,Qgm b l⟩
theorem Qpi {t:Tm} {last:D3}:∀(es:List Evt) (i:Nat),(mWrong t last i es).2=0->∀e∈es,(e.k=1\/e.k=2)/\¬cmpD e.day t.start<0/\¬cmpD e.day last>=0
 |[],_,_=>by simp
 |
  e::es,i,h=>by
  unfold mWrong at h
  by_cases c0:e.k≠1/\e.k≠2
  ·rw [if_pos c0] at h;simp at h
  ·rw [if_neg c0] at h
   by_cases c1:cmpD e.day t.start<0
   ·rw [if_pos c1] at h;simp at h
   ·rw [if_neg c1] at h
    by_cases c2:cmpD e.day last>=0
    ·rw [if_pos c2] at h;simp at h
    ·rw [if_neg c2] at h
     intro x hx
     rcases Z108.1 hx with rfl|hx
     ·exact ⟨by omega,c1,c2⟩
     ·exact Qpi es (i+1) h x hx
theorem Qmh:∀(es:List Evt) (y m d:Int),right y m d->Seq y m d es->Asc (y,m,d) es
 |[],_,_,_,_,_=>trivial
 |
  e::es,y,m,d,hr,h=>by
  refine ⟨?_,Qmh es e.y e.m e.d h.2.1.d h.2.2⟩
  have:=h.1
  rw [Qpc h.2.1.d hr,We] at this
  show num y m d<=num e.y e.m e.d
  omega
theorem Qq6:∀(es:List Evt) (a:D3),rightD a->Seq 0 0 0 es->(∀e∈es,¬cmpD e.day a<0)->Asc a es
 |[],_,_,_,_=>trivial
 |
  e::es,a,hr,h,hc=>by
  refine ⟨?_,Qmh es e.y e.m e.d h.2.1.d h.2.2⟩
  have:=hc e (by simp)
  rw [Yk h.2.1.d hr,We] at this
  omega
theorem Qxv {n:Nat} (h:1<=n) (h2:n<=1000000):wr .i64 (((n:Nat):Int)-1)=((n-1:Nat):Int):=by rw [Qe (by omega) (by omega)];omega
theorem Qox {t:Tm} (h:0<t.periods.length):lastD t=t.periods[t.periods.length-1].2:=by
 unfold lastD
 rw [List.getLast?_eq_getElem?,Z1 (by omega)];rfl
theorem Qrn {t:Tm} {es:List Evt} (hk:(mChk 0 0 0 0 es).2≠0):mBuildR t es=([],(mChk 0 0 0 0 es).1,(mChk 0 0 0 0 es).2):=by unfold mBuildR;rw [if_pos hk]
theorem Qum {t:Tm} {es:List Evt} (hk:(mChk 0 0 0 0 es).2=0) (hw:(mWrong t (lastD t) 0 es).2≠0):mBuildR t es=([],((mWrong t (lastD t) 0 es).1:Int),(mWrong t (lastD t) 0 es).2):=by
 unfold mBuildR;rw [if_neg (λhh=>hh hk),if_pos hw]
theorem Qih {t:Tm} {es:List Evt} (hk:(mChk 0 0 0 0 es).2=0) (hw:(mWrong t (lastD t) 0 es).2=0):mBuildR t es=((mPers t t.periods es (firstR t) 0 []).1,((mPers t t.periods es (firstR t) 0 []).2.1:Int),(mPers t t.periods es (firstR t) 0 []).2.2):=by
 unfold mBuildR;rw [if_neg (λhh=>hh hk),if_neg (λhh=>hh hw)]
theorem Qdk {t:Tm} (h:mCheck t=0) (hc:t.count<=30) {es:List Evt} (hes:es.length<=20) (hv:∀e∈es,e.v.length<=4096) :
  z132.F t.p t.r t.kind t.basis t.mode t.y t.m t.d t.every t.count (es.map Evt.r)=some ((mBuildR t es).1.map rwv,(mBuildR t es).2.1,(mBuildR t es).2.2):=by
 obtain ⟨_,hcc,hst,_⟩:=Yo h
 have hpl:=Qfz t
 have l2:(t.periods.map pv).length=t.periods.length:=by simp
 have hpos:0<t.periods.length:=by omega
 have hi:t.periods.length-1<t.periods.length:=by omega
 obtain ⟨n,hn⟩:=Ye (show 0<=t.count by omega)
 have hfr:=Qgk h hc
 have hz:=Qaq t.p
 have hs:=Jo hz
 obtain ⟨i1,i2,_⟩:=(mCheck_iff t).1 h
 unfold z132.F
 rw [dues_Periods,if_pos h,Zb]
 simp only [decide_true,Zn,Zc]
 rw [Qtu (by omega),Zb]
 by_cases hk:(mChk 0 0 0 0 es).2=0
 ·rw [Zt hk]
  simp only [Zn,Zc]
  rw [l2,Qxv (by omega) (by omega),if_pos (show (0:Int)<=((t.periods.length-1:Nat):Int)/\((t.periods.length-1:Nat):Int)<(t.periods.length:Int) by omega),Zi,Qam pv hi]
  simp only [asP0,asP1,asP2,asP3,asP4,asP5]
  rw [<-Qox hpos,Qyw t (lastD t) (by omega),Zb]
  by_cases hw:(mWrong t (lastD t) 0 es).2=0
  ·rw [Qih hk hw,Zt hw]
   simp only [Zn,Zc]
   have hw':=Qpi es 0 hw
   have hseq:=(Ql4 es 0 0 0 0 hv hk).1
   have hin:∀e∈es,inK e:=λe he=>⟨Qnn hseq e he,(hw' e he).1⟩
   have hasc:=Qq6 es t.start hst hseq λe he=>(hw' e he).2.1
   have heach:=Qee h hz.1 (by omega) i2 (n:=n) (by omega)
   rw [<-hn] at heach
   rw [terms_Money,Zb]
   simp only
   rw [heach,Zb]
   obtain ⟨o,r,ho⟩:=Qor h (Qgr h) (by omega) hes hin t.periods.length 0 0 (firstR t) [] t.start (by omega) (by omega) hfr rfl (Qgm t.start t.dates) hasc
   rw [Z36,Z36] at ho
   have el:z132.l0 (es.map Evt.r) (t.periods.map pv) (t.periods.map pv) (((t.periods.map pv).length:Nat):Int) (0,0,[],bT t (firstR t))=some o:=r.lfp
   rw [l2] at el
   simp only
   have e3:Yz t (mMoney t.p).1 t.r n=(firstR t).one:=by unfold firstR;rw [hn,Zi]
   rw [e3]
   refine (congrArg (λo=>Option.bind o _) el).trans ?_
   rw [Zb,<-ho]
   cases o<;>rfl
  ·rw [Qum hk hw,Zf hw];rfl
 ·rw [Qrn hk,Zf hk];rfl
end Go.Proofs.YtihfdjkjpncjfaaGreatDoor.A
end
