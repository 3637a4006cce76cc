/- Part 4 of the proof of ScriptBack.card. -/
import Derived.Test.YtjfipepaaddlmaaGreatDoorCt3
import Derived.Deep.DeepHandedRow
import Derived.Lib.LaidTab
set_option linter.unusedVariables false
set_option linter.unusedSimpArgs false
section
namespace Go.Proofs.YtjfipepaaddlmaaGreatDoor.A
open Go
structure Evt where
 k:Int
 y:Int
 m:Int
 d:Int
 v:List UInt8
deriving DecidableEq
def Evt.r (e:Evt):List V:=[.int .i64 e.k,.int .i64 e.y,.int .i64 e.m,.int .i64 e.d,.str e.v]
def mFin (N:Int) (e:Evt) (l:List Tk):(Int×Int)⊕(Evt×List Tk):=
 if (hd N l).k=3/\(hd N l).s=[59] then .inr (e,l.tail) else .inl (4,(hd N l).p)
def mEvent (N:Int) (l:List Tk) (y m d:Int):(Int×Int)⊕(Evt×List Tk):=
 if (hd N l).k≠0 then .inl (4,(hd N l).p)
 else if kindOf (hd N l).s<0 then .inl (14,(hd N l).p)
 else if (hd N l.tail).k≠2 then .inl (4,(hd N l.tail).p)
 else if (mDate (hd N l.tail).s).2.2.2≠0 then .inl ((mDate (hd N l.tail).s).2.2.2,(hd N l.tail).p)
 else if dcmp (mDate (hd N l.tail).s).1 (mDate (hd N l.tail).s).2.1 (mDate (hd N l.tail).s).2.2.1 y m d<0 then .inl (12,(hd N l.tail).p)
 else if kindOf (hd N l).s=3 then mFin N ⟨kindOf (hd N l).s,(mDate (hd N l.tail).s).1,(mDate (hd N l.tail).s).2.1,(mDate (hd N l.tail).s).2.2.1,[]⟩ l.tail.tail
 else if (mWorth (kindOf (hd N l).s) (hd N l.tail.tail)).1≠0 then .inl ((mWorth (kindOf (hd N l).s) (hd N l.tail.tail)).1,(hd N l.tail.tail).p)
 else mFin N ⟨kindOf (hd N l).s,(mDate (hd N l.tail).s).1,(mDate (hd N l.tail).s).2.1,(mDate (hd N l.tail).s).2.2.1,(mWorth (kindOf (hd N l).s) (hd N l.tail.tail)).2⟩ l.tail.tail.tail
def mEvents (N:Int):Nat->List Tk->Int->Int->Int->List Evt->List Evt×Int×Int
 |0,_,_,_,_,acc=>(acc,0,0)
 |
  n+1,l,y,m,d,acc=>if l=[] then (acc,0,0) else
  match mEvent N l y m d with
  |.inl e=>([],e.2,e.1)
  |.inr r=>mEvents N n r.2 r.1.y r.1.m r.1.d (acc++[r.1])
def mParse (s:J1):List Evt×Int×Int:=
 if (lexOf s).2.2≠0 then ([],(lexOf s).2.1,(lexOf s).2.2) else mEvents (s.length:Int) (lexOf s).1.length (lexOf s).1 0 0 0 []
def Qkn (R:Int×Int×Int×Int×J1×Int×J2×Int×Int) (N:Int):(Int×Int)⊕(Evt×List Tk)->Prop
 |.inl e=>R.2.2.2.2.2.1=e.1/\e.1≠0/\R.2.2.2.2.2.2.2.2=e.2
 |.inr r=>∃q,R=(r.1.k,r.1.y,r.1.m,r.1.d,r.1.v,0,r.2.map Tk.v,N,q)
theorem Qit (l:List Tk) (N p k y m d:Int) (v:J1):∃R,z83.j15 (l.map Tk.v) N p k y m d v=some R/\Qkn R N (mFin N ⟨k,y,m,d,v⟩ l):=by
 obtain ⟨z,hz⟩:=Qdj l N p
 unfold z83.j15 mFin
 rw [hz,Zb]
 by_cases h3:(hd N l).k=3
 ·by_cases h4:(hd N l).s=[59]
  ·rw [if_pos ⟨h3,h4⟩,Zt h3,Zt h4]
   exact ⟨_,rfl,_,rfl⟩
  ·rw [if_neg (λh=>h4 h.2),Zt h3,Zf h4]
   exact ⟨_,rfl,rfl,(by simp),rfl⟩
 ·rw [if_neg (λh=>h3 h.1),Zf h3]
  exact ⟨_,rfl,rfl,(by simp),rfl⟩
theorem Qpu {l:List Tk} (hl:∀t∈l,t.k=2->dtd t.s=true) (N:Int) (h:(hd N l).k=2):dtd (hd N l).s=true:=by
 cases l with
 |nil=>simp [hd] at h
 |cons t u=>exact hl t (by simp) h
theorem Qoc {l:List Tk} (hl:∀t∈l,t.k=2->dtd t.s=true) (N p y m d:Int):∃R,z83.F (l.map Tk.v) N p y m d=some R/\Qkn R N (mEvent N l y m d):=by
 obtain ⟨z0,e0⟩:=Qdj l N p
 obtain ⟨z1,e1⟩:=Qdj l.tail N (hd N l).p
 have hl1:∀t∈l.tail,t.k=2->dtd t.s=true:=λt ht=>hl t (List.mem_of_mem_tail ht)
 unfold z83.F mEvent
 rw [e0,Zb]
 by_cases h0:(hd N l).k=0
 ·rw [if_neg (λh=>h h0),Zt h0]
  simp only [Zn,Zc]
  rw [show z76.F=some Wm from rfl,Zb,Qo9,Zb]
  have hk:=Qjb (hd N l).s
  generalize kindOf (hd N l).s=k at *
  by_cases h1:k<0
  ·rw [if_pos h1,bif_t h1]
   exact ⟨_,rfl,rfl,(by simp),rfl⟩
  ·rw [if_neg h1,Qc h1,e1,Zb]
   by_cases h2:(hd N l.tail).k=2
   ·rw [if_neg (λh=>h h2),Zt h2]
    simp only [Zn,Zc]
    rw [date_Parse (Qpu hl1 N h2),Zb]
    generalize mDate (hd N l.tail).s=D at *
    by_cases h3:D.2.2.2=0
    ·rw [if_neg (λh=>h h3),Zt h3]
     simp only [Zn,Zc]
     rw [date_Cmp,Zb]
     by_cases h4:dcmp D.1 D.2.1 D.2.2.1 y m d<0
     ·rw [if_pos h4,bif_t h4]
      exact ⟨_,rfl,rfl,(by simp),rfl⟩
     ·rw [if_neg h4,Qc h4]
      by_cases h5:k=3
      ·rw [if_pos h5,Zt h5]
       exact Qit l.tail.tail N _ k D.1 D.2.1 D.2.2.1 []
      ·rw [if_neg h5,Zf h5]
       simp only [Zo,Zd]
       obtain ⟨w,e2,hw⟩:=Qru (k:=k) (by omega) D.1 D.2.1 D.2.2.1 N (hd N l.tail).p l.tail.tail
       rw [e2,Zb]
       by_cases h6:(mWorth k (hd N l.tail.tail)).1=0
       ·rw [if_neg (λh=>h h6),Zt h6,hw h6]
        exact Qit l.tail.tail.tail N _ k D.1 D.2.1 D.2.2.1 _
       ·rw [if_pos h6,Zf h6]
        exact ⟨_,rfl,rfl,h6,rfl⟩
    ·rw [if_pos h3,Zf h3]
     exact ⟨_,rfl,rfl,h3,rfl⟩
   ·rw [if_pos h2,Zf h2]
    exact ⟨_,rfl,rfl,(by simp),rfl⟩
 ·rw [if_pos h0,Zf h0]
  exact ⟨_,rfl,rfl,(by simp),rfl⟩
theorem Qkx {N:Int} {e:Evt} {l:List Tk} {r:Evt×List Tk} (h:mFin N e l=.inr r):r.1=e/\r.2=l.tail/\l≠[]:=by
 unfold mFin at h
 split at h
 ·rename_i hc
  refine ⟨by cases h;rfl,by cases h;rfl,λhn=>?_⟩
  subst hn;simp [hd] at hc
 ·simp at h
theorem Qjv {N:Int} {l:List Tk} {y m d:Int} {r:Evt×List Tk} (h:mEvent N l y m d=.inr r):l≠[]/\r.2.length+3<=l.length/\∃k,k<=l.length/\r.2=l.drop k:=by
 unfold mEvent at h
 split at h
 ·simp at h
 ·rename_i h0
  have hl:l≠[]:=λhn=>by subst hn;simp [hd] at h0
  have hpos:=Z26.2 hl
  split at h
  ·simp at h
  split at h
  ·simp at h
  rename_i h2
  have hl1:l.tail≠[]:=λhn=>by rw [hn] at h2;simp [hd] at h2
  have hpos1:=Z26.2 hl1
  rw [List.length_tail] at hpos1
  split at h
  ·simp at h
  split at h
  ·simp at h
  split at h
  ·obtain ⟨_,h5,h6⟩:=Qkx h
   have hpos2:=Z26.2 h6
   simp only [List.length_tail] at hpos2
   have e:r.2=l.drop 3:=by rw [h5];simp only [<-List.drop_one,Z82]
   exact ⟨hl,by rw [e,Z17];omega,3,by omega,e⟩
  ·split at h
   ·simp at h
   ·obtain ⟨_,h5,h6⟩:=Qkx h
    have hpos2:=Z26.2 h6
    simp only [List.length_tail] at hpos2
    have e:r.2=l.drop 4:=by rw [h5];simp only [<-List.drop_one,Z82]
    exact ⟨hl,by rw [e,Z17];omega,4,by omega,e⟩
abbrev PS:=J2×Int×Int×J2×Int×Int×Int
abbrev PT:=J2×Int×Int×J2×Int×Int×J2×Int×Int×Int
def outP:PS⊕PT->J2×Int×Int
 |.inl p=>(p.2.2.2.1,0,0)
 |.inr q=>(q.1,q.2.1,q.2.2.1)
def encM (r:List Evt×Int×Int):J2×Int×Int:=(r.1.map Evt.r,r.2.1,r.2.2)
theorem Qri (N:Int):∀(n:Nat) (l:List Tk) (p y m d:Int) (acc:List Evt),l.length<=n->(∀t∈l,t.k=2->dtd t.s=true)->acc.length+l.length<=9999 ->
  ∃x,Runs (λrec x=>z97.l0P rec some x) (l.map Tk.v,N,p,acc.map Evt.r,y,m,d) x/\outP x=encM (mEvents N n l y m d acc):=by
 intro n
 induction n with
 |
  zero=>
  intro l p y m d acc hn hl ha
  have:l=[]:=Z7 (by omega)
  subst this
  refine ⟨.inl ([],N,p,acc.map Evt.r,y,m,d),.done λrec=>?_,?_⟩
  ·unfold z97.l0P
   simp only [List.map_nil]
   rw [Qc (by simp)]
  ·rfl
 |
  succ n ih=>
  intro l p y m d acc hn hl ha
  by_cases hnil:l=[]
  ·subst hnil
   refine ⟨.inl ([],N,p,acc.map Evt.r,y,m,d),.done λrec=>?_,?_⟩
   ·unfold z97.l0P
    simp only [List.map_nil]
    rw [Qc (by simp)]
   ·rw [mEvents,if_pos rfl];rfl
  ·have hpos:=Z26.2 hnil
   obtain ⟨R,hR,ho⟩:=Qoc hl N p y m d
   have hst:∀rec:PS->Option (PS⊕PT),z97.l0P rec some (l.map Tk.v,N,p,acc.map Evt.r,y,m,d)=(bif (!decide (R.2.2.2.2.2.1=(0:Int))) then (some (.inr ([],R.2.2.2.2.2.2.2.2,R.2.2.2.2.2.1,R.2.2.2.2.2.2.1,R.2.2.2.2.2.2.2.1,R.2.2.2.2.2.2.2.2,acc.map Evt.r,y,m,d))) else (rec (R.2.2.2.2.2.2.1,R.2.2.2.2.2.2.2.1,R.2.2.2.2.2.2.2.2,(acc.map Evt.r++([[(.int .i64 R.1),(.int .i64 R.2.1),(.int .i64 R.2.2.1),(.int .i64 R.2.2.2.1),(.str R.2.2.2.2.1)]]:J2)),R.2.1,R.2.2.1,R.2.2.2.1))):=λrec=>by
    unfold z97.l0P
    simp only
    have l1:(l.map Tk.v).length=l.length:=by simp
    have l2:(acc.map Evt.r).length=acc.length:=by simp
    rw [l1,l2,bif_t (by omega),Qc (by omega),hR,Zb,if_pos (by show (acc.length+1)*48<=_;omega)]
   cases he:mEvent N l y m d with
   |
    inl e=>
    rw [he] at ho
    obtain ⟨h1,h2,h3⟩:=ho
    refine ⟨.inr ([],R.2.2.2.2.2.2.2.2,R.2.2.2.2.2.1,R.2.2.2.2.2.2.1,R.2.2.2.2.2.2.2.1,R.2.2.2.2.2.2.2.2,acc.map Evt.r,y,m,d),.done λrec=>?_,?_⟩
    ·rw [hst,Zf (by rw [h1];exact h2)];rfl
    ·rw [mEvents,if_neg hnil,he]
     show (([]:J2),R.2.2.2.2.2.2.2.2,R.2.2.2.2.2.1)=([],e.2,e.1)
     rw [h1,h3]
   |
    inr r=>
    rw [he] at ho
    obtain ⟨q,hq⟩:=ho
    obtain ⟨h1,h2,k,_,h3⟩:=Qjv he
    obtain ⟨x,hx,hx2⟩:=ih r.2 q r.1.y r.1.m r.1.d (acc++[r.1]) (by omega) (λt ht=>hl t (by rw [h3] at ht;exact Z72 ht)) (by simp;omega)
    refine ⟨x,.step (λrec=>?_) hx,?_⟩
    ·rw [hst,hq]
     simp only [List.map_append,List.map_cons,List.map_nil];rfl
    ·rw [mEvents,if_neg hnil,he];exact hx2
theorem Qd2 (s:J1):(lexOf s).1.length<=s.length/\∀t∈(lexOf s).1,(t.k=2->dtd t.s=true)/\t.s.length<=s.length/\0<=t.p/\t.p<=s.length:=by
 have h:=Wg false s
 obtain ⟨h1,h2⟩:=Qqv s.length (skp false s).length (skp false s) (Z5 _) h
 exact ⟨by unfold lexOf;omega,λt ht=>by obtain ⟨a,b,c⟩:=h2 t ht;exact ⟨a,by omega,c⟩⟩
theorem Qg6 {s:J1} (hs:s.length<=1048576) (hk:(lexOf s).1.length<=9999):z97.F s=some (encM (mParse s)):=by
 obtain ⟨h1,h2⟩:=Qd2 s
 unfold z97.F mParse
 rw [lex_Lex,if_neg (by omega),Zb]
 by_cases he:(lexOf s).2.2=0
 ·rw [if_neg (λh=>h he)]
  simp only [he,decide_true,Zn,Zc]
  obtain ⟨x,r,hx⟩:=Qri (s.length:Int) (lexOf s).1.length (lexOf s).1 0 0 0 0 [] (Z5 _) (λt ht=>(h2 t ht).1) (by simp;omega)
  have e:z97.l0 ((lexOf s).1.map Tk.v,(s.length:Int),0,[],0,0,0)=some x:=r.lfp
  rw [e,<-hx]
  cases x<;>rfl
 ·rw [if_pos he]
  simp only [he,decide_false,Zo,Zd]
  rfl
theorem script_Parse {s:J1} (hs:s.length<=9999):z97.F s=some (encM (mParse s)):=
 Qg6 (by omega) (by have:=(Qd2 s).1;omega)
def cd (v:Int):UInt8:=UInt8.ofNat (48+v%10).toNat
theorem Yt {v:Int} (hv:0<=v):((cd v).toNat:Int)=48+v%10:=by
 unfold cd
 rw [UInt8.toNat_ofNat']
 omega
def dtxt (y m d:Int):J1:=[cd (y/10/10/10),cd (y/10/10),cd (y/10),cd y,45,cd (m/10),cd m,45,cd (d/10),cd d]
theorem Y6 {n:Int} (hn:0<=n/\n<1000000) {b1 b2 i:Nat} (hi:i<b2) {L:J0} (hL:b1+i<L.length) (hb:i<100000) (rec:(Int×Int×J0)->Option (Int×Int×J0)) :
  z101.l0P b1 b2 rec some (n,(i:Int),L)=rec (n/10,(i:Int)-1,L.set (b1+i) (48+n%10)):=by
 have e1:Int.tdiv n 10=n/10:=Int.tdiv_eq_ediv_of_nonneg hn.1
 have e2:Int.tmod n 10=n%10:=Int.tmod_eq_emod_of_nonneg hn.1
 unfold z101.l0P
 simp only
 rw [bif_t (by omega),if_pos (by omega),Zi,if_pos hL,e1,e2,Qj (n:=n/10) (by omega) (by omega),Qj (n:=(i:Int)-1) (by omega) (by omega),Qj (n:=48+n%10) (by omega) (by omega),Qb3 (by omega) (by omega)]
theorem Qf1 {n:Int} {b1 b2:Nat} {L:J0}:Runs (λrec x=>z101.l0P b1 b2 rec some x) (n,(-1:Int),L) (n,-1,L):=.done λrec=>by
 unfold z101.l0P
 simp only
 rw [Qc (by decide)]
theorem date_Print {y m d:Int} (h:right y m d):z101.F y m d=some (dtxt y m d,0):=by
 obtain ⟨hy,hm1,hm2,hd1,hd2⟩:=Qd0 h
 have r1:z101.l0 0 4 (y,3,[48,48,48,48,45,48,48,45,48,48])=some (y/10/10/10/10,-1,[48+y/10/10/10%10,48+y/10/10%10,48+y/10%10,48+y%10,45,48,48,45,48,48]):=by
  refine Runs.lfp ?_
  refine .step (Y6 (b1:=0) (b2:=4) (i:=3) (by omega) (by decide) (by decide) (by decide)) ?_
  refine .step (Y6 (b1:=0) (b2:=4) (i:=2) (by omega) (by decide) (show 2<10 by decide) (by decide)) ?_
  refine .step (Y6 (b1:=0) (b2:=4) (i:=1) (by omega) (by decide) (show 1<10 by decide) (by decide)) ?_
  refine .step (Y6 (b1:=0) (b2:=4) (i:=0) (by omega) (by decide) (show 0<10 by decide) (by decide)) ?_
  exact Qf1
 have r2:∀(a b c e:Int),z101.l0 5 (7-5) (m,wr .i64 ((((7-5):Nat):Int)-(1:Int)),[a,b,c,e,45,48,48,45,48,48])=some (m/10/10,-1,[a,b,c,e,45,48+m/10%10,48+m%10,45,48,48]):=λa b c e=>by
  rw [show wr .i64 ((((7-5):Nat):Int)-(1:Int))=1 by decide]
  refine Runs.lfp ?_
  refine .step (Y6 (b1:=5) (b2:=2) (i:=1) (by omega) (by decide) (show 6<10 by decide) (by decide)) ?_
  refine .step (Y6 (b1:=5) (b2:=2) (i:=0) (by omega) (by decide) (show 5<10 by decide) (by decide)) ?_
  exact Qf1
 have r3:∀(a b c e f g:Int),z101.l0 8 ([a,b,c,e,45,f,g,45,48,48].length-8) (d,wr .i64 ((((([a,b,c,e,45,f,g,45,48,48]:J0).length-8):Nat):Int)-(1:Int)),[a,b,c,e,45,f,g,45,48,48])=some (d/10/10,-1,[a,b,c,e,45,f,g,45,48+d/10%10,48+d%10]):=λa b c e f g=>by
  show z101.l0 8 2 (d,wr .i64 (((2:Nat):Int)-1),_)=_
  rw [show wr .i64 (((2:Nat):Int)-(1:Int))=1 by decide]
  refine Runs.lfp ?_
  refine .step (Y6 (b1:=8) (b2:=2) (i:=1) (by omega) (by decide) (show 9<10 by decide) (by decide)) ?_
  refine .step (Y6 (b1:=8) (b2:=2) (i:=0) (by omega) (by decide) (show 8<10 by decide) (by decide)) ?_
  exact Qf1
 unfold z101.F
 rw [date_Check,if_pos h,Zb]
 rw [show (!decide ((0:Int)=0))=false from rfl]
 simp only [Zc]
 rw [if_pos (by decide),r1,Zb]
 simp only
 rw [if_pos (by simp only [Z6,Z23];decide),r2,Zb]
 simp only
 rw [if_pos (by simp only [Z6,Z23];decide),r3,Zb]
 rfl
def Wv (k:Int):J1:=Wm.getD k.toNat []
def vtxt (e:Evt):J1:=if e.k=2\/e.v=kDue then e.v else decTxt (mWhole e.v).1.natAbs 2
def etxt (e:Evt):J1:=Wv e.k++32::dtxt e.y e.m e.d++(if e.k=3 then [] else 32::vtxt e)++[59,10]
structure Wa (e:Evt):Prop where
 k:0<=e.k/\e.k<=3
 d:right e.y e.m e.d
 v:mVal e.k e.v=0
 l:e.v.length<=4096
def Seq:Int->Int->Int->List Evt->Prop
 |_,_,_,[]=>True
 |y,m,d,e::t=>¬dcmp e.y e.m e.d y m d<0/\Wa e/\Seq e.y e.m e.d t
theorem Qdl {v:J1} (h:Jx v=0):(mWhole v).2=0/\0<(mWhole v).1/\(mWhole v).1<=10^30:=by
 have e:mMoney v=if (mWhole v).2≠0 then (0,(mWhole v).2) else if (mWhole v).1<0\/10^30<(mWhole v).1 then (0,19) else ((mWhole v).1,0):=rfl
 unfold Jx at h
 by_cases h1:(mWhole v).2=0
 ·rw [if_neg (λhh=>hh h1)] at e
  by_cases h2:(mWhole v).1<0\/10^30<(mWhole v).1
  ·rw [if_pos h2] at e;rw [e] at h;simp at h
  ·rw [if_neg h2] at e
   rw [e] at h
   by_cases h3:(mWhole v).1=0
   ·simp [h3] at h
   ·exact ⟨h1,by omega,by omega⟩
 ·rw [if_pos h1] at e
  rw [e] at h
  simp [h1] at h
theorem Wa.paid {e:Evt} (h:Wa e) (h2:¬(e.k=2\/e.v=kDue)) (h3:e.k≠3):Jx e.v=0:=by
 have:=h.v
 unfold mVal at this
 rw [if_neg h3,if_neg (λhh=>h2 (.inl hh)),if_neg (λhh=>h2 (.inr hh.2))] at this
 exact this
theorem Qq7 (c:Nat):Lib.repeatL [48] c=List.replicate c 48:=by
 induction c with
 |zero=>rfl
 |succ c ih=>show 48::Lib.repeatL [48] c=_;rw [ih];rfl
theorem dump_Point {n:Nat} (hn:n<=10^30):z103.F (lb (Int.natAbs (n:Int))) (neg (n:Int))=some (decTxt n 2):=by
 have hl:(txt n).length<=31:=Qau (by omega) (by decide)
 have hsz:sz n<=100000000:=Z41 (Q4 (k:=31) (by omega)) (by decide)
 have hp:=Qb2 n 2
 unfold z103.F z52.F z51.F
 rw [Qc (by decide),Zb,show decide ((2:Int)>64)=false from rfl]
 simp only [Zc,Zb]
 have hit:itxt (n:Int)=txt n:=by unfold itxt;rw [if_neg (by omega)];rfl
 have hcut:cutNeg (txt n)=(txt n,false):=Qfg (J5 n)
 have key:z102.F (lb (Int.natAbs (n:Int))) (neg (n:Int)) 2=some (decTxt n 2):=by
  unfold z102.F
  rw [Qjj (by exact hsz),Zb,Qgl,Zb,hit,hcut]
  simp only
  have e1:wr .i64 ((2:Int)+1)=3:=by decide
  rw [e1,Qj (n:=3-((txt n).length:Int)) (by omega) (by omega)]
  have e2:z5.F [48] (if 3-((txt n).length:Int)>0 then 3-((txt n).length:Int) else 0)=some (List.replicate (2+1-(txt n).length) 48):=by
   unfold z5.F
   have:(if 3-((txt n).length:Int)>0 then 3-((txt n).length:Int) else 0)=((2+1-(txt n).length:Nat):Int):=by split<;>omega
   rw [this,if_pos (by simp only [Z19];omega),Zi,Qq7]
  rw [e2,Zb,show List.replicate (2+1-(txt n).length) 48++txt n=padded n 2 from rfl]
  have e3:wr .i64 (((padded n 2).length:Int)-2)=(((padded n 2).length-2:Nat):Int):=by rw [Qj (by omega) (by omega)];omega
  rw [e3,Zi]
  have lt:((padded n 2).take ((padded n 2).length-2)).length<=100:=by rw [Z14];omega
  have ld:((padded n 2).drop ((padded n 2).length-2)).length<=100:=by rw [Z17];omega
  rw [if_pos (by rw [List.length_replicate];omega),bif_t (by decide),if_pos (by omega),if_pos (by simp only [Z19];omega),if_pos (by omega),if_pos (by rw [Z8];simp only [Z19];omega)]
  unfold z102.j4
  simp only [Zc,List.append_assoc]
  rfl
 rw [key];rfl
theorem Qhh {e:Evt} (h:Wa e) (h3:e.k≠3):(vtxt e).length<=4096:=by
 unfold vtxt
 split
 ·exact h.l
 ·rename_i h2
  obtain ⟨_,p1,p2⟩:=Qdl (h.paid h2 h3)
  have hl:(txt (mWhole e.v).1.natAbs).length<=31:=Qau (by omega) (by decide)
  have hp:=Qb2 (mWhole e.v).1.natAbs 2
  unfold decTxt
  rw [Z8,Z6,Z14,Z17]
  omega
theorem Qgp {k:Int} (hk:0<=k/\k<=3):(Wv k).length<=6:=by
 have:k=0\/k=1\/k=2\/k=3:=by omega
 rcases this with rfl|rfl|rfl|rfl<;>decide
theorem Qhu {e:Evt} (h:Wa e):0<(etxt e).length/\(etxt e).length<=5000:=by
 have h1:=Qgp h.k
 have h2:(dtxt e.y e.m e.d).length=10:=rfl
 unfold etxt
 by_cases h3:e.k=3
 ·rw [if_pos h3];simp only [Z8,Z6,Z23];omega
 ·have:=Qhh h h3
  rw [if_neg h3];simp only [Z8,Z6,Z23];omega
theorem Qpv (a b:J1):Lib.join [a,b] [32]=a++32::b:=by
 unfold Lib.join;simp [List.intercalate]
theorem Qqj (a b c:J1):Lib.join [a,b,c] [32]=a++32::b++32::c:=by
 unfold Lib.join;simp [List.intercalate]
theorem script_text {e:Evt} (h:Wa e):z104.F e.k e.y e.m e.d e.v=some (etxt e):=by
 have hk:=h.k
 have h1:=Qgp h.k
 have h2:(dtxt e.y e.m e.d).length=10:=rfl
 have hw:Wm.getD e.k.toNat []=Wv e.k:=rfl
 have last:∀V:J1,V.length<=4096->(if (([Wm.getD e.k.toNat [],dtxt e.y e.m e.d]:List J1).length+([V]:List J1).length)*16<=140737488355328 then ((z6.F ([Wm.getD e.k.toNat [],dtxt e.y e.m e.d]++[V]) ([32]:J1)).bind λr7=>(if r7.length+([59,10]:J1).length<=9223372036854775807 then (some (r7++([59,10]:J1))) else none)) else none)=some (Wv e.k++32::dtxt e.y e.m e.d++32::V++[59,10]):=λV hV=>by
  rw [if_pos (by show (2+1)*16<=_;decide),hw]
  unfold z6.F
  rw [show [Wv e.k,dtxt e.y e.m e.d]++[V]=[Wv e.k,dtxt e.y e.m e.d,V] from rfl,Qqj]
  rw [if_pos ⟨by show 3<=_;decide,by simp only [Z8,Z6];omega⟩,Zb,if_pos (by simp only [Z8,Z6,Z23];omega)]
 unfold z104.F
 rw [date_Print h.d,Zb,show z76.F=some Wm from rfl,Zb,if_pos (by show 0<=e.k/\e.k<((4:Nat):Int);omega)]
 simp only
 unfold etxt
 by_cases h3:e.k=3
 ·rw [bif_t h3,if_pos h3,hw]
  unfold z6.F
  rw [Qpv,if_pos ⟨by show 2<=_;decide,by simp only [Z8,Z6];omega⟩,Zb,if_pos (by simp only [Z8,Z6,Z23];omega)]
  simp
 ·rw [Qc h3,if_neg h3]
  have hv:=Qhh h h3
  unfold vtxt at hv ⊢
  by_cases h4:e.k=2
  ·rw [bif_t h4]
   rw [if_pos (show e.k=2\/e.v=kDue from .inl h4)] at hv ⊢
   unfold z104.j3
   simp only [Zd]
   exact last _ hv
  ·rw [Qc h4]
   unfold z104.j3
   by_cases h5:e.v=kDue
   ·rw [Zt (show e.v=[100,117,101] from h5)]
    rw [if_pos (show e.k=2\/e.v=kDue from .inr h5)] at hv ⊢
    simp only [Zd]
    exact last _ hv
   ·rw [Zf (show ¬e.v=[100,117,101] from h5)]
    have h6:¬(e.k=2\/e.v=kDue):=λhh=>hh.elim h4 h5
    rw [if_neg h6] at hv ⊢
    simp only [Zc]
    obtain ⟨p0,p1,p2⟩:=Qdl (h.paid h6 h3)
    have hn:((mWhole e.v).1.natAbs:Int)=(mWhole e.v).1:=by omega
    rw [whole_Parse,Zb]
    have hp:=dump_Point (n:=(mWhole e.v).1.natAbs) (by omega)
    rw [hn] at hp
    rw [hp,Zb]
    exact last _ hv
theorem script_wrong {e:Evt} (h:Wa e) {y m d:Int} (hs:¬dcmp e.y e.m e.d y m d<0):z99.F e.k e.y e.m e.d e.v y m d=some 0:=by
 have hk:=h.k
 unfold z99.F
 rw [Qc (by omega),Zf (by omega)]
 unfold z99.j1
 simp only [Zc]
 rw [date_Check,if_pos h.d,Zb,show (!decide ((0:Int)=0))=false from rfl]
 simp only [Zc]
 rw [date_Cmp,Zb,Qc hs,script_value hk,h.v];rfl
theorem eK {R:Type} (t:Evt) (K:Int->Option R):V.asInt .i64 ((Evt.r t).getD 0 .undef) K=K t.k:=rfl
theorem eY {R:Type} (t:Evt) (K:Int->Option R):V.asInt .i64 ((Evt.r t).getD 1 .undef) K=K t.y:=rfl
theorem eM {R:Type} (t:Evt) (K:Int->Option R):V.asInt .i64 ((Evt.r t).getD 2 .undef) K=K t.m:=rfl
theorem eD {R:Type} (t:Evt) (K:Int->Option R):V.asInt .i64 ((Evt.r t).getD 3 .undef) K=K t.d:=rfl
theorem eV {R:Type} (t:Evt) (K:J1->Option R):V.asStr ((Evt.r t).getD 4 .undef) K=K t.v:=rfl
theorem Qb6 {L:List Evt} {i:Nat} (h:i<L.length):(L.map Evt.r).getD i []=Evt.r L[i]:=by
 rw [Zl,Z74,Z1 h];rfl
theorem Qkd {L:List Evt} (hL:L.length<=10000):∀(f i:Nat) (y m d:Int),i+f=L.length->Seq y m d (L.drop i)->∃x,Runs (λrec x=>z100.l0P (L.map Evt.r) (L.length:Int) rec some x) ((i:Int),y,m,d) (.inl x)
 |
  0,i,y,m,d,h,_=>by
  refine ⟨((i:Int),y,m,d),.done λrec=>?_⟩
  unfold z100.l0P
  simp only
  rw [Qc (by omega)]
 |
  f+1,i,y,m,d,h,hs=>by
  have hi:i<L.length:=by omega
  rw [Z40 hi] at hs
  obtain ⟨s1,s2,s3⟩:=hs
  obtain ⟨x,hx⟩:=Qkd hL f (i+1) _ _ _ (by omega) s3
  refine ⟨x,.step (λrec=>?_) hx⟩
  have l2:(L.map Evt.r).length=L.length:=by simp
  unfold z100.l0P
  simp only
  rw [bif_t (by omega),if_pos (by omega),Zi,Qb6 hi]
  simp only [eK,eY,eM,eD,eV]
  rw [script_wrong s2 s1,Zb,Qj (by omega) (by omega)];rfl
theorem script_Check {L:List Evt} (hL:L.length<=10000) (hs:Seq 0 0 0 L):z100.F (L.map Evt.r)=some (0,0):=by
 have l2:(L.map Evt.r).length=L.length:=by simp
 obtain ⟨x,hx⟩:=Qkd hL L.length 0 0 0 0 (by omega) hs
 have e:z100.l0 (L.map Evt.r) (L.length:Int) (0,0,0,0)=some (.inl x):=hx.lfp
 unfold z100.F
 rw [l2,Qc (by omega),e];rfl
def stxt (L:List Evt):J1:=(L.map etxt).flatten
theorem Qbm (e:Evt) (t:List Evt):stxt (e::t)=etxt e++stxt t:=by simp [stxt]
def Wf (s:J1):J0:=s.map λc=>(c.toNat:Int)
theorem Qol (s:J1):(Wf s).map (λn=>UInt8.ofNat n.toNat)=s:=by
 unfold Wf
 rw [List.map_map]
 refine (Z67 λb _=>?_).trans (List.map_id s)
 show UInt8.ofNat ((b.toNat:Int)).toNat=b
 simp
theorem Qmg (s:J1):(Wf s).all Ys=true:=by
 unfold Wf
 rw [Z9]
 intro n hn
 obtain ⟨b,_,rfl⟩:=List.mem_map.1 hn
 have:=b.toNat_lt
 simp only [Ys,Z3,decide_eq_true_eq]
 omega
theorem Qcn:∀{L:List Evt} {y m d:Int},Seq y m d L->∀e∈L,Wa e
 |[],_,_,_,_,e,he=>by simp at he
 |
  a::t,_,_,_,h,e,he=>by
  rcases Z49.1 he with rfl|he
  ·exact h.2.1
  ·exact Qcn h.2.2 e he
theorem Qko {L:List Evt} (hL:L.length<=10000) (hok:∀e∈L,Wa e):∀(f i:Nat) (T:J1),i+f=L.length->T.length<=5000*i->Runs (λrec x=>z105.l0P (L.map Evt.r) (L.length:Int) rec some x) ((i:Int),Wf T) ((L.length:Int),Wf (T++stxt (L.drop i)))
 |
  0,i,T,h,hT=>by
  refine .done λrec=>?_
  unfold z105.l0P
  simp only
  rw [Qc (by omega),List.drop_of_length_le (by omega),show (i:Int)=(L.length:Int) by omega]
  simp [stxt]
 |
  f+1,i,T,h,hT=>by
  have hi:i<L.length:=by omega
  have ho:=hok L[i] (Z10 hi)
  have hl:=Qhu ho
  have l2:(L.map Evt.r).length=L.length:=by simp
  have ih:=Qko hL hok f (i+1) (T++etxt L[i]) (by omega) (by rw [Z8];omega)
  have e:T++etxt L[i]++stxt (L.drop (i+1))=T++stxt (L.drop i):=by
   rw [Z40 hi,Qbm,List.append_assoc]
  rw [e] at ih
  refine .step (λrec=>?_) ih
  unfold z105.l0P
  simp only
  rw [bif_t (by omega),if_pos (by omega),Zi,Qb6 hi]
  simp only [eK,eY,eM,eD,eV]
  rw [script_text ho,Zb,if_pos (by unfold Wf;rw [Z33,Z33];omega),Qj (by omega) (by omega)]
  unfold Wf
  rw [List.map_append];rfl
theorem script_Print_nil:z105.F ([]:J2)=some ([],0):=by
 unfold z105.F
 have h:=script_Check (L:=[]) (by decide) trivial
 rw [List.map_nil] at h
 rw [h,Zb,show (!decide ((0:Int)=0))=false from rfl]
 simp only [Zc]
 rw [Qc (by decide)];rfl
theorem script_Print {L:List Evt} (hL:L.length<=10000) (hne:L≠[]) (hs:Seq 0 0 0 L):z105.F (L.map Evt.r)=some (stxt L,0):=by
 have hpos:=Z26.2 hne
 have hok:=Qcn hs
 have ho:=hok L[0] (Z10 hpos)
 have hl:=Qhu ho
 have l2:(L.map Evt.r).length=L.length:=by simp
 have r:=Qko hL hok (L.length-1) 1 (etxt L[0]) (by omega) (by omega)
 have e1:etxt L[0]++stxt (L.drop 1)=stxt L:=by
  conv=>rhs;rw [<-Z76 (l:=L),Z40 hpos,Qbm]
 rw [e1] at r
 have e:z105.l0 (L.map Evt.r) (L.length:Int) (1,Wf (etxt L[0]))=some ((L.length:Int),Wf (stxt L)):=r.lfp
 have hsl:0<(Wf (stxt L)).length:=by unfold Wf;rw [Z33,<-e1,Z8];omega
 unfold z105.F
 rw [script_Check hL hs,Zb,show (!decide ((0:Int)=0))=false from rfl]
 simp only [Zc]
 rw [l2,bif_t (by omega),if_pos (by omega),Qb6 hpos]
 simp only [eK,eY,eM,eD,eV]
 rw [script_text ho,Zb]
 change (if (([]:J0).length+(Wf (etxt L[0])).length)*1<=140737488355328 then ((z105.l0 (L.map Evt.r) (L.length:Int) (1,[]++Wf (etxt L[0]))).bind _) else none)=_
 rw [if_pos (by unfold Wf;rw [Z33];simp only [Z23];omega),List.nil_append,e,Zb]
 simp only
 rw [if_pos hsl,if_pos ⟨trivial,hsl,Qmg _⟩,Qol]
def lxF (N:Nat):Nat->J1->List Tk×Int×Int
 |0,_=>([],0,0)
 |
  f+1,r=>if r=[] then ([],0,0) else
  if (tokOf r).2.2=0 then
   if (lxF N f (skp false (r.drop (tokOf r).2.1.length))).2.2=0 then (⟨(tokOf r).1,(tokOf r).2.1,(N:Int)-r.length⟩::(lxF N f (skp false (r.drop (tokOf r).2.1.length))).1,0,0) else ([],(lxF N f (skp false (r.drop (tokOf r).2.1.length))).2.1,(lxF N f (skp false (r.drop (tokOf r).2.1.length))).2.2)
  else ([],(N:Int)-r.length,(tokOf r).2.2)
theorem Qnz (N:Nat):∀(f:Nat) (r:J1),r.length<=f->lxF N f r=lx N r:=by
 intro f
 induction f with
 |
  zero=>
  intro r h
  have:r=[]:=Z7 (by omega)
  subst this
  rw [lx_nil];rfl
 |
  succ f ih=>
  intro r h
  rw [lxF]
  by_cases hr:r=[]
  ·rw [if_pos hr,hr,lx_nil]
  ·rw [if_neg hr]
   by_cases he:(tokOf r).2.2=0
   ·obtain ⟨l1,l2⟩:=Qaj hr he
    have h4:=Wg false (r.drop (tokOf r).2.1.length)
    rw [Z17] at h4
    rw [if_pos he,Y5 hr he,ih _ (by omega)]
   ·rw [if_neg he,Jt hr he]
def Qlg (s:J1):List Evt×Int×Int:=
 if (lxF s.length s.length (skp false s)).2.2≠0 then ([],(lxF s.length s.length (skp false s)).2.1,(lxF s.length s.length (skp false s)).2.2) else mEvents (s.length:Int) (lxF s.length s.length (skp false s)).1.length (lxF s.length s.length (skp false s)).1 0 0 0 []
theorem Qh4 (s:J1):Qlg s=mParse s:=by
 unfold Qlg mParse lexOf
 rw [Qnz _ _ _ (Wg false s)]
def wkA:J1:=[112,97,121,32,50,48,50,52,45,48,50,45,48,49,32,100,117,101,59,32,114,101,115,101,116,32,50,48,50,52,45,48,51,45,49,53,32,53,46,53,59]
def wkB:J1:=[112,97,115,115,32,50,48,50,52,45,48,50,45,48,49,59,32,112,97,115,115,32,50,48,50,52,45,48,49,45,48,49,59]
def wkL:List Evt:=[⟨0,2024,2,1,kDue⟩,⟨2,2024,3,15,[53,46,53]⟩]
theorem wk1:mParse wkA=(wkL,0,0):=by rw [<-Qh4];decide +kernel
theorem wk2:mParse wkB=([],22,12):=by rw [<-Qh4];decide +kernel
theorem Ql1:Seq 0 0 0 wkL:=by
 refine ⟨by decide +kernel,⟨by decide,by decide +kernel,by decide +kernel,by decide⟩,by decide +kernel,⟨by decide,by decide +kernel,by decide +kernel,by decide⟩,trivial⟩
theorem wkT:stxt wkL=[112,97,121,32,50,48,50,52,45,48,50,45,48,49,32,100,117,101,59,10,114,101,115,101,116,32,50,48,50,52,45,48,51,45,49,53,32,53,46,53,59,10]:=by decide +kernel
theorem Qiv:z106.F=some true:=by
 unfold z106.F
 have e1:z97.F wkA=some (encM (wkL,0,0)):=by rw [script_Parse (by decide),wk1]
 have e2:z97.F wkB=some (encM ([],22,12)):=by rw [script_Parse (by decide),wk2]
 have e3:z105.F (wkL.map Evt.r)=some (stxt wkL,0):=script_Print (by decide) (by decide) Ql1
 change ((z97.F wkA).bind _)=_
 rw [e1,Zb]
 change ((z105.F (wkL.map Evt.r)).bind _)=_
 rw [e3,Zb]
 change ((z97.F wkB).bind _)=_
 rw [e2,Zb,wkT]
 rfl
theorem Qhs (L:List Evt) (hL:L.length<=1000000):∀(f i:Nat),i+f=L.length->∃x,Runs (λrec x=>z107.l0P (L.map Evt.r) (L.map Evt.r) (L.length:Int) rec some x) (i:Int) (.inl x)
 |
  0,i,h=>by
  refine ⟨(i:Int),.done λrec=>?_⟩
  unfold z107.l0P
  rw [Qc (by omega)]
 |
  f+1,i,h=>by
  have hi:i<L.length:=by omega
  obtain ⟨x,hx⟩:=Qhs L hL f (i+1) (by omega)
  refine ⟨x,.step (λrec=>?_) hx⟩
  have l2:(L.map Evt.r).length=L.length:=by simp
  have c:(0:Int)<=(i:Int)/\(i:Int)<((L.map Evt.r).length:Int):=by omega
  unfold z107.l0P
  rw [bif_t (by omega),if_pos c,Zi,Qb6 hi]
  simp only [eK,eY,eM,eD,eV,if_pos c,decide_true,Bool.and_self,Zn,Zc]
  rw [Qj (by omega) (by omega)];rfl
theorem Qn7 (L:List Evt) (hL:L.length<=1000000):z107.F (L.map Evt.r) (L.map Evt.r)=some true:=by
 have l2:(L.map Evt.r).length=L.length:=by simp
 obtain ⟨x,hx⟩:=Qhs L hL L.length 0 (by omega)
 have e:z107.l0 (L.map Evt.r) (L.map Evt.r) (L.length:Int) 0=some (.inl x):=hx.lfp
 unfold z107.F
 rw [l2,Zt (show ((L.length:Nat):Int)=(L.length:Nat) from rfl),e];rfl
theorem Qpr (s:J1):((0:Int)<=(if (800:Int)<(s.length:Int) then (800:Int) else (s.length:Int))/\(if (800:Int)<(s.length:Int) then (800:Int) else (s.length:Int))<=(s.length:Int))/\(s.take (if (800:Int)<(s.length:Int) then (800:Int) else (s.length:Int)).toNat).length<=800:=by
 by_cases h:(800:Int)<(s.length:Int)
 ·rw [if_pos h];exact ⟨by omega,by rw [Z14];omega⟩
 ·rw [if_neg h];exact ⟨by omega,by rw [Z14];omega⟩
structure NumTok (v:List UInt8):Prop where
 hd:∃b t,v=b::t/\ltr b=false/\(dgt b||decide (b.toNat=45))=true
 all:∀x∈v,nmr x=true
 dtd:dtd v=false
 dec:(mDec v).2.2=0
structure Can (e:Evt):Prop where
 rate:e.k=2->NumTok e.v
 paid:e.k<2->(e.v=kDue/\e.k=0)\/∃n:Nat,0<n/\n<=10^30/\e.v=txt n
 len:e.v.length<=800
theorem Qkb {p:UInt8->Bool}:∀(l:J1),∀x∈l.takeWhile p,p x=true
 |[],x,hx=>by simp at hx
 |
  b::t,x,hx=>by
  by_cases hb:p b=true
  ·rw [Z62 hb] at hx
   rcases Z49.1 hx with rfl|hx
   ·exact hb
   ·exact Qkb t x hx
  ·rw [List.takeWhile_cons_of_neg hb] at hx;simp at hx
theorem Qnm {r:J1} (hr:r≠[]) (h1:(tokOf r).1=1):NumTok (tokOf r).2.1:=by
 cases r with
 |nil=>exact (hr rfl).elim
 |
  cons b t=>
  unfold tokOf at h1 ⊢
  simp only [Z75] at h1 ⊢
  by_cases hl:ltr b=true
  ·rw [if_pos hl] at h1;simp at h1
  ·rw [if_neg hl] at h1 ⊢
   by_cases hd:(dgt b||decide (b.toNat=45))=true
   ·rw [if_pos hd] at h1 ⊢
    have hn:nmr b=true:=by simp only [nmr,hd,Bool.true_or]
    by_cases h3:dtd (List.takeWhile nmr (b::t))=true
    ·rw [if_pos h3] at h1;simp at h1
    ·rw [if_neg h3] at h1 ⊢
     by_cases h4:(mDec (List.takeWhile nmr (b::t))).2.2=0
     ·rw [if_pos h4]
      exact ⟨⟨b,t.takeWhile nmr,Z62 hn,by simpa using hl,hd⟩,Qkb _,by simpa using h3,h4⟩
     ·rw [if_neg h4] at h1;simp at h1
   ·rw [if_neg hd] at h1
    split at h1<;>simp at h1
theorem lx_num (N:Nat):∀(n:Nat) (r:J1),r.length<=n->∀t∈(lx N r).1,t.k=1->NumTok t.s:=by
 intro n
 induction n with
 |
  zero=>
  intro r hn
  have:r=[]:=Z7 (by omega)
  subst this
  rw [lx_nil];intro t h;simp at h
 |
  succ n ih=>
  intro r hn
  by_cases hr:r=[]
  ·subst hr;rw [lx_nil];intro t h;simp at h
  by_cases he:(tokOf r).2.2=0
  ·obtain ⟨l1,l2⟩:=Qaj hr he
   have h4:=Wg false (r.drop (tokOf r).2.1.length)
   rw [Z17] at h4
   rw [Y5 hr he]
   split
   ·intro t ht
    rcases Z49.1 ht with rfl|ht
    ·exact λh=>Qnm hr h
    ·exact ih _ (by omega) t ht
   ·intro t h;simp at h
  ·rw [Jt hr he];intro t h;simp at h
theorem Qq5 (N:Nat):∀(n:Nat) (r:J1),r.length<=n->r.length<=N->(lx N r).2.2≠0->0<=(lx N r).2.1/\(lx N r).2.1<=N:=by
 intro n
 induction n with
 |
  zero=>
  intro r hn hN
  have:r=[]:=Z7 (by omega)
  subst this
  rw [lx_nil];intro h;exact (h rfl).elim
 |
  succ n ih=>
  intro r hn hN
  by_cases hr:r=[]
  ·subst hr;rw [lx_nil];intro h;exact (h rfl).elim
  by_cases he:(tokOf r).2.2=0
  ·obtain ⟨l1,l2⟩:=Qaj hr he
   have h4:=Wg false (r.drop (tokOf r).2.1.length)
   rw [Z17] at h4
   rw [Y5 hr he]
   split
   ·intro h;exact (h rfl).elim
   ·intro h;exact ih _ (by omega) (by omega) h
  ·rw [Jt hr he];intro _;exact ⟨by show 0<=(N:Int)-r.length;omega,by show (N:Int)-r.length<=N;omega⟩
theorem Qmc {z:Int} (h:Jx (itxt z)=0):∃n:Nat,0<n/\n<=10^30/\itxt z=txt n:=by
 obtain ⟨p0,p1,p2⟩:=Qdl h
 by_cases hz:z<0
 ·have e:itxt z=45::txt z.natAbs:=by unfold itxt;rw [if_pos hz]
  have hc:cutNeg (itxt z)=(txt z.natAbs,true):=by rw [e];rfl
  exfalso
  unfold mWhole at p0 p1
  rw [hc] at p0 p1
  simp only [Z68,if_true] at p0 p1
  by_cases h1:(mDigits (txt z.natAbs)).2=0
  ·rw [if_neg (λhh=>hh h1)] at p0 p1
   by_cases h2:(mDigits (txt z.natAbs)).1=0
   ·rw [if_pos (by simpa using h2)] at p1;simp at p1
   ·rw [if_neg (by simpa using h2)] at p1
    simp only at p1;omega
  ·rw [if_pos h1] at p1;simp at p1
 ·have e:itxt z=txt z.natAbs:=by unfold itxt;rw [if_neg hz]
  rw [e] at p0 p1 p2 ⊢
  by_cases hl:(txt z.natAbs).length<=4096
  ·rw [Qji hl] at p1 p2
   exact ⟨z.natAbs,by simp only at p1;omega,by simp only at p2;have:((z.natAbs:Nat):Int)<=((10^30:Nat):Int):=p2;omega,rfl⟩
  ·exfalso
   unfold mWhole at p0
   rw [Qfg (J5 _)] at p0
   have:(mDigits (txt z.natAbs)).2=7:=by unfold mDigits;rw [if_pos (by omega)]
   simp only [this] at p0
   simp at p0
theorem Qqk {k:Int} (hk:0<=k/\k<3) {t:Tk} (ht:t.k=1->NumTok t.s) (hl:t.s.length<=800) (h:(mWorth k t).1=0) (y m d:Int):Can ⟨k,y,m,d,(mWorth k t).2⟩/\mVal k (mWorth k t).2=0:=by
 unfold mWorth at h ⊢
 by_cases h0:t.k=0/\k=0
 ·rw [if_pos h0] at h ⊢
  by_cases hd:t.s=kDue
  ·rw [if_pos hd]
   refine ⟨⟨λh=>by simp only at h;omega,λ_=>.inl ⟨rfl,h0.2⟩,by show kDue.length<=800;decide⟩,?_⟩
   unfold mVal;rw [if_neg (by omega),if_neg (by omega),if_pos ⟨h0.2,rfl⟩]
  ·rw [if_neg hd] at h;simp at h
 ·rw [if_neg h0] at h ⊢
  by_cases h1:t.k=1
  ·rw [if_neg (λhh=>hh h1)] at h ⊢
   by_cases h2:k=2
   ·rw [if_pos h2] at h ⊢
    exact ⟨⟨λ_=>ht h1,λh=>by simp only at h;omega,hl⟩,by rw [h2];exact h⟩
   ·rw [if_neg h2] at h ⊢
    by_cases h3:(mDec t.s).2.2=0
    ·rw [if_neg (λhh=>hh h3)] at h ⊢
     by_cases h4:(mDec t.s).2.1=2
     ·rw [if_neg (λhh=>hh h4)] at h ⊢
      simp only at h ⊢
      have hv:=h
      unfold mVal at hv
      rw [if_neg (by omega),if_neg h2] at hv
      by_cases h5:k=0/\itxt (mDec t.s).1=kDue
      ·refine ⟨⟨λh=>(h2 h).elim,λ_=>.inl ⟨h5.2,h5.1⟩,?_⟩,h⟩
       show (itxt (mDec t.s).1).length<=800
       rw [h5.2];decide
      ·rw [if_neg h5] at hv
       obtain ⟨n,n1,n2,n3⟩:=Qmc hv
       refine ⟨⟨λh=>(h2 h).elim,λ_=>.inr ⟨n,n1,n2,n3⟩,?_⟩,h⟩
       show (itxt (mDec t.s).1).length<=800
       rw [n3]
       have:(txt n).length<=31:=Qau (by omega) (by decide)
       omega
     ·rw [if_pos h4] at h;simp at h
    ·rw [if_pos h3] at h;exact (h3 h).elim
  ·rw [if_pos h1] at h;simp at h
theorem Qst {s:J1} (h:(mDate s).2.2.2=0):right (mDate s).1 (mDate s).2.1 (mDate s).2.2.1:=by
 unfold mDate at h ⊢
 split
 ·assumption
 ·rename_i hn;rw [if_neg hn] at h;simp at h
structure J7 (N:Nat) (t:Tk):Prop where
 num:t.k=1->NumTok t.s
 len:t.s.length<=800
 pl:0<=t.p/\t.p<=N
theorem Qdz {N:Nat} {l:List Tk} (h:∀t∈l,J7 N t):J7 N (hd N l):=by
 cases l with
 |nil=>exact ⟨λh=>by simp [hd] at h,by simp [hd],by show (0:Int)<=N;omega,Int.le_refl _⟩
 |cons t u=>exact h t (by simp)
theorem Qaq {N:Nat} {l:List Tk} (h:∀t∈l,J7 N t):∀t∈l.tail,J7 N t:=λt ht=>h t (List.mem_of_mem_tail ht)
def Qsn (N:Nat) (y m d:Int):(Int×Int)⊕(Evt×List Tk)->Prop
 |.inl e=>e.1≠0/\0<=e.2/\e.2<=N
 |.inr r=>¬dcmp r.1.y r.1.m r.1.d y m d<0/\Wa r.1/\Can r.1
theorem Qsk {N:Nat} {l:List Tk} (h:∀t∈l,J7 N t) (y m d:Int):Qsn N y m d (mEvent N l y m d):=by
 have o0:=Qdz h
 have o1:=Qdz (Qaq h)
 have o2:=Qdz (Qaq (Qaq h))
 have o3:=Qdz (Qaq (Qaq (Qaq h)))
 unfold mEvent
 split
 ·exact ⟨by simp,o0.pl⟩
 split
 ·exact ⟨by simp,o0.pl⟩
 rename_i hk
 have hkr:=Qjb (hd N l).s
 split
 ·exact ⟨by simp,o1.pl⟩
 split
 ·rename_i hd;exact ⟨hd,o1.pl⟩
 rename_i hdt
 have hdt':(mDate (hd N l.tail).s).2.2.2=0:=Classical.byContradiction hdt
 have hr:=Qst hdt'
 split
 ·exact ⟨by simp,o1.pl⟩
 rename_i hcm
 split
 ·rename_i h3
  unfold mFin
  split
  ·refine ⟨hcm,⟨by show 0<=kindOf _/\kindOf _<=3;omega,hr,?_,by show 0<=4096;decide⟩,⟨λh=>?_,λh=>?_,by show 0<=800;decide⟩⟩
   ·show mVal (kindOf _) []=0
    rw [h3];rfl
   ·simp only at h;omega
   ·simp only at h;omega
  ·exact ⟨by simp,o2.pl⟩
 ·rename_i h3
  split
  ·rename_i hw;exact ⟨hw,o2.pl⟩
  ·rename_i hw
   have hw':(mWorth (kindOf (hd N l).s) (hd N l.tail.tail)).1=0:=Classical.byContradiction hw
   obtain ⟨c1,c2⟩:=Qqk (by omega) o2.num o2.len hw' (mDate (hd N l.tail).s).1 (mDate (hd N l.tail).s).2.1 (mDate (hd N l.tail).s).2.2.1
   unfold mFin
   split
   ·have:=c1.len
    exact ⟨hcm,⟨by show 0<=kindOf _/\kindOf _<=3;omega,hr,c2,Z41 this (by decide)⟩,c1⟩
   ·exact ⟨by simp,o3.pl⟩
theorem events_can (N:Nat):∀(n:Nat) (l:List Tk) (y m d:Int) (acc:List Evt),l.length<=n->(∀t∈l,J7 N t) ->
  ((mEvents N n l y m d acc).2.2=0/\(mEvents N n l y m d acc).2.1=0/\∃L,(mEvents N n l y m d acc).1=acc++L/\Seq y m d L/\(∀e∈L,Can e)/\3*L.length<=l.length) \/
  ((mEvents N n l y m d acc).2.2≠0/\(mEvents N n l y m d acc).1=[]/\0<=(mEvents N n l y m d acc).2.1/\(mEvents N n l y m d acc).2.1<=N):=by
 intro n
 induction n with
 |zero=>intro l y m d acc _ _;exact .inl ⟨rfl,rfl,[],by simp [mEvents],trivial,by simp,by simp⟩
 |
  succ n ih=>
  intro l y m d acc hn h
  rw [mEvents]
  by_cases hnil:l=[]
  ·rw [if_pos hnil];exact .inl ⟨rfl,rfl,[],by simp,trivial,by simp,by simp⟩
  ·rw [if_neg hnil]
   have hc:=Qsk h y m d
   cases he:mEvent N l y m d with
   |
    inl e=>
    rw [he] at hc
    exact .inr ⟨hc.1,rfl,hc.2⟩
   |
    inr r=>
    rw [he] at hc
    obtain ⟨c1,c2,c3⟩:=hc
    obtain ⟨h1,h2,k,_,h3⟩:=Qjv he
    simp only
    rcases ih r.2 r.1.y r.1.m r.1.d (acc++[r.1]) (by omega) (λt ht=>h t (by rw [h3] at ht;exact Z72 ht)) with ⟨i1,i2,L,i3,i4,i5,i6⟩|i
    ·refine .inl ⟨i1,i2,r.1::L,by rw [i3];simp,⟨c1,c2,i4⟩,λe he=>?_,by rw [Z6];omega⟩
     rcases Z49.1 he with rfl|he
     ·exact c3
     ·exact i5 e he
    ·exact .inr i
theorem parse_can {s:J1} (hs:s.length<=800) :
  ((mParse s).2.2=0/\(mParse s).2.1=0/\Seq 0 0 0 (mParse s).1/\(∀e∈(mParse s).1,Can e)/\3*(mParse s).1.length<=800) \/
  ((mParse s).2.2≠0/\(mParse s).1=[]/\0<=(mParse s).2.1/\(mParse s).2.1<=s.length):=by
 have hsl:=Wg false s
 obtain ⟨h1,h2⟩:=Qd2 s
 unfold mParse
 by_cases he:(lexOf s).2.2=0
 ·rw [if_neg (λh=>h he)]
  rcases events_can s.length (lexOf s).1.length (lexOf s).1 0 0 0 [] (Z5 _) (λt ht=>⟨lx_num s.length (skp false s).length (skp false s) (Z5 _) t ht,by have:=(h2 t ht).2.1;omega,(h2 t ht).2.2⟩) with ⟨i1,i2,L,i3,i4,i5,i6⟩|i
  ·rw [List.nil_append] at i3
   exact .inl ⟨i1,i2,by rw [i3];exact i4,by rw [i3];exact i5,by rw [i3];omega⟩
  ·exact .inr i
 ·rw [if_pos he]
  exact .inr ⟨he,rfl,Qq5 s.length (skp false s).length (skp false s) (Z5 _) hsl he⟩
theorem Qd5 {p:UInt8->Bool} {c:UInt8} (hc:p c=false) (R:J1):∀(T:J1),(∀x∈T,p x=true)->(T++c::R).takeWhile p=T
 |[],_=>List.takeWhile_cons_of_neg (by rw [hc];simp)
 |
  b::t,h=>by
  rw [List.cons_append,Z62 (h b (by simp)),Qd5 hc R t λx hx=>h x (by simp [hx])]
theorem Qd3 {b:UInt8} {t:J1} (hb:ltr b=true) (h:∀x∈b::t,wrd x=true) {c:UInt8} (hc:wrd c=false) (R:J1):tokOf (b::t++c::R)=(0,b::t,0):=by
 unfold tokOf
 rw [show (b::t++c::R).getD 0 0=b from rfl,if_pos hb,Qd5 hc R (b::t) h]
theorem Qhg {b:UInt8} {t:J1} (hb:ltr b=false) (hd:(dgt b||decide (b.toNat=45))=true) (h:∀x∈b::t,nmr x=true) {c:UInt8} (hc:nmr c=false) (R:J1) :
  tokOf (b::t++c::R)=if dtd (b::t) then (2,b::t,0) else if (mDec (b::t)).2.2=0 then (1,b::t,0) else (0,[],5):=by
 unfold tokOf
 rw [show (b::t++c::R).getD 0 0=b from rfl,if_neg (by rw [hb];simp),if_pos hd,Qd5 hc R (b::t) h]
theorem Qpq (R:J1):tokOf (59::R)=(3,[59],0):=by
 unfold tokOf
 rw [show (59::R).getD 0 0=59 from rfl,if_neg (by decide),if_neg (by decide),if_pos (by decide)];rfl
theorem Qaa {N:Nat} {k:Int} {T R:J1} {l:List Tk} (ht:tokOf (T++R)=(k,T,0)) (hne:T≠[]) (hl:lx N (skp false R)=(l,0,0)):∃p,lx N (T++R)=(⟨k,T,p⟩::l,0,0):=by
 have h0:(tokOf (T++R)).2.2=0:=by rw [ht]
 have h1:(tokOf (T++R)).2.1=T:=by rw [ht]
 have h2:(tokOf (T++R)).1=k:=by rw [ht]
 refine ⟨(N:Int)-(T++R).length,?_⟩
 rw [Y5 (by simp [hne]) h0,h1,h2,List.drop_left,hl]
 rfl
theorem Qf6 (R:J1):skp false (32::R)=skp false R:=by rw [skp,if_neg (by decide),if_pos (by decide)]
theorem Qrm (R:J1):skp false (10::R)=skp false R:=by rw [skp,if_neg (by decide),if_pos (by decide)]
theorem Qck {b:UInt8} (h1:b.toNat≠35) (h2:bln b=false) (R:J1):skp false (b::R)=b::R:=by rw [skp,if_neg h1,if_neg (by rw [h2];simp)]
theorem Q6 {v:Int} (hv:0<=v):dgt (cd v)=true:=by
 rw [Qf8,Yt hv];exact Zt (by omega)
theorem Yy {b:UInt8} (h:dgt b=true):nmr b=true:=by simp [nmr,h]
theorem Qg5 {b:UInt8} (h:dgt b=true):ltr b=false:=by
 simp only [dgt,Z3,decide_eq_true_eq] at h
 unfold ltr;rw [Zf (by omega)];rfl
theorem Qq9 {y m d:Int} (hy:0<=y) (hm:0<=m) (hd:0<=d):dtd (dtxt y m d)=true:=by
 have a0:=Q6 (v:=y/10/10/10) (by omega)
 have a1:=Q6 (v:=y/10/10) (by omega)
 have a2:=Q6 (v:=y/10) (by omega)
 have a3:=Q6 (v:=y) hy
 have a5:=Q6 (v:=m/10) (by omega)
 have a6:=Q6 (v:=m) hm
 have a8:=Q6 (v:=d/10) (by omega)
 have a9:=Q6 (v:=d) hd
 have e:∀i,i<10->(if i=4\/i=7 then decide (((dtxt y m d).getD i 0).toNat=45) else dgt ((dtxt y m d).getD i 0))=true:=λi hi=>by
  have:i=0\/i=1\/i=2\/i=3\/i=4\/i=5\/i=6\/i=7\/i=8\/i=9:=by omega
  rcases this with rfl|rfl|rfl|rfl|rfl|rfl|rfl|rfl|rfl|rfl
  ·exact a0
  ·exact a1
  ·exact a2
  ·exact a3
  ·rfl
  ·exact a5
  ·exact a6
  ·rfl
  ·exact a8
  ·exact a9
 unfold dtd
 rw [Z3]
 exact ⟨rfl,Z9.2 λi hi=>e i (by simpa using hi)⟩
theorem Qse {y m d:Int} (h:right y m d):mDate (dtxt y m d)=(y,m,d,0):=by
 obtain ⟨hy,hm1,hm2,hd1,hd2⟩:=Qd0 h
 have e1:tv 0 ((dtxt y m d).take 4)=y:=by
  show 10*(10*(10*(10*0+((cd (y/10/10/10)).toNat:Int)-48)+((cd (y/10/10)).toNat:Int)-48)+((cd (y/10)).toNat:Int)-48)+((cd y).toNat:Int)-48=y
  rw [Yt (by omega),Yt (by omega),Yt (by omega),Yt (by omega)];omega
 have e2:tv 0 (((dtxt y m d).drop 5).take 2)=m:=by
  show 10*(10*0+((cd (m/10)).toNat:Int)-48)+((cd m).toNat:Int)-48=m
  rw [Yt (by omega),Yt (by omega)];omega
 have e3:tv 0 ((dtxt y m d).drop 8)=d:=by
  show 10*(10*0+((cd (d/10)).toNat:Int)-48)+((cd d).toNat:Int)-48=d
  rw [Yt (by omega),Yt (by omega)];omega
 unfold mDate
 rw [e1,e2,e3,if_pos h]
theorem Qj1 {y m d:Int} (h:right y m d) {c:UInt8} (hc:nmr c=false) (R:J1):tokOf (dtxt y m d++c::R)=(2,dtxt y m d,0):=by
 obtain ⟨hy,hm1,hm2,hd1,hd2⟩:=Qd0 h
 have hdt:=Qq9 (y:=y) (m:=m) (d:=d) (by omega) (by omega) (by omega)
 have hg:∀x∈dtxt y m d,nmr x=true:=λx hx=>by
  simp only [dtxt,Z49,List.not_mem_nil,or_false] at hx
  rcases hx with rfl|rfl|rfl|rfl|rfl|rfl|rfl|rfl|rfl|rfl
  ·exact Yy (Q6 (by omega))
  ·exact Yy (Q6 (by omega))
  ·exact Yy (Q6 (by omega))
  ·exact Yy (Q6 (by omega))
  ·rfl
  ·exact Yy (Q6 (by omega))
  ·exact Yy (Q6 (by omega))
  ·rfl
  ·exact Yy (Q6 (by omega))
  ·exact Yy (Q6 (by omega))
 have h0:=Q6 (v:=y/10/10/10) (by omega)
 have:=Qhg (b:=cd (y/10/10/10)) (t:=(dtxt y m d).tail) (Qg5 h0) (by rw [h0];rfl) hg hc R
 rw [show cd (y/10/10/10)::(dtxt y m d).tail=dtxt y m d from rfl,if_pos hdt] at this
 exact this
theorem Qsl {n:Nat} (hn:n<=10^30):NumTok (decTxt n 2)/\mDec (decTxt n 2)=((n:Int),2,0):=by
 have hl:(txt n).length<=31:=Qau (by omega) (by decide)
 have hm:=Qly (n:=n) (k:=2) (by decide) (by omega)
 have hp:=Qb2 n 2
 have hpd:=Qk3 n 2
 have hdg:∀x∈padded n 2,dgt x=true:=λx hx=>by
  have:=hpd x hx
  unfold digit at this
  simp only [dgt,Z3,decide_eq_true_eq];exact this
 have hall:∀x∈decTxt n 2,dgt x=true\/x=46:=λx hx=>by
  unfold decTxt at hx
  rcases Z47.1 hx with hx|hx
  ·exact .inl (hdg x (Z59 hx))
  ·rcases Z49.1 hx with rfl|hx
   ·exact .inr rfl
   ·exact .inl (hdg x (Z72 hx))
 have hfirst:∃b t,decTxt n 2=b::t/\dgt b=true:=by
  cases hq:padded n 2 with
  |nil=>rw [hq] at hp;simp at hp
  |
   cons b t=>
   refine ⟨b,t.take ((padded n 2).length-2-1)++46::(padded n 2).drop ((padded n 2).length-2),?_,hdg b (by rw [hq];simp)⟩
   unfold decTxt
   conv=>lhs;arg 1;rw [hq]
   have:(b::t).length-2=((padded n 2).length-2-1)+1:=by rw [hq] at hp ⊢;omega
   rw [this,List.take_succ_cons];rfl
 obtain ⟨b,t,e,hb⟩:=hfirst
 refine ⟨⟨⟨b,t,e,Qg5 hb,by rw [hb];rfl⟩,λx hx=>?_,?_,by rw [hm]⟩,hm⟩
 ·rcases hall x hx with h|rfl
  ·exact Yy h
  ·rfl
 ·rw [Bool.eq_false_iff]
  intro hd
  obtain ⟨h10,_⟩:=Qdq hd
  have h4:=Qf4 hd (i:=4) (.inl rfl)
  have hmem:(decTxt n 2).getD 4 0∈decTxt n 2:=by
   rw [Zl,Z1 (by omega)]
   exact Z10 _
  rcases hall _ hmem with h|h
  ·simp only [dgt,Z3,decide_eq_true_eq] at h;omega
  ·rw [h] at h4;simp at h4
def vk (e:Evt):Int:=if e.v=kDue then 0 else 1
theorem Qow (h:NumTok kDue):False:=by
 obtain ⟨b,t,e,hb,_⟩:=h.hd
 have:b=100:=by simp only [kDue,List.cons.injEq] at e;exact e.1.symm
 subst this
 exact absurd hb (by decide)
theorem vtok {e:Evt} (ho:Wa e) (hc:Can e) (h3:e.k≠3) (R:J1):tokOf (vtxt e++59::R)=(vk e,vtxt e,0)/\vtxt e≠[]/\∀p,(mWorth e.k ⟨vk e,vtxt e,p⟩)=(0,e.v):=by
 have num:∀v:J1,NumTok v->tokOf (v++59::R)=(1,v,0)/\v≠[]:=λv hv=>by
  obtain ⟨b,t,e,hb,hd⟩:=hv.hd
  have:=Qhg hb hd (by rw [<-e];exact hv.all) (c:=59) (by decide) R
  rw [<-e,if_neg (by rw [hv.dtd];simp),if_pos hv.dec] at this
  exact ⟨this,by rw [e];simp⟩
 by_cases h2:e.k=2
 ·have hn:=hc.rate h2
  have hd:e.v≠kDue:=λhh=>Qow (hh▸hn)
  have e1:vtxt e=e.v:=by unfold vtxt;rw [if_pos (.inl h2)]
  have e2:vk e=1:=by unfold vk;rw [if_neg hd]
  rw [e1,e2]
  refine ⟨(num _ hn).1,(num _ hn).2,λp=>?_⟩
  unfold mWorth
  have hv:=ho.v
  rw [h2] at hv ⊢
  rw [if_neg (by simp),if_neg (by simp),if_pos rfl,hv]
 ·have hk:=ho.k
  rcases hc.paid (by omega) with ⟨hd,h0⟩|⟨n,n1,n2,hv⟩
  ·have e1:vtxt e=kDue:=by unfold vtxt;rw [if_pos (.inr hd),hd]
   have e2:vk e=0:=by unfold vk;rw [if_pos hd]
   rw [e1,e2,hd]
   refine ⟨Qd3 (b:=100) (t:=[117,101]) (by decide) (by decide) (by decide) R,by decide,λp=>?_⟩
   unfold mWorth
   rw [if_pos ⟨rfl,h0⟩,if_pos rfl]
  ·have hdg:=J5 n
   have hd:e.v≠kDue:=λhh=>by
    rw [hv] at hh
    have:=hdg 100 (by rw [hh];decide)
    unfold digit at this;simp at this
   have hl:(txt n).length<=31:=Qau (by omega) (by decide)
   have e1:vtxt e=decTxt n 2:=by
    unfold vtxt;rw [if_neg (λhh=>hh.elim h2 hd),hv,Qji (by omega)];rfl
   have e2:vk e=1:=by unfold vk;rw [if_neg hd]
   obtain ⟨d1,d2⟩:=Qsl n2
   have hvl:=ho.v
   rw [e1,e2]
   refine ⟨(num _ d1).1,(num _ d1).2,λp=>?_⟩
   unfold mWorth
   have hi:itxt (n:Int)=e.v:=by rw [hv];unfold itxt;rw [if_neg (by omega)];rfl
   simp only [d2,hi,hvl]
   rw [if_neg (by omega),if_neg (by simp),if_neg h2,if_neg (by simp),if_neg (by simp)]
def Qbr:List Evt->List Tk->Prop
 |[],l=>l=[]
 |e::t,l=>∃p0 p1 p2 p3 l',l=⟨0,Wv e.k,p0⟩::⟨2,dtxt e.y e.m e.d,p1⟩::(if e.k=3 then ⟨3,[59],p3⟩::l' else ⟨vk e,vtxt e,p2⟩::⟨3,[59],p3⟩::l')/\Qbr t l'
theorem Qea {k:Int} (hk:0<=k/\k<=3):kindOf (Wv k)=k/\∃b t,Wv k=b::t/\ltr b=true/\(∀x∈b::t,wrd x=true):=by
 have:k=0\/k=1\/k=2\/k=3:=by omega
 rcases this with rfl|rfl|rfl|rfl
 ·exact ⟨by decide,112,[97,121],rfl,by decide,by decide⟩
 ·exact ⟨by decide,112,[114,101,112,97,121],rfl,by decide,by decide⟩
 ·exact ⟨by decide,114,[101,115,101,116],rfl,by decide,by decide⟩
 ·exact ⟨by decide,112,[97,115,115],rfl,by decide,by decide⟩
theorem Qmj {e:Evt} (hk:0<=e.k/\e.k<=3) (S:J1):skp false (etxt e++S)=etxt e++S:=by
 obtain ⟨_,b,t,hw,hb,_⟩:=Qea hk
 have hbn:97<=b.toNat/\b.toNat<=122:=by simpa [ltr] using hb
 unfold etxt
 rw [hw]
 refine Qck (by omega) ?_ _
 unfold bln
 rw [Zf (show ¬b.toNat=32 by omega),Zf (show ¬b.toNat=9 by omega),Zf (show ¬b.toNat=10 by omega),Zf (show ¬b.toNat=13 by omega)];rfl
theorem Qo1 {N:Nat} {e:Evt} (ho:Wa e) (hc:Can e) {S:J1} {l:List Tk} (hl:lx N (skp false S)=(l,0,0)) :
  ∃p0 p1 p2 p3,lx N (etxt e++S)=(⟨0,Wv e.k,p0⟩::⟨2,dtxt e.y e.m e.d,p1⟩::(if e.k=3 then ⟨3,[59],p3⟩::l else ⟨vk e,vtxt e,p2⟩::⟨3,[59],p3⟩::l),0,0):=by
 obtain ⟨_,b,t,hw,hb,hall⟩:=Qea ho.k
 obtain ⟨hy,hm1,hm2,hd1,hd2⟩:=Qd0 ho.d
 have date_stay:∀R,skp false (dtxt e.y e.m e.d++R)=dtxt e.y e.m e.d++R:=λR=>by
  have h0:=Q6 (v:=e.y/10/10/10) (by omega)
  have hbn:48<=(cd (e.y/10/10/10)).toNat/\(cd (e.y/10/10/10)).toNat<=57:=by simpa [dgt] using h0
  refine Qck (b:=cd (e.y/10/10/10)) (by omega) ?_ _
  unfold bln
  rw [Zf (show ¬(cd (e.y/10/10/10)).toNat=32 by omega),Zf (show ¬(cd (e.y/10/10/10)).toNat=9 by omega),Zf (show ¬(cd (e.y/10/10/10)).toNat=10 by omega),Zf (show ¬(cd (e.y/10/10/10)).toNat=13 by omega)];rfl
 have end_stay:∀R,skp false (59::R)=59::R:=λR=>Qck (by decide) (by decide) R
 obtain ⟨p3,h3⟩:=Qaa (N:=N) (k:=3) (T:=[59]) (R:=10::S) (Qpq _) (by simp) (l:=l) (by rw [Qrm];exact hl)
 have h3':lx N (59::10::S)=(⟨3,[59],p3⟩::l,0,0):=h3
 by_cases hk:e.k=3
 ·obtain ⟨p1,h1⟩:=Qaa (N:=N) (k:=2) (T:=dtxt e.y e.m e.d) (R:=59::10::S) (Qj1 ho.d (by decide) _) (by simp [dtxt]) (l:=⟨3,[59],p3⟩::l) (by rw [end_stay,h3'])
  obtain ⟨p0,h0⟩:=Qaa (N:=N) (k:=0) (T:=b::t) (R:=32::(dtxt e.y e.m e.d++59::10::S)) (Qd3 hb hall (by decide) _) (by simp) (l:=_) (by rw [Qf6,date_stay,h1])
  refine ⟨p0,p1,0,p3,?_⟩
  rw [if_pos hk]
  have e1:etxt e++S=(b::t)++32::(dtxt e.y e.m e.d++59::10::S):=by unfold etxt;rw [if_pos hk,hw];simp
  rw [e1,h0,hw]
 ·obtain ⟨v1,v2,_⟩:=vtok ho hc hk (10::S)
  obtain ⟨p2,h2⟩:=Qaa (N:=N) (k:=vk e) (T:=vtxt e) (R:=59::10::S) v1 v2 (l:=⟨3,[59],p3⟩::l) (by rw [end_stay,h3'])
  have v_stay:skp false (vtxt e++59::10::S)=vtxt e++59::10::S:=by
   cases hq:vtxt e with
   |nil=>exact (v2 hq).elim
   |
    cons c u=>
    rw [hq] at v1
    have hcb:ltr c=true\/(dgt c||decide (c.toNat=45))=true:=by
     rw [List.cons_append] at v1
     unfold tokOf at v1
     rw [show (c::(u++59::10::S)).getD 0 0=c from rfl] at v1
     by_cases x1:ltr c=true
     ·exact .inl x1
     ·by_cases x2:(dgt c||decide (c.toNat=45))=true
      ·exact .inr x2
      ·rw [if_neg x1,if_neg x2] at v1
       split at v1
       ·have hv:vk e=3:=(Prod.mk.inj v1).1.symm
        unfold vk at hv;split at hv<;>omega
       ·have:=(Prod.mk.inj (Prod.mk.inj v1).2).2;simp at this
    have hn:c.toNat≠35/\bln c=false:=by
     simp only [ltr,dgt,Z57,Z3,decide_eq_true_eq] at hcb
     refine ⟨by omega,?_⟩
     unfold bln
     rw [Zf (show ¬c.toNat=32 by omega),Zf (show ¬c.toNat=9 by omega),Zf (show ¬c.toNat=10 by omega),Zf (show ¬c.toNat=13 by omega)];rfl
    exact Qck hn.1 hn.2 _
  obtain ⟨p1,h1⟩:=Qaa (N:=N) (k:=2) (T:=dtxt e.y e.m e.d) (R:=32::(vtxt e++59::10::S)) (Qj1 ho.d (by decide) _) (by simp [dtxt]) (l:=_) (by rw [Qf6,v_stay,h2])
  obtain ⟨p0,h0⟩:=Qaa (N:=N) (k:=0) (T:=b::t) (R:=32::(dtxt e.y e.m e.d++32::(vtxt e++59::10::S))) (Qd3 hb hall (by decide) _) (by simp) (l:=_) (by rw [Qf6,date_stay,h1])
  refine ⟨p0,p1,p2,p3,?_⟩
  rw [if_neg hk]
  have e1:etxt e++S=(b::t)++32::(dtxt e.y e.m e.d++32::(vtxt e++59::10::S)):=by unfold etxt;rw [if_neg hk,hw];simp
  rw [e1,h0,hw]
theorem Qi9:∀(L:List Evt),(∀e∈L,Wa e)->skp false (stxt L)=stxt L
 |[],_=>rfl
 |e::t,h=>by rw [Qbm];exact Qmj (h e (by simp)).k _
theorem Qi2 (N:Nat):∀(L:List Evt),(∀e∈L,Wa e)->(∀e∈L,Can e)->∃l,lx N (stxt L)=(l,0,0)/\Qbr L l/\l.length<=4*L.length
 |[],_,_=>⟨[],lx_nil N,rfl,by simp⟩
 |
  e::t,ho,hc=>by
  obtain ⟨l,h1,h2,h3⟩:=Qi2 N t (λx hx=>ho x (by simp [hx])) (λx hx=>hc x (by simp [hx]))
  obtain ⟨p0,p1,p2,p3,h4⟩:=Qo1 (N:=N) (ho e (by simp)) (hc e (by simp)) (S:=stxt t) (l:=l) (by rw [Qi9 t λx hx=>ho x (by simp [hx])];exact h1)
  refine ⟨_,by rw [Qbm];exact h4,⟨p0,p1,p2,p3,l,rfl,h2⟩,?_⟩
  split<;>simp only [Z6]<;>omega
theorem Qme {N:Int} {e:Evt} {t:List Evt} {l:List Tk} (ho:Wa e) (hc:Can e) (hs:Qbr (e::t) l) {y m d:Int} (hd:¬dcmp e.y e.m e.d y m d<0):∃l',mEvent N l y m d=.inr (e,l')/\Qbr t l'/\l≠[]/\l'.length<l.length:=by
 obtain ⟨p0,p1,p2,p3,l',rfl,hs⟩:=hs
 obtain ⟨hk,_⟩:=Qea ho.k
 have hk0:=ho.k
 refine ⟨l',?_,hs,by simp,by split<;>simp only [Z6]<;>omega⟩
 obtain ⟨L2,h2⟩:∃L2,L2=(if e.k=3 then (⟨3,[59],p3⟩:Tk)::l' else ⟨vk e,vtxt e,p2⟩::⟨3,[59],p3⟩::l'):=⟨_,rfl⟩
 rw [<-h2]
 obtain ⟨L1,h1⟩:∃L1,L1=(⟨2,dtxt e.y e.m e.d,p1⟩:Tk)::L2:=⟨_,rfl⟩
 rw [<-h1]
 obtain ⟨L0,h0⟩:∃L0,L0=(⟨0,Wv e.k,p0⟩:Tk)::L1:=⟨_,rfl⟩
 rw [<-h0]
 have a0:A.hd N L0=⟨0,Wv e.k,p0⟩:=by rw [h0];rfl
 have b0:L0.tail=L1:=by rw [h0];rfl
 have a1:A.hd N L1=⟨2,dtxt e.y e.m e.d,p1⟩:=by rw [h1];rfl
 have b1:L1.tail=L2:=by rw [h1];rfl
 unfold mEvent
 rw [b0,b1,a0,a1]
 simp only [hk,Qse ho.d]
 rw [if_neg (by simp),if_neg (by omega),if_neg (by simp),if_neg (by simp),if_neg hd]
 by_cases h3:e.k=3
 ·rw [if_pos h3]
  rw [if_pos h3] at h2
  subst h2
  unfold mFin
  have hv:e.v=[]:=by
   have:=ho.v
   unfold mVal at this
   rw [if_pos h3] at this
   by_cases hn:e.v=[]
   ·exact hn
   ·rw [if_neg hn] at this;simp at this
  rw [if_pos (show (A.hd N ((⟨3,[59],p3⟩:Tk)::l')).k=3/\(A.hd N ((⟨3,[59],p3⟩:Tk)::l')).s=[59] from ⟨rfl,rfl⟩),<-hv];rfl
 ·rw [if_neg h3]
  rw [if_neg h3] at h2
  obtain ⟨_,_,hw⟩:=vtok ho hc h3 []
  have hw:=hw p2
  have a2:A.hd N L2=⟨vk e,vtxt e,p2⟩:=by rw [h2];rfl
  have b2:L2.tail=⟨3,[59],p3⟩::l':=by rw [h2];rfl
  rw [a2,b2,hw]
  unfold mFin
  rw [if_neg (by simp),if_pos (show (A.hd N ((⟨3,[59],p3⟩:Tk)::l')).k=3/\(A.hd N ((⟨3,[59],p3⟩:Tk)::l')).s=[59] from ⟨rfl,rfl⟩)];rfl
theorem Qn4 (N:Int):∀(n:Nat) (L:List Evt) (l:List Tk) (y m d:Int) (acc:List Evt),l.length<=n->Qbr L l->Seq y m d L->(∀e∈L,Can e)->mEvents N n l y m d acc=(acc++L,0,0):=by
 intro n
 induction n with
 |
  zero=>
  intro L l y m d acc hn hs hq hc
  have:l=[]:=Z7 (by omega)
  subst this
  cases L with
  |nil=>simp [mEvents]
  |cons e t=>obtain ⟨_,_,_,_,_,h,_⟩:=hs;simp at h
 |
  succ n ih=>
  intro L l y m d acc hn hs hq hc
  cases L with
  |
   nil=>
   rw [show l=[] from hs,mEvents,if_pos rfl];simp
  |
   cons e t=>
   obtain ⟨q1,q2,q3⟩:=hq
   obtain ⟨l',h1,h2,h3,h4⟩:=Qme (N:=N) q2 (hc e (by simp)) hs q1
   rw [mEvents,if_neg h3,h1]
   simp only
   rw [ih t l' e.y e.m e.d (acc++[e]) (by omega) h2 q3 λx hx=>hc x (by simp [hx])]
   simp
theorem Qn8 {L:List Evt} (hq:Seq 0 0 0 L) (hc:∀e∈L,Can e):mParse (stxt L)=(L,0,0)/\(lexOf (stxt L)).1.length<=4*L.length:=by
 have ho:=Qcn hq
 obtain ⟨l,h1,h2,h3⟩:=Qi2 (stxt L).length L ho hc
 have e:lexOf (stxt L)=(l,0,0):=by unfold lexOf;rw [Qi9 L ho,h1]
 refine ⟨?_,by rw [e];exact h3⟩
 unfold mParse
 rw [e]
 rw [if_neg (by simp)]
 rw [Qn4 _ _ L l 0 0 0 [] (Z5 _) h2 hq hc];simp
theorem Qoe {L:List Evt} (hL:L.length<=10000) (hs:Seq 0 0 0 L):z105.F (L.map Evt.r)=some (stxt L,0):=by
 by_cases h:L=[]
 ·subst h;exact script_Print_nil
 ·exact script_Print hL h hs
theorem Ql6 {e:Evt} (ho:Wa e) (hc:Can e):(etxt e).length<=820:=by
 have h1:=Qgp ho.k
 have h2:(dtxt e.y e.m e.d).length=10:=rfl
 have hv:e.k≠3->(vtxt e).length<=800:=λh3=>by
  by_cases h4:e.k=2\/e.v=kDue
  ·unfold vtxt;rw [if_pos h4];exact hc.len
  ·obtain ⟨_,p1,p2⟩:=Qdl (ho.paid h4 h3)
   unfold vtxt
   rw [if_neg h4]
   have hl:(txt (mWhole e.v).1.natAbs).length<=31:=Qau (by omega) (by decide)
   have hp:=Qb2 (mWhole e.v).1.natAbs 2
   unfold decTxt
   rw [Z8,Z6,Z14,Z17]
   omega
 unfold etxt
 by_cases h3:e.k=3
 ·rw [if_pos h3];simp only [Z8,Z6,Z23];omega
 ·have:=hv h3
  rw [if_neg h3];simp only [Z8,Z6,Z23];omega
theorem Qi4:∀(L:List Evt),(∀e∈L,Wa e)->(∀e∈L,Can e)->(stxt L).length<=820*L.length
 |[],_,_=>by simp [stxt]
 |
  e::t,ho,hc=>by
  have h1:=Ql6 (ho e (by simp)) (hc e (by simp))
  have h2:=Qi4 t (λx hx=>ho x (by simp [hx])) (λx hx=>hc x (by simp [hx]))
  rw [Qbm,Z8,Z6];omega
theorem Qrf {s:J1} (h:s.length<=maxLen):z108.F s=some true:=by
 obtain ⟨h1,h2⟩:=Qpr s
 unfold z108.F
 rw [if_pos h1]
 generalize s.take (if (800:Int)<(s.length:Int) then (800:Int) else (s.length:Int)).toNat=t at *
 rw [script_Parse (by omega),Zb]
 rcases parse_can h2 with ⟨e1,e2,e3,e4,e5⟩|⟨e1,e2,e3,e4⟩
 ·obtain ⟨p1,p2⟩:=Qn8 e3 e4
  have hs:=Qi4 _ (Qcn e3) e4
  have em:mParse t=((mParse t).1,0,0):=by rw [<-e1];exact Prod.ext rfl (Prod.ext (by rw [e2,e1]) rfl)
  generalize (mParse t).1=L at *
  have q1:=script_Check (L:=L) (by omega) e3
  have q2:=Qoe (L:=L) (by omega) e3
  have q3:=Qg6 (s:=stxt L) (by omega) (by omega)
  rw [em]
  simp only [encM,decide_true,Zn,Zc]
  rw [q1,Zb,q2,Zb,q3,Zb,p1]
  simp only [encM]
  rw [q2,Zb,Qiv,Zb]
  simp only [decide_true,Zd]
  rw [Qn7 L (by omega),Zb]
  simp
 ·rw [Zf (show ¬(encM (mParse t)).2.2=0 from e1)]
  simp only [Zo,Zd]
  rw [Qiv,Zb]
  simp only [encM,e2,List.map_nil,Z23]
  rw [Zt (show ((0:Nat):Int)=0 from rfl),Zt (show (mParse t).2.1>=0 from e3),Zt e4];rfl
end Go.Proofs.YtjfipepaaddlmaaGreatDoor.A
end
section
set_option linter.unusedVariables false
namespace Go.Proofs.YtjfipepaaddlmaaGreatDoor.A
open Go
namespace ScriptBack
theorem law (a0:J1) (h0:a0.length<=maxLen):z108.F a0=some true:=
 Qrf h0
end ScriptBack
end Go.Proofs.YtjfipepaaddlmaaGreatDoor.A
end
section
set_option maxRecDepth 100000
namespace Go.Proofs.YtjfipepaaddlmaaGreatDoor.A
open Go Go.RowKit Go.ChangeShapes Go.WideShapes Go.ChangeAt
noncomputable section
namespace ScriptBack
theorem wide:Qam Tryz.prog 8 Tryz.f7.params.toList=some [(.one (.sc .s))]:=by kernel_rfl
theorem readable:Tryz.f7.params.toList.all (λt=>Tryz.prog.readableRec t&&decide (t<Tryz.prog.types.size))=true:=by kernel_rfl
noncomputable def args0:Array Value:=#[.string ⟨#[]⟩]
theorem laid_met (os:Os):laidMet Tryz.prog Rows.scriptBackRow.laid ((Qga os).forCall (λ_ _=>0) ⟨#[],args0,[]⟩).memory:=
 laidMet_of_run' 12 (by kernel_rfl) (by kernel_rfl)
theorem reads (os:Os) {H:Type} (enc:TypeId×Value->H):∃ds places,DataW.whole enc Tryz.prog ((Qga os).forCall (λ_ _=>0) ⟨#[],args0,[]⟩).memory Tryz.f7.params.toList Rows.scriptBackSpec.vars false args0.toList 12=some (ds,[],places):=
 ⟨[.lit (.string [])],[],by kernel_rfl⟩
theorem plainly (vs:List V) (h:okAL [(.one (.sc .s))] vs):∃p r,SoundC Tryz.prog 7 vs p/\p.m=some r/\p.enc r=.bool true:=by
 obtain ⟨_,_,rfl,⟨a0,rfl,h0⟩,rfl⟩:=h
 exact ⟨⟨Bool,z108.F a0,z8.enc⟩,true,z108.sound _ _ (by kernel_rfl),law a0 h0,rfl⟩
theorem specFn {H:Type} (ds:List (DataW H)) (h:ds.length=Tryz.f7.params.toList.length):Rows.scriptBackSpec.fn H ds={results:=[.lit (.bool true)],args:=ds}:=by
 have h:ds.length=1:=h.trans (by kernel_rfl)
 match ds,h with
 |[d0],_=>rfl
theorem clos:Tryz.prog.closure 7=[7,24,70,119,163,207,208,209,238,210,189,229,172,213,164,190,230,240,192,191,43,91,120,165,166,167,168,169,170,171,161,204,211,239,148,193,231,212,205,234,235,236,251,256,162,108,157,104,206,237,145,102,53,103,52,60,71,121,123,122,124,173,133,175,216,217,115,153,195,160,125,134,176,218,117,16,242,252,257,241,194,66,12,54,105,154,196,106,177,219,180,224,215,220,243,245,246,214,221,244,254,253,258,107,109,155,197,198,232,156,199,200,201,202,203,233,223,222,247,255,174,13,55,110,78,135,178,80,26,31,30,77,79,136,179,137,181,36,86,144,88,146,188,89,38,27]:=by kernel_rfl
theorem inPlace:(Rows.scriptBackRow.inPlace == Tryz.prog.inPlace 7)=true:=by unfold Program.inPlace;rw [clos];kernel_rfl
theorem unfollowed:(Rows.scriptBackRow.unfollowed == Tryz.prog.unfollowed 7)=true:=by unfold Program.unfollowed;rw [clos];kernel_rfl
theorem recurses:(Rows.scriptBackRow.recurses == Tryz.prog.recurses 7)=true:=by unfold Program.recurses Program.unfollowed;rw [clos];kernel_rfl
theorem named:(Rows.scriptBackRow.named == Tryz.prog.varsNamed 7)=true:=by unfold Program.varsNamed;rw [clos];kernel_rfl
theorem number:Tryz.prog.funcNamed "chattel/chattellaw23.ScriptBack" = some 7:=by kernel_rfl
theorem goes:false=Rows.scriptBackRow.goesBy Tryz.prog:=by
 have h:Tryz.prog.goes 7=false:=by unfold Program.goes Program.unfollowed;rw [clos];kernel_rfl
 have e:Rows.scriptBackRow.goesBy Tryz.prog=((Tryz.prog.funcNamed "chattel/chattellaw23.ScriptBack").any Tryz.prog.goes||false):=by kernel_rfl
 rw [e,number]
 simp [h]
theorem j_wf:Rows.scriptBackRow.wf (OpenSpec.ofChange (OpenSpec.ofChange Rows.scriptBackSpec).bare)=true:=by kernel_rfl
theorem j_params:(Tryz.f7.params.all (Tryz.pinned.checked.prog.readableRec ·))=true:=by kernel_rfl
theorem j_vars:namedTie Tryz.pinned.checked.prog Rows.scriptBackRow.named (OpenSpec.ofChange Rows.scriptBackSpec).bare.vars=true:=by kernel_rfl
theorem j_stops:(Rows.scriptBackRow.stops == [])=true:=by kernel_rfl
theorem j_knobs:(Rows.scriptBackRow.knobs == [])=true:=by kernel_rfl
theorem j_maps:(Rows.scriptBackRow.maps == (Tryz.f7.params.toList++DataSpec.varTypes Tryz.pinned.checked.prog (OpenSpec.ofChange Rows.scriptBackSpec).bare.plain).any (Tryz.pinned.checked.prog.mapsRec ·))=true:=by kernel_rfl
theorem j_ifaces:(Rows.scriptBackRow.ifaces == (Tryz.f7.params.toList++DataSpec.varTypes Tryz.pinned.checked.prog (OpenSpec.ofChange Rows.scriptBackSpec).bare.plain).any (Tryz.pinned.checked.prog.ifacesRec ·))=true:=by kernel_rfl
theorem j_mapsOut:(Rows.scriptBackRow.mapsOut == Tryz.pinned.checked.prog.mapsAmong Tryz.f7.resultTypes.toList)=true:=by kernel_rfl
theorem j_loops:(Rows.scriptBackRow.loops == (Tryz.f7.params.toList++DataSpec.varTypes Tryz.pinned.checked.prog (OpenSpec.ofChange Rows.scriptBackSpec).bare.plain).any (Tryz.pinned.checked.prog.loopsFrom ·))=true:=by kernel_rfl
theorem j_wideKeys:(Rows.scriptBackRow.wideKeys == (Tryz.f7.params.toList++DataSpec.varTypes Tryz.pinned.checked.prog (OpenSpec.ofChange Rows.scriptBackSpec).bare.plain++Tryz.f7.resultTypes.toList).any (Tryz.pinned.checked.prog.wideKeysFrom ·))=true:=by kernel_rfl
theorem j_varsRead:(OpenSpec.ofChange Rows.scriptBackSpec).bare.vars.all (Tryz.pinned.checked.prog.varReadable ·)=true:=by kernel_rfl
theorem j_results:(Tryz.f7.resultTypes.all λt=>Tryz.pinned.checked.prog.readableRec t&&decide (t<Tryz.pinned.checked.prog.types.size))=true:=by kernel_rfl
theorem j_ifacesOut:(Rows.scriptBackRow.ifacesOut == Tryz.f7.resultTypes.toList.any (Tryz.pinned.checked.prog.ifacesRec ·))=true:=by kernel_rfl
theorem j_loopsOut:(Rows.scriptBackRow.loopsOut == Tryz.f7.resultTypes.toList.any (Tryz.pinned.checked.prog.loopsFrom ·))=true:=by kernel_rfl
theorem j_plainKeys:(Rows.scriptBackRow.plainKeys == Tryz.pinned.checked.prog.plainKeys)=true:=by kernel_rfl
theorem j_short:Rows.scriptBackRow.shortTexts.isNone=true:=by kernel_rfl
theorem j_lift:(Rows.scriptBackRow.lifted == Tryz.pinned.checked.prog.liftsFinal)=true:=by kernel_rfl
theorem j_make:(Tryz.pinned.checked.prog.make == some Rows.scriptBackRow.make)=true:=by kernel_rfl
theorem j_kinds:(Rows.scriptBackRow.kinds == (if Rows.scriptBackRow.domain.isEmpty then [] else Tryz.f7.params.toList.map λt=>match Tryz.pinned.checked.prog.underlying t with|some (.int k)=>some k|_=>none))=true:=by kernel_rfl
theorem j_pinned:(Rows.scriptBackRow.pinned == Rows.scriptBackRow.pinnedBy)=true:=by kernel_rfl
theorem j_veiled:(Rows.scriptBackRow.veiled == (Tryz.f7.params.toList++DataSpec.varTypes Tryz.pinned.checked.prog (OpenSpec.ofChange Rows.scriptBackSpec).bare.plain++Tryz.f7.resultTypes.toList).any (Tryz.pinned.checked.prog.veiledRec ·))=true:=by kernel_rfl
theorem j_veiledFits:Rows.scriptBackRow.veiledFits Tryz.pinned.checked.prog Tryz.f7.params.toList (Tryz.f7.params.toList++DataSpec.varTypes Tryz.pinned.checked.prog (OpenSpec.ofChange Rows.scriptBackSpec).bare.plain++Tryz.f7.resultTypes.toList)=true:=by kernel_rfl
theorem joined:joinedFacts Tryz.pinned.checked.prog 7 Tryz.f7 (OpenSpec.ofChange Rows.scriptBackSpec).bare Rows.scriptBackRow=true:=by
 unfold joinedFacts
 simp only [Z3]
 and_intros
 ·exact j_wf
 ·exact laidOut
 ·exact rowed
 ·exact j_params
 ·exact j_vars
 ·exact j_stops
 ·exact Qpg
 ·exact j_knobs
 ·exact Qmq
 ·exact inPlace
 ·exact unfollowed
 ·exact recurses
 ·exact named
 ·exact j_maps
 ·exact j_ifaces
 ·exact j_mapsOut
 ·exact j_loops
 ·exact j_wideKeys
 ·exact j_varsRead
 ·exact j_results
 ·exact j_ifacesOut
 ·exact j_loopsOut
 ·exact j_plainKeys
 ·exact j_short
 ·exact Qoz
 ·exact Qre
 ·exact j_lift
 ·exact j_make
 ·exact j_kinds
 ·exact j_pinned
 ·exact j_veiled
 ·exact j_veiledFits
theorem lifted (os:Os) (started:os.Started) (H:Type) (enc:TypeId×Value->H) (F:Stop.Interp) :
  ReturnsInHanded {} Tryz.checked os 7 .any ((OpenSpec.ofChange Rows.scriptBackSpec).preRow enc Tryz.prog Tryz.f7 Rows.scriptBackRow.domain false Rows.scriptBackRow.laid) (((OpenSpec.ofChange Rows.scriptBackSpec).at F).post enc Tryz.prog Tryz.f7 false true false false):=by
 obtain ⟨ds0,places,hx⟩:=reads os enc
 refine returnsInHanded_of_row (C:=Tryz.checked) (s:=OpenSpec.ofChange Rows.scriptBackSpec) own started (by kernel_rfl) Tryz.func7
  (witness_row_at (enc:=enc) (C:=Tryz.checked) false (Qga os) args0 rfl (by kernel_rfl) (by kernel_rfl) (by kernel_rfl)
   (OpenSpec.preRow_of_cond 12 hx (by kernel_rfl) (λk hk=>by cases hk) (by kernel_rfl) (laid_met os))) ?_
 intro W base args ds gs before hval hW _ _ _ hL _ _
 exact Qqx fun7 laidOut readable wide (tb:=4) (by kernel_rfl) (by kernel_rfl) rfl specFn plainly W base args ds gs before hval hW
theorem wrapped:Tryz.f7.isWrapper Tryz.pinned.checked.prog Rows.scriptBackRow.wrapper Rows.scriptBackRow.mainSum:=by
 unfold Func.isWrapper;first|(rw [if_pos (by decide +kernel)];kernel_rfl)|(rw [if_neg (by decide +kernel)];exact ⟨rfl,rfl⟩)
theorem origin:Tryz.f7.isInstance Tryz.pinned.checked.prog Rows.scriptBackRow.origin Rows.scriptBackRow.targs:=of_decide_eq_true (by kernel_rfl)
theorem said:Rows.ScriptBackSaid:=
 OpenClaim.holds_of_cond 7 Tryz.f7 rfl rfl rfl rfl rfl rfl rfl ⟨rfl,rfl,rfl,rfl,rfl⟩ rfl rfl rfl rfl rfl number Tryz.func7 joined origin wrapped
  (λos started H enc _ F=>by rw [OpenClaim.pre_eq_preRow];exact lifted os started H enc F)
theorem plainRow (f:FuncId) (fn:Func) (hf:Tryz.pinned.checked.prog.funcNamed "chattel/chattellaw23.ScriptBack" = some f) (hfn:Tryz.pinned.checked.prog.funcs[f]? = some fn) :
  false=Tryz.pinned.checked.prog.looks []/\∀(j:Nat) t,fn.params[j]? = some t->Tryz.pinned.checked.prog.wantsStandIn t=false:=by
 obtain rfl:f=7:=Option.some.inj (number.symm.trans hf) |>.symm
 obtain rfl:fn=Tryz.f7:=(Option.some.inj (Tryz.func7.symm.trans hfn)).symm
 refine ⟨Qsi,λj t ht=>?_⟩
 have hall:Tryz.f7.params.toList.all (λt=>!Tryz.prog.wantsStandIn t)=true:=by kernel_rfl
 have:=Z9.1 hall t (by simpa using Array.mem_of_getElem? ht)
 exact Z52 _ |>.mp this
theorem card:Rows.ScriptBackCardSaid:=
 Claim7.holds_tied_plain_at .later [] _ _ _ _ said (λ_ h=>by cases h) (by kernel_rfl) (λ_ h=>by cases h) scriptBack_row_tie rfl ⟨rfl,rfl⟩ main rfl plainRow goes
end ScriptBack
end
end Go.Proofs.YtjfipepaaddlmaaGreatDoor.A
end
