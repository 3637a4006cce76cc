/- Part 2 of the proof of ReplanWhole.card. -/
import Derived.Test.YtihfdjkjpncjfaaGreatDoorDc1
import Derived.WalkSpells
import Derived.Shelf.Strings.SlTrimAscii
import Derived.Shelf.Strings.Repeat
import Derived.Shelf.Strings.OnBuilder
import Derived.Test.YtihfdjkjpncjfaaGreatDoorProg
import Derived.Shelf.RegionOpenPlain
import Derived.Lib.Strings
import Derived.Lib.Walk
import Derived.Lib.Builder
import Derived.WalkKit
import Derived.Laws.Externs
import Derived.Lib.Bytealg
set_option linter.unusedVariables false
set_option linter.unusedSimpArgs false
section
namespace Go.Proofs.YtihfdjkjpncjfaaGreatDoor.A
open Go Go.RowKit
def newP (e:Nat) (pk:List V->Option Pack):Qd6:=λR args S K=>
 if args.all immV=true then (match pk args with
  |some p=>p.m.bind λr=>K (.sref S.length 0) (S++[.arr 0 true e (p.enc r)])
  |none=>none) else none
def Ctx.evNew {R:Type} (C:Ctx) (f:Nat) (fn:IFun) (e:Nat) (args:List V) (dec:V->Option R):Option R:=
 C.evB (C.inlK 6) f 0 fn.body (args++List.replicate (fn.ntmps-args.length) .undef) [] (C.outK fn.results λvs S=>match one vs with
  |
   .sref id ver=>match S.getD id .dead with
   |.arr ver' true e' c=>if ver'=ver/\e'=e/\contentVal c=true then dec (unexact c) else none
   |_=>none
  |_=>none)
section
variable {P:Program} {C:Ctx}
theorem Qxo (hC:Wc P C) (hF:InlF P C) {g:Nat} {f:Func} {c:Code} (hf:FunOK P g f c) {e:Nat} (hL:LoopsOK C (λR=>C.inlK 6) g 0 c) {pk:List V->Option Pack}
  (H:∀vs p,pk vs=some p->∃(vs0:List V) (dec:V->Option p.ρ),vs.map Wt=vs0/\C.evNew g (ifun f) e vs0 dec=p.m/\∀v r,dec v=some r->v=p.enc r):SoundP P g (newP e pk):=by
 refine ⟨λR args S K=>?_,λargs S v S' M cargs h hN hsz hr=>?_⟩
 ·unfold newP
  repeat' split
  all_goals first|rfl|skip
  rename_i p _
  cases p.m<;>rfl
 unfold newP at h
 split at h
 case isFalse=>simp at h
 rename_i himm
 split at h
 case h_2=>simp at h
 rename_i p hp
 simp only [Z5] at h
 obtain ⟨r,hm,hK⟩:=h
 simp only [K0,Zs,Z2] at hK
 obtain ⟨rfl,rfl⟩:=hK
 obtain ⟨vs0,dec,hvs,link,hdec⟩:=H args p hp
 have hO:∀b,M.O b->b<M.w.heap.size:=λb hb=>hN.ok.low b hb
 have hN0:=Qor (w:=M.w) hO
 rw [hm] at link
 have hsz0:cargs.size=vs0.length:=by rw [<-hvs];simpa using hsz
 have hrep0:∀j (h:j<vs0.length),Rep (mem0 M.O M.w) (cargs.getD j Go.undef) vs0[j]:=λj hj=>by
  subst hvs
  rw [Z20]
  have hj':j<args.length:=by simpa using hj
  have h3:Rep0 M.O M.w (cargs.getD j Go.undef) args[j]:=Qah (hr j hj') (Z23.1 himm _ (Z15 hj'))
  exact Qd3 (.imm h3)
 have ih:=Qa7 hC hF 6
 unfold Ctx.evNew at link
 rw [Qbo ih] at link
 simp only [Z5] at link
 obtain ⟨⟨us,S1⟩,⟨⟨ex,env',S2⟩,h1,h2⟩,h3⟩:=link
 obtain ⟨hne,h2',rfl⟩:=Qew h2
 rw [Qfp hf] at h1
 have hcalls:=Qfq (S:=[]) hC ih hf hL hN0 hsz0 hrep0 h1 hne h2'
 unfold CallR
 rw [hf.enters]
 refine hcalls.mono λex w' ⟨cv,M',he,hw,h5,h6,h7,_⟩=>?_
 subst he;subst hw
 simp only at h3
 split at h3
 case h_2=>simp at h3
 rename_i id ver hone
 split at h3
 case h_2=>simp at h3
 rename_i ver' e' ct hk
 split at h3
 case isFalse=>simp at h3
 rename_i hcond
 obtain ⟨rfl,rfl,hcv⟩:=hcond
 have henc:=hdec _ _ h3
 rw [hone] at h7
 have hkM:M'.S id=.arr ver' true e' ct:=(h6.is id).trans hk
 obtain ⟨_,_,hpp⟩:=W0 h7
 obtain ⟨loc,n,hμ,hn,hcvv⟩:=hpp ct (by rw [hkM];simp [contentB])
 have hblk:=h6.ok.blk id loc hμ
 rw [hkM] at hblk
 obtain ⟨hB0,hB⟩:=hblk
 have own0:∀b,¬(mem0 M.O M.w).own b:=λb ⟨j,o,cap,h,_⟩=>by simp [mem0,Blk.own] at h
 have hnew:∀b o cap,loc=.blk b o cap->M.w.heap.size<=b/\b<M'.w.heap.size:=λb o cap he=>by
  refine ⟨?_,(hB0 b o cap he).2⟩
  rcases Z39 b M.w.heap.size with hlt|hge
  ·exact (own0 b (h5.own' b hlt ⟨id,o,cap,by rw [hkM];rfl,by rw [hμ,he]⟩)).elim
  ·exact hge
 have hg:M.w.grownBy M'.w none:=⟨h5.os,h5.tape,h5.output,h5.size,λk hk _=>(h5.keep k hk (own0 k)).1⟩
 have hq:M.μ S.length=none:=hN.fresh _ (Z4 _)
 have mono:∀{cv1:Value} {v1:V},Rep0 M'.O M'.w cv1 v1->Rep0 (M.push S.length (.arr 0 true e' (unexact ct)) loc M'.w).O M'.w cv1 v1:=λ{cv1 v1} h=>h.mono (λa v _ h=>h) λa v hno hcell hOa=>hno (by
  rcases hOa with hOa|⟨o,cap,he⟩
  ·exact (h5.keep a.block (hO _ hOa) (own0 _)).2.2 hOa
  ·exact (hB0 _ o cap he).1)
 have hB':BlkOK (M.push S.length (.arr 0 true e' (unexact ct)) loc M'.w) loc (.arr 0 true e' (unexact ct)):=by
  refine ⟨λb o cap he=>⟨.inr ⟨o,cap,he⟩,(hB0 b o cap he).2⟩,Qjc ?_⟩
  cases loc with
  |nil a=>exact hB
  |
   blk b1 o1 cap1=>
   obtain ⟨n9,fl,cur,fz,a1,a2,a3,a4,a5,a6,a7,a8,a9,a10⟩:=hB
   exact ⟨n9,fl,cur,fz,a1,a2,a3,a4,a5,a6,a7,a8,a9,λj hj=>⟨mono (a10 j hj).1,(a10 j hj).2⟩⟩
 have hpost:=post_push hN.ok hq hg hnew hB'
 rw [<-henc]
 refine ⟨M.push S.length (.arr 0 true e' (unexact ct)) loc M'.w,rfl,hpost.step,hpost.now hN,?_,by simp⟩
 rw [hcvv]
 exact Yl (by rw [Qco];exact hn) (by cases loc<;>rfl)
theorem Qza (hT:C.T.check P=true) (hm:P.follows .mixedOrders=true) (hc:C.clone=λ_=>none) (call:∀g vs p,C.call g vs=some p->SoundC P g vs p) (hF:InlF P C) {g:Nat} {f:Func} {c:Code} (hf:FunOK P g f c)
  {e:Nat} (hL:(InlOK P C λR=>C.inlK 6)->LoopsOK C (λR=>C.inlK 6) g 0 c) {pk:List V->Option Pack} (H:∀vs p,pk vs=some p->∃(vs0:List V) (dec:V->Option p.ρ),vs.map Wt=vs0/\C.evNew g (ifun f) e vs0 dec=p.m/\∀v r,dec v=some r->v=p.enc r) (hmt:C.meth=λ_ _=>none:=by rfl):SoundP P g (newP e pk):=
 have hC:Wc P C:=⟨hT,hm,λg vs p _ _ h=>call g vs p h,λg e _ h=>by rw [hc] at h;simp at h,λt m g h=>by rw [hmt] at h;simp at h⟩
 Qxo hC hF hf (hL (Qa7 hC hF 6)) H
end
def Jx (x0:V) (e bytes:Nat):Qd6:=λ_ args S K=>match args with
 |
  [x]=>match Wn x0 (immOf S x),lenOf S x with
  |some c,some n=>if n*bytes<=140737488355328 then K (.sref S.length 0) (S++[.arr 0 true e c]) else none
  |_,_=>none
 |_=>none
def Qv2 (t tb:Nat) (p0 p1 p2 p3 p4 p5 p6 p7:String) (a0 a1 a2 a3 a4 a5 a6 a7:Array Edge) (i0 i1 i2 i3:Nat):Code:=
 .seq (.region i0 #[⟨some 2,.assign (.const (.slice none 0 0)),t,p0,a0,none⟩] false)
  (.seq (.seq (.region i1 #[⟨some 3,.move (.tmp 0),t,p1,a1,none⟩,⟨some 4,.binOp .eql t (.tmp 3) (.const (.slice none 0 0)) t,tb,p2,a2,none⟩] false)
    (.cond (.tmp 4) (.seq (.region i2 #[⟨some 2,.assign (.const (.slice none 0 0)),t,p3,a3,none⟩] false) .ret) .skip))
   (.seq (.region i3 #[⟨some 5,.buildSlice t 0 #[],t,p4,a4,none⟩,⟨some 6,.move (.tmp 0),t,p5,a5,none⟩,
     ⟨some 7,.call {callee:=.builtin .append,args:=#[.tmp 5,.tmp 6],argTypes:=#[t,t]},t,p6,a6,none⟩,⟨some 2,.assign (.tmp 7),t,p7,a7,none⟩] false) .ret))
section
variable {P:Program} {C:Ctx}
theorem Qad {ops:Array Oper} {Q:Exit->Act->World->Prop} {i:Nat} {rest:List Nat} {a:Act} {w:World} {o:Oper} (ho:ops[i]? = some o) (hg:o.guard=none) (h:o.wp P a w (wpOps P ops Q rest) Q):wpOps P ops Q (i::rest) a w:=by
 simp only [wpOps,ho]
 rw [if_pos (by simp [Region.wanted,hg])]
 exact .inl h
theorem Qak {a:Act} {dst:Option Tmp} {v:Value}:(a.put dst v).tmps.size=a.tmps.size:=by cases dst<;>simp [Act.put]
theorem eval_put {a:Act} {d:Nat} {v:Value} (h:d<a.tmps.size):(a.put (some d) v).eval (.tmp d)=v:=by simp [Act.put,Act.eval,h]
theorem Qcs {a:Act} {d t:Nat} {v:Value} (h:d≠t):(a.put (some d) v).eval (.tmp t)=a.eval (.tmp t):=Act.eval_put λd' hd=>by simp only [Zs] at hd;subst hd;exact λe=>h (by cases e;rfl)
theorem Qr7 {t e:Nat} {x0 x c:V} {S:Store} {n:Nat} (hd:(C.ty t).d=.slice e) (hbad:C.bad e=false) (hb0:(C.ty e).bytes≠0) (h1:isExact x0=true) (h2:isNil x0=true) (h3:zOf x0=(C.ty e).size)
  (happ:Wn x0 (immOf S x)=some c) (hn:lenOf S x=some n) (hle:n*(C.ty e).bytes<=140737488355328):C.appendV t S x0 x K0=some (.sref S.length 0,S++[.arr 0 true e c]):=by
 have hl0:lenOf S x0=some 0:=by
  unfold isNil at h2
  split at h2<;>first|rfl|simp at h2
 unfold Ctx.appendV
 simp only [hd,hbad,hl0,hn,Z25,if_false,hb0,Z18,if_pos hle]
 cases x0<;>simp [isExact] at h1<;>subst h1<;>simp only [isExact,h2,h3,happ,and_self,if_true,Zd]
theorem Qnq (hT:C.T.check P=true) {g:Nat} {f:Func} {t tb e:Nat} {p0 p1 p2 p3 p4 p5 p6 p7:String} {a0 a1 a2 a3 a4 a5 a6 a7:Array Edge} {i0 i1 i2 i3:Nat}
  (hf:FunOK P g f (Qv2 t tb p0 p1 p2 p3 p4 p5 p6 p7 a0 a1 a2 a3 a4 a5 a6 a7 i0 i1 i2 i3)) (hres:f.results = #[.tmp 2]) (hnt:8<=f.ntmps)
  (hd:(C.ty t).d=.slice e) (hbad:C.bad e=false) {bytes:Nat} (hby:(C.ty e).bytes=bytes) (hb0:bytes≠0) {x0:V} (hb:C.buildSliceV t 0 []=some x0) (h1:isExact x0=true) (h2:isNil x0=true) (h3:zOf x0=(C.ty e).size):SoundP P g (Jx x0 e bytes):=by
 subst hby
 refine ⟨λR args S K=>?_,λargs S v S' M cargs h hN hsz hr=>?_⟩
 ·unfold Jx
  repeat' split
  all_goals rfl
 simp only [Jx,K0] at h
 split at h
 case h_2=>simp at h
 rename_i x
 split at h
 case h_2=>simp at h
 rename_i c n happ hn
 split at h
 case isFalse=>simp at h
 rename_i hle
 simp only [Zs,Z2] at h
 obtain ⟨rfl,rfl⟩:=h
 obtain ⟨cx,rfl⟩:∃cx,cargs = #[cx]:=⟨cargs.getD 0 Go.undef,by
  apply Array.ext
  ·simpa using hsz
  ·intro i hi hi'
   have:i=0:=by simp at hi';exact hi'
   subst this;simp [Z0,hi]⟩
 have hx:Rep M cx x:=by simpa using hr 0 (by simp)
 obtain ⟨A,cap,rfl⟩:=Qk2 hN.ok (λid _=>hN.is id) hn hx
 have hu:=(Q9 hT hd).1
 have hq:=hN.fresh S.length (Z4 _)
 have hev:=Qr7 hd hbad hb0 h1 h2 h3 happ hn hle
 unfold CallR
 rw [hf.enters]
 simp only
 refine calls_of_wp hf.get hf.body ?_
 generalize hact:(⟨#[.slice A n cap]++Array.replicate (f.ntmps-(#[Value.slice A n cap]:Array Value).size) Go.undef,[]⟩:Act)=act
 have hs0:8<=act.tmps.size:=by rw [<-hact];simp;omega
 have he0:act.eval (.tmp 0)=.slice A n cap:=by
  rw [<-hact]
  show (#[Value.slice A n cap]++Array.replicate _ Go.undef).getD 0 Go.undef=_
  rw [Z0,Z51 (by simp)];rfl
 have hdf:act.defers=[]:=by rw [<-hact]
 clear hact
 refine wp_seq (wp_region ?_)
 show wpOps P _ _ [0] _ _
 refine Qad (o:=⟨some 2,.assign (.const (.slice none 0 0)),t,p0,a0,none⟩) rfl rfl (Yn (cv:=.slice none 0 0) (w':=M.w) (by simp [execOp,Act.eval]) ?_)
 show (Code.seq _ _).wp P _ (act.put (some 2) (.slice none 0 0)) M.w
 refine wp_seq (wp_seq (wp_region ?_))
 show wpOps P _ _ [0,1] _ _
 refine Qad (o:=⟨some 3,.move (.tmp 0),t,p1,a1,none⟩) rfl rfl (Yn (cv:=.slice A n cap) (w':=M.w) (by simp only [execOp,Qcs (show (2:Nat)≠0 by decide),he0];rfl) ?_)
 refine Qad (o:=⟨some 4,.binOp .eql t (.tmp 3) (.const (.slice none 0 0)) t,tb,p2,a2,none⟩) rfl rfl (Yn (cv:=.bool A.isNone) (w':=M.w) (by
  have e3:((act.put (some 2) (.slice none 0 0)).put (some 3) (.slice A n cap)).eval (.tmp 3)=.slice A n cap:=eval_put (by simp only [Qak];omega)
  have ec:((act.put (some 2) (.slice none 0 0)).put (some 3) (.slice A n cap)).eval (.const (.slice none 0 0))=.slice none 0 0:=rfl
  simp only [execOp,e3,ec]
  have:=Lib.run_eql_slice_nil (P:=P) M.w t e A n cap 0 0 hu
  simp [eqGuard,this]) ?_)
 generalize hact2:(((act.put (some 2) (.slice none 0 0)).put (some 3) (.slice A n cap)).put (some 4) (.bool A.isNone))=act2
 have hs2:8<=act2.tmps.size:=by rw [<-hact2];simp only [Qak];exact hs0
 have he2:act2.eval (.tmp 0)=.slice A n cap:=by rw [<-hact2,Qcs (by decide),Qcs (by decide),Qcs (by decide)];exact he0
 have he4:act2.eval (.tmp 4)=.bool A.isNone:=by rw [<-hact2];exact eval_put (by simp only [Qak];omega)
 have hdf2:act2.defers=[]:=by rw [<-hact2];simp only [Qcv,hdf]
 clear hact2
 show (Code.cond _ _ _).wp P _ act2 M.w
 refine wp_cond he4 ?_
 have fin:∀(act3:Act) (cv:Value) (M':Mem),8<=act3.tmps.size->act3.defers=[]->act3.eval (.tmp 2)=cv->Rep M' cv (.sref S.length 0)->Post M M' S (S++[.arr 0 true e c]) [S.length] ->
   bodyPost P f (fun | .returned cv,w''=>(∃M':Mem,M'.w=w''/\Step M M'/\Now M' (S++[.arr 0 true e c])/\Rep M' cv (.sref S.length 0)/\S.length<=(S++[Blk.arr 0 true e c]).length)|_,_=>False) .ret act3 M'.w:=by
  intro act3 cv M' hs3 hd3 he3 hrep hp
  refine ⟨hd3,cv,?_,M',rfl,hp.step,hp.now hN,hrep,hp.len⟩
  have:act3.tmps.getD 2 Go.undef=cv:=by rw [<-he3];simp [Act.eval,Z0]
  rw [Z0] at this
  simp [results,hres,this]
 cases A with
 |
  none=>
  have hn0:n=0:=by
   obtain ⟨A',n',cap',fl,cf,e1,hfl,hz,hle',hm,_⟩:=Yx hN.ok (λid _=>hN.is id) hx (y:=x) (by
    unfold Wn at happ
    split at happ<;>first|(simp at happ;done)|(rename_i hh;rw [hh];rfl))
   simp only [Value.slice.injEq] at e1
   obtain ⟨e1,e2,e3⟩:=e1
   have:=hm e1.symm
   omega
  subst hn0
  simp only [Option.isNone_none,if_true]
  refine wp_seq (wp_region ?_)
  show wpOps P _ _ [0] _ _
  refine Qad (o:=⟨some 2,.assign (.const (.slice none 0 0)),t,p3,a3,none⟩) rfl rfl (Yn (cv:=.slice none 0 0) (w':=M.w) (by simp [execOp,Act.eval]) ?_)
  show Code.ret.wp P _ _ _
  refine wp_ret ?_
  have hfc:flatV c=some (0,[]):=by
   have hle2:lenV (immOf S x)=some 0:=by
    obtain ⟨A',n',cap',fl,cf,e1,hfl,_⟩:=Yx hN.ok (λid _=>hN.is id) hx (y:=x) (by
     unfold Wn at happ
     split at happ<;>first|(simp at happ;done)|(rename_i hh;rw [hh];rfl))
    simp only [Value.slice.injEq] at e1
    obtain ⟨_,rfl,_⟩:=e1
    exact (Qj hfl).2
   obtain ⟨A',n',cap',fl,cf,e1,hfl,_⟩:=Yx hN.ok (λid _=>hN.is id) hx (y:=x) (by
    unfold Wn at happ
    split at happ<;>first|(simp at happ;done)|(rename_i hh;rw [hh];rfl))
   simp only [Value.slice.injEq] at e1
   obtain ⟨_,rfl,_⟩:=e1
   have hl:=Qj hfl
   have hfl0:fl=[]:=Z6 (by rw [hl.1];simp)
   subst hfl0
   have hx0:flatV x0=some (0,[]):=by
    unfold isNil at h2
    split at h2<;>first|(simp at h2;done)|rfl|skip
    rename_i xx z
    have hz0:0<z:=by
     simp only [zOf] at h3
     obtain ⟨_,_,_,_,_⟩:=Wz hT (t:=e) (by unfold Ctx.bad at hbad;intro hh;rw [hh] at hbad;simp at hbad)
     unfold Ctx.buildSliceV at hb
     rw [hd] at hb
     simp only [hbad,Z25,if_false] at hb
     split at hb
     ·split at hb
      ·rename_i hh;rw [h3];exact Nat.pos_of_ne_zero hh.2
      ·simp at hb
     ·simp at hb
    simp [flatV,hz0]
   exact (Qa3 happ hx0 hfl).1
  obtain ⟨hrep,hp⟩:=Qpm hN.ok hq hfc (e:=e)
  exact fin _ (.slice none 0 0) (M.push S.length (.arr 0 true e c) (.nil none) M.w) (by simp only [Qak];exact hs2) (by rw [Qcv];exact hdf2) (eval_put (by omega)) hrep hp
 |
  some ad=>
  simp only [Option.isNone_some,Z25,if_false]
  refine wp_skip ?_
  refine wp_seq (wp_region ?_)
  show wpOps P _ _ [0,1,2,3] _ _
  obtain ⟨cb,w1,hrunb,hgb,hrb,_⟩:=Qi5 (M:=M) hT hN.ok (qs:=#[]) hb (by simp) (λj hj=>by simp at hj)
  have hpb:=post_world hN.ok S hgb
  refine Qad (o:=⟨some 5,.buildSlice t 0 #[],t,p4,a4,none⟩) rfl rfl (Yn (cv:=cb) (w':=w1) (by simp only [execOp,Sem.run_bind,Array.map_empty] at hrunb ⊢;rw [hrunb];rfl) ?_)
  refine Qad (o:=⟨some 6,.move (.tmp 0),t,p5,a5,none⟩) rfl rfl (Yn (cv:=.slice (some ad) n cap) (w':=w1) (by simp only [execOp,Qcs (show (5:Nat)≠0 by decide),he2];rfl) ?_)
  obtain ⟨cv,v',M',S'',wr,hruna,hK,hra,hpa,hwa⟩:=Qjq (M:={M with w:=w1}) (tx:=t) (ty:=t) hT hpb.ok (λ_=>hq) (x:=x0) (y:=x) (cx:=cb) (cy:=.slice (some ad) n cap) (λid hid=>by
    exfalso
    cases x0<;>simp [isExact] at h1<;>simp [refs1] at hid) (λid _=>hN.is id) hev (.imm hrb) (hpb.step.rep hN.ok hx) hu
  simp only [K0,Zs,Z2] at hK
  obtain ⟨rfl,rfl⟩:=hK
  refine Qad (o:=⟨some 7,.call {callee:=.builtin .append,args:=#[.tmp 5,.tmp 6],argTypes:=#[t,t]},t,p6,a6,none⟩) rfl rfl (Yn (cv:=cv) (w':=M'.w) (by
   have e5:((act2.put (some 5) cb).put (some 6) (.slice (some ad) n cap)).eval (.tmp 5)=cb:=by rw [Qcs (by decide)];exact eval_put (by omega)
   have e6:((act2.put (some 5) cb).put (some 6) (.slice (some ad) n cap)).eval (.tmp 6)=.slice (some ad) n cap:=eval_put (by simp only [Qak];omega)
   simp only [execOp,resolve,invoke,Sem.run_bind,Sem.run_pure,Result.andThen_ok,List.map_toArray,List.map_cons,List.map_nil,e5,e6,builtin,hruna]) ?_)
  refine Qad (o:=⟨some 2,.assign (.tmp 7),t,p7,a7,none⟩) rfl rfl (Yn (cv:=cv) (w':=M'.w) (by
   simp only [execOp,Sem.run_pure]
   rw [eval_put (by simp only [Qak];omega)]) ?_)
  show Code.ret.wp P _ _ _
  refine wp_ret ?_
  have hqr:S.length∈wr:=by
   by_cases hq':S.length∈wr
   ·exact hq'
   ·have:=hpa.keepS _ hq'
    simp [Zl] at this
  have hwr:wr ⊆ [S.length]:=λi hi=>by
   have:=hwa hi
   simp only [Z50] at this
   rcases this with h4|h4
   ·exfalso;cases x0<;>simp [isExact] at h1<;>simp [refs1] at h4
   ·exact h4
  refine fin _ cv M' (by simp only [Qak];exact hs2) (by simp only [Qcv];exact hdf2) (eval_put (by simp only [Qak];omega)) hra ⟨hpb.step.trans hpa.step,hpa.ok,λid hid=>?_,λid hid=>?_,λid hid=>?_,λid hid=>?_,hpa.μ',hpa.len,hpa.len'⟩
  ·have:id=S.length:=by simpa using hid
   subst this;exact hpa.wrS _ hqr
  ·exact hpa.keepM id λh4=>hid (hwr h4)
  ·exact hpa.keepS id λh4=>hid (hwr h4)
  ·exact hpa.μ id hid
end
end Go.Proofs.YtihfdjkjpncjfaaGreatDoor.A
end
section
namespace Go.Proofs
open Go.Shelf
def Tryz.lays160_ren:Go.Shelf.Ren:=⟨fun|160=>160|232=>217|231=>216|227=>218|234=>220|233=>219|236=>222|235=>221|228=>295|271=>296|151=>268|197=>259|120=>328|152=>316|260=>315|137=>261|119=>332|224=>274|225=>273|217=>272|266=>317|n=>n,fun|9=>9|4=>4|3=>3|5=>5|117=>332|116=>331|0=>0|124=>335|21=>21|105=>365|46=>197|119=>408|139=>411|138=>410|n=>n,fun|3=>3|4=>4|n=>n⟩
theorem Tryz.lays160:Go.Proofs.Lays.n160 Tryz.prog Tryz.lays160_ren:={
 mixed:=by kernel_rfl
 f119:=Tryz.func332.trans (congrArg some (by kernel_rfl))
 f120:=Tryz.func328.trans (congrArg some (by kernel_rfl))
 f137:=Tryz.func261.trans (congrArg some (by kernel_rfl))
 f151:=Tryz.func268.trans (congrArg some (by kernel_rfl))
 f152:=Tryz.func316.trans (congrArg some (by kernel_rfl))
 f160:=Tryz.func160.trans (congrArg some (by kernel_rfl))
 f197:=Tryz.func259.trans (congrArg some (by kernel_rfl))
 f217:=Tryz.func272.trans (congrArg some (by kernel_rfl))
 f224:=Tryz.func274.trans (congrArg some (by kernel_rfl))
 f225:=Tryz.func273.trans (congrArg some (by kernel_rfl))
 f227:=Tryz.func218.trans (congrArg some (by kernel_rfl))
 f228:=Tryz.func295.trans (congrArg some (by kernel_rfl))
 f231:=Tryz.func216.trans (congrArg some (by kernel_rfl))
 f232:=Tryz.func217.trans (congrArg some (by kernel_rfl))
 f233:=Tryz.func219.trans (congrArg some (by kernel_rfl))
 f234:=Tryz.func220.trans (congrArg some (by kernel_rfl))
 f235:=Tryz.func221.trans (congrArg some (by kernel_rfl))
 f236:=Tryz.func222.trans (congrArg some (by kernel_rfl))
 f260:=Tryz.func315.trans (congrArg some (by kernel_rfl))
 f266:=Tryz.func317.trans (congrArg some (by kernel_rfl))
 f271:=Tryz.func296.trans (congrArg some (by kernel_rfl))
 t0:=Tryz.underlying0
 a0:=Tryz.isAgg0
 z0:=Tryz.sizeOf0
 v0:=Tryz.zeroValue0
 t3:=Tryz.underlying3
 a3:=Tryz.isAgg3
 z3:=Tryz.sizeOf3
 v3:=Tryz.zeroValue3
 t4:=Tryz.underlying4
 a4:=Tryz.isAgg4
 z4:=Tryz.sizeOf4
 v4:=Tryz.zeroValue4
 t5:=Tryz.underlying5
 a5:=Tryz.isAgg5
 z5:=Tryz.sizeOf5
 v5:=Tryz.zeroValue5
 t9:=Tryz.underlying9
 a9:=Tryz.isAgg9
 z9:=Tryz.sizeOf9
 v9:=Tryz.zeroValue9
 t21:=Tryz.underlying21
 a21:=Tryz.isAgg21
 z21:=Tryz.sizeOf21
 v21:=Tryz.zeroValue21
 t46:=Tryz.underlying197
 a46:=Tryz.isAgg197
 z46:=Tryz.sizeOf197
 v46:=Tryz.zeroValue197
 t105:=Tryz.underlying365
 a105:=Tryz.isAgg365
 z105:=Tryz.sizeOf365
 v105:=Tryz.zeroValue365
 t116:=Tryz.underlying331
 a116:=Tryz.isAgg331
 z116:=Tryz.sizeOf331
 t117:=Tryz.underlying332
 a117:=Tryz.isAgg332
 z117:=Tryz.sizeOf332
 v117:=Tryz.zeroValue332
 t119:=Tryz.underlying408
 a119:=Tryz.isAgg408
 z119:=Tryz.sizeOf408
 t124:=Tryz.underlying335
 a124:=Tryz.isAgg335
 z124:=Tryz.sizeOf335
 v124:=Tryz.zeroValue335
 t138:=Tryz.underlying410
 a138:=Tryz.isAgg410
 z138:=Tryz.sizeOf410
 v138:=Tryz.zeroValue410
 t139:=Tryz.underlying411
 a139:=Tryz.isAgg411
 z139:=Tryz.sizeOf411
 v139:=Tryz.zeroValue411
 g3:=by kernel_rfl
 g4:=by kernel_rfl}
def Tryz.lays161_ren:Go.Shelf.Ren:=⟨fun|161=>260|231=>216|227=>218|233=>219|235=>221|228=>295|197=>259|151=>268|260=>315|152=>316|137=>261|119=>332|224=>274|225=>273|217=>272|266=>317|n=>n,fun|9=>9|4=>4|3=>3|5=>5|117=>332|116=>331|0=>0|124=>335|105=>365|21=>21|119=>408|46=>197|139=>411|138=>410|n=>n,fun|3=>3|4=>4|n=>n⟩
theorem Tryz.lays161:Go.Proofs.Lays.n161 Tryz.prog Tryz.lays161_ren:={
 mixed:=by kernel_rfl
 f119:=Tryz.func332.trans (congrArg some (by kernel_rfl))
 f137:=Tryz.func261.trans (congrArg some (by kernel_rfl))
 f151:=Tryz.func268.trans (congrArg some (by kernel_rfl))
 f152:=Tryz.func316.trans (congrArg some (by kernel_rfl))
 f161:=Tryz.func260.trans (congrArg some (by kernel_rfl))
 f197:=Tryz.func259.trans (congrArg some (by kernel_rfl))
 f217:=Tryz.func272.trans (congrArg some (by kernel_rfl))
 f224:=Tryz.func274.trans (congrArg some (by kernel_rfl))
 f225:=Tryz.func273.trans (congrArg some (by kernel_rfl))
 f227:=Tryz.func218.trans (congrArg some (by kernel_rfl))
 f228:=Tryz.func295.trans (congrArg some (by kernel_rfl))
 f231:=Tryz.func216.trans (congrArg some (by kernel_rfl))
 f233:=Tryz.func219.trans (congrArg some (by kernel_rfl))
 f235:=Tryz.func221.trans (congrArg some (by kernel_rfl))
 f260:=Tryz.func315.trans (congrArg some (by kernel_rfl))
 f266:=Tryz.func317.trans (congrArg some (by kernel_rfl))
 t0:=Tryz.underlying0
 a0:=Tryz.isAgg0
 z0:=Tryz.sizeOf0
 v0:=Tryz.zeroValue0
 t3:=Tryz.underlying3
 a3:=Tryz.isAgg3
 z3:=Tryz.sizeOf3
 v3:=Tryz.zeroValue3
 t4:=Tryz.underlying4
 a4:=Tryz.isAgg4
 z4:=Tryz.sizeOf4
 v4:=Tryz.zeroValue4
 t5:=Tryz.underlying5
 a5:=Tryz.isAgg5
 z5:=Tryz.sizeOf5
 v5:=Tryz.zeroValue5
 t9:=Tryz.underlying9
 a9:=Tryz.isAgg9
 z9:=Tryz.sizeOf9
 v9:=Tryz.zeroValue9
 t21:=Tryz.underlying21
 a21:=Tryz.isAgg21
 z21:=Tryz.sizeOf21
 v21:=Tryz.zeroValue21
 t46:=Tryz.underlying197
 a46:=Tryz.isAgg197
 z46:=Tryz.sizeOf197
 v46:=Tryz.zeroValue197
 t105:=Tryz.underlying365
 a105:=Tryz.isAgg365
 z105:=Tryz.sizeOf365
 v105:=Tryz.zeroValue365
 t116:=Tryz.underlying331
 a116:=Tryz.isAgg331
 z116:=Tryz.sizeOf331
 t117:=Tryz.underlying332
 a117:=Tryz.isAgg332
 z117:=Tryz.sizeOf332
 v117:=Tryz.zeroValue332
 t119:=Tryz.underlying408
 a119:=Tryz.isAgg408
 z119:=Tryz.sizeOf408
 t124:=Tryz.underlying335
 a124:=Tryz.isAgg335
 z124:=Tryz.sizeOf335
 v124:=Tryz.zeroValue335
 t138:=Tryz.underlying410
 a138:=Tryz.isAgg410
 z138:=Tryz.sizeOf410
 v138:=Tryz.zeroValue410
 t139:=Tryz.underlying411
 a139:=Tryz.isAgg411
 z139:=Tryz.sizeOf411
 v139:=Tryz.zeroValue411
 g3:=by kernel_rfl
 g4:=by kernel_rfl}
end Go.Proofs
end
section
namespace Go.Proofs.YtihfdjkjpncjfaaGreatDoor.A
open Go Go.RowKit
def Qbr (T:Nat):Qd6:=λ_ args S K=>match args with
 |
  [.ptr id 0]=>match S.getD id .dead with
  |
   .cells t (p::r)=>if t=T/\r.length=1 then (match p with
   |.nilp=>K (.tup []) (S.set id (.cells t (.ptr id 0::r)))
   |.ptr id' 0=>if id'=id then K (.tup []) S else none
   |_=>none) else none
  |_=>none
 |_=>none
theorem Qwl {P:Program} {g:Nat} {T:Nat} (hE:∀args w,(callFunc g args).run P w=.ok (.enter g args) w)
  (hF:∀(b:Nat) (w:World),w.cell? ⟨b,0,none⟩=some (.pointer none)->w.shape? b=some (T,2)->w.frozen? ⟨b,0,none⟩=false ->
   Calls P g #[.pointer (some ⟨b,0,none⟩)] w λe w'=>e=.returned (.tuple #[])/\w'=w.setCell ⟨b,0,none⟩ (.pointer (some ⟨b,0,none⟩)))
  (hU:∀(b:Nat) (w:World),w.cell? ⟨b,0,none⟩=some (.pointer (some ⟨b,0,none⟩)) ->
   Calls P g #[.pointer (some ⟨b,0,none⟩)] w λe w'=>e=.returned (.tuple #[])/\w'=w):SoundP P g (Qbr T):=by
 refine ⟨λR args S K=>?_,λargs S v S' M cargs h hN hsz hr=>?_⟩
 ·unfold Qbr
  repeat' split
  all_goals rfl
 simp only [Qbr,K0] at h
 split at h
 case h_2=>simp at h
 rename_i bid
 split at h
 case h_2=>simp at h
 rename_i t p r hk
 split at h
 case isFalse=>simp at h
 rename_i hc
 obtain ⟨rfl,hrl⟩:=hc
 obtain ⟨cx,rfl⟩:∃cx,cargs = #[cx]:=⟨cargs.getD 0 Go.undef,by
  apply Array.ext
  ·simpa using hsz
  ·intro i hi hi'
   have:i=0:=by simp at hi';exact hi'
   subst this;simp [Z0,hi]⟩
 have hx:Rep M cx (.ptr bid 0):=by simpa using hr 0 (by simp)
 have hk':M.S bid=.cells t (p::r):=(hN.is bid).trans hk
 have hR:=Ya hx
 obtain ⟨_,_,hp⟩:=hR
 obtain ⟨b,o,cap,hμ,rfl⟩:=hp (by rw [hk'];rfl)
 have hB:=hN.ok.blk bid _ hμ
 rw [hk'] at hB
 obtain ⟨_,_,_,he,hO,hlt,⟨ho,hsh⟩,hcell⟩:=hB
 cases he
 subst ho
 simp only [Z9,hrl] at hsh
 obtain ⟨cv,hcv,_,hrp,hfz⟩:=hcell 0 (by simp)
 simp only [Z41,Z77] at hcv hrp hfz
 have hend:∀{R:Value->World->Prop},(Calls P g #[.pointer (some ⟨b,0,none⟩)] M.w fun | .returned cv,w''=>R cv w''|_,_=>False)->CallR P g #[.pointer (some ⟨b,0,none⟩)] M.w R:=λ{R} h=>by
  unfold CallR;rw [hE];exact h
 show CallR P g #[.pointer (some ⟨b,0+0,none⟩)] M.w _
 refine hend ?_
 split at h
 ·simp only [Zs,Z2] at h
  obtain ⟨rfl,rfl⟩:=h
  obtain rfl:=Qcw hrp
  refine (hF b M.w hcv hsh hfz).mono λe w' he=>?_
  obtain ⟨rfl,rfl⟩:=he
  obtain ⟨_,hW,hB'⟩:=Qn6 hN.ok hk' hμ (off:=0) hx rfl (by simp [cellsOf])
  have hpw:=post_write hN.ok hW hB' (Wk hk (by simp))
  exact ⟨_,rfl,hpw.step,hpw.now hN,.imm (.tup #[] [] rfl (λj hj=>by simp at hj)),hpw.len⟩
 ·rename_i id'
  split at h
  case isFalse=>simp at h
  rename_i hid
  subst hid
  simp only [Zs,Z2] at h
  obtain ⟨rfl,rfl⟩:=h
  obtain ⟨_,_,hp2⟩:=Ya hrp
  obtain ⟨b2,o2,cap2,hμ2,rfl⟩:=hp2 (by rw [hk'];rfl)
  rw [hμ] at hμ2
  cases hμ2
  refine (hU b M.w hcv).mono λe w' he=>?_
  obtain ⟨rfl,rfl⟩:=he
  exact ⟨M,rfl,.refl M,hN,.imm (.tup #[] [] rfl (λj hj=>by simp at hj)),Z4 _⟩
 ·simp at h
theorem Qqn:Tryz.f185.ntmps=20:=by kernel_rfl
set_option maxHeartbeats 1000000 in
set_option maxRecDepth 100000 in
theorem Qrn (b:Nat) (w:World) (h0:w.cell? ⟨b,0,none⟩=some (.pointer (some ⟨b,0,none⟩))) :
  Calls Tryz.prog 185 #[.pointer (some ⟨b,0,none⟩)] w λe w'=>e=.returned (.tuple #[])/\w'=w:=by
 have hz:(Tryz.prog.info? 215).map (·.size)=some 2:=by kernel_rfl
 obtain ⟨j,hj,_⟩:=Z22.1 hz
 have mixed:Tryz.prog.follows .mixedOrders=true:=by kernel_rfl
 have t72:=Tryz.underlying215;have a72:=Tryz.isAgg215;have z72:=Tryz.sizeOf215;have v72:=Tryz.zeroValue215;have u72:=run_underlying Tryz.underlying215
 have t70:=Tryz.underlying213;have a70:=Tryz.isAgg213;have z70:=Tryz.sizeOf213;have v70:=Tryz.zeroValue213;have u70:=run_underlying Tryz.underlying213
 have t4:=Tryz.underlying4;have a4:=Tryz.isAgg4;have z4:=Tryz.sizeOf4;have v4:=Tryz.zeroValue4;have u4:=run_underlying Tryz.underlying4
 have t164:=Tryz.underlying362;have a164:=Tryz.isAgg362;have z164:=Tryz.sizeOf362;have v164:=Tryz.zeroValue362;have u164:=run_underlying Tryz.underlying362
 go_enter Tryz.func185,Qqn
 go_wp2
 rw [Lib.run_neq_ptr_same w _ Tryz.underlying213 hj]
 go_wp2
 go_end0
 exact ⟨rfl,rfl⟩
set_option maxHeartbeats 1000000 in
set_option maxRecDepth 100000 in
theorem Qsj (b:Nat) (w:World) (h0:w.cell? ⟨b,0,none⟩=some (.pointer none)) (hsh:w.shape? b=some (215,2)) (hfz:w.frozen? ⟨b,0,none⟩=false) :
  Calls Tryz.prog 185 #[.pointer (some ⟨b,0,none⟩)] w λe w'=>e=.returned (.tuple #[])/\w'=w.setCell ⟨b,0,none⟩ (.pointer (some ⟨b,0,none⟩)):=by
 have hz:(Tryz.prog.info? 215).map (·.size)=some 2:=by kernel_rfl
 have hl:liesAt Tryz.prog Tryz.prog.depth 215 (2/Tryz.prog.cellsOf 215) 0 215 1=true:=by kernel_rfl
 obtain ⟨j,hj,hjs⟩:=Z22.1 hz
 have mixed:Tryz.prog.follows .mixedOrders=true:=by kernel_rfl
 have t72:=Tryz.underlying215;have a72:=Tryz.isAgg215;have z72:=Tryz.sizeOf215;have v72:=Tryz.zeroValue215;have u72:=run_underlying Tryz.underlying215
 have t70:=Tryz.underlying213;have a70:=Tryz.isAgg213;have z70:=Tryz.sizeOf213;have v70:=Tryz.zeroValue213;have u70:=run_underlying Tryz.underlying213
 have t4:=Tryz.underlying4;have a4:=Tryz.isAgg4;have z4:=Tryz.sizeOf4;have v4:=Tryz.zeroValue4;have u4:=run_underlying Tryz.underlying4
 have t164:=Tryz.underlying362;have a164:=Tryz.isAgg362;have z164:=Tryz.sizeOf362;have v164:=Tryz.zeroValue362;have u164:=run_underlying Tryz.underlying362
 go_enter Tryz.func185,Qqn
 go_wp2
 rw [Lib.run_to_unsafe w ⟨b,0,none⟩ Tryz.underlying213 Tryz.underlying362 hj (by rw [hjs];decide) hsh (Nat.zero_lt_succ 1)]
 simp only [Result.andThen]
 rw [Oper.upon_value]
 go_wp2
 rw [run_callFunc_extern Tryz.func256 (by kernel_rfl) (by kernel_rfl) (by kernel_rfl) (e:=Extern.AbiNoEscape.same) (by kernel_rfl)]
 rw [Lib.run_noEscape]
 simp only [Result.andThen]
 rw [Oper.upon_value]
 go_wp2
 rw [Lib.run_from_unsafe w ⟨b,0,none⟩ Tryz.underlying362 Tryz.underlying213 hj hsh hl]
 simp only [Result.andThen]
 rw [Oper.upon_value]
 go_wp2
 go_end0
 exact ⟨rfl,rfl⟩
end Go.Proofs.YtihfdjkjpncjfaaGreatDoor.A
end
section
set_option maxRecDepth 100000
namespace Go.Proofs.YtihfdjkjpncjfaaGreatDoor.A
open Go Go.RowKit
section
variable {P:Program}
theorem Qbe {O:Nat->Prop} {w:World} {cv:Value} {k:IntKind} {n:Int} (h:Rep0 O w cv (.int k n)):cv=.int k n:=by
 cases h with
 |int=>rfl
 |slice A n' cap v fl cf hf=>simp [flatV] at hf
theorem Qc3 {O:Nat->Prop} {w:World} {cv:Value} {l:J1} (h:Rep0 O w cv (.str l)):∃s:ByteArray,cv=.string s/\s.data.toList=l:=by
 cases h with
 |str s l h=>exact ⟨s,rfl,h⟩
 |slice A n' cap v fl cf hf=>simp [flatV] at hf
theorem Qo9 {args:Array Value} (h:args.size=3):args = #[args.getD 0 Go.undef,args.getD 1 Go.undef,args.getD 2 Go.undef]:=by
 apply Array.ext
 ·simp [h]
 ·intro i hi hi'
  have:i=0\/i=1\/i=2:=by simp at hi';omega
  rcases this with rfl|rfl|rfl<;>simp [Z0,h]
theorem Qhw {args:Array Value} (h:args.size=2):args = #[args.getD 0 Go.undef,args.getD 1 Go.undef]:=by
 apply Array.ext
 ·simp [h]
 ·intro i hi hi'
  have:i=0\/i=1:=by simp at hi';omega
  rcases this with rfl|rfl<;>simp [Z0,h]
theorem Qg4 (w:World):w.grownBy w none:=⟨rfl,rfl,rfl,Z4 _,λ_ _ _=>rfl⟩
theorem Qpk {w w':World} (h:Below w.heap.size w w'):w.grownBy w' none:=⟨h.os,h.tape,h.output,h.size,λk hk _=>h.block k hk⟩
theorem Qjh {f:FuncId} {fn:Func} {e:Array Value->Sem Value} (hf:P.funcs[f]? = some fn) (hname:(fn.name == "runtime.NumGoroutine")=false) (hb:fn.body.isNone=true) (hn:Extern.findNext fn=none) (he:Extern.find fn=some e)
  {args:Array Value} {w:World} {cv:Value} {R:Value->World->Prop} (hr:(e args).run P w=.ok cv w) (h:R cv w):CallR P f args w R:=by
 unfold CallR
 rw [run_callFunc_extern hf hname hb hn he,hr]
 exact h
end
def z0.F (x y c:Int):Option (Int×Int):=if 0<=x/\0<=y/\0<=c/\c<=1 then some ((x+y+c)%18446744073709551616,(x+y+c)/18446744073709551616) else none
def z0.enc (r:Int×Int):V:=.tup [.int .u64 r.1,.int .u64 r.2]
def z0.pack:List V->Option Pack
 |[.int .u64 x,.int .u64 y,.int .u64 c]=>some ⟨Int×Int,z0.F x y c,z0.enc⟩
 |_=>none
theorem Qlb {O:Nat->Prop} {w:World} {a b:Int}:Rep0 O w (.tuple #[.int .u64 a,.int .u64 b]) (.tup [.int .u64 a,.int .u64 b]):=by
 refine .tup _ _ (by simp) λj hj=>?_
 have:j=0\/j=1:=by simp at hj;omega
 rcases this with rfl|rfl
 ·exact .int _ _
 ·exact .int _ _
theorem z0.sound (vs:List V) (p:Pack) (h:z0.pack vs=some p):SoundC Tryz.prog 138 vs p:=by
 unfold z0.pack at h
 split at h
 case h_2=>simp at h
 rename_i x y c
 simp only [Zs] at h
 subst h
 intro O w args r hm hs hr hO
 simp only [z0.F] at hm
 split at hm
 case isFalse=>simp at hm
 rename_i hc
 simp only [Zs] at hm
 subst hm
 have h0:=Qbe (hr 0 (by simp));have h1:=Qbe (hr 1 (by simp));have h2:=Qbe (hr 2 (by simp))
 rw [Qo9 (show args.size=3 by simpa using hs),h0,h1,h2]
 exact Qjh Tryz.func138 (by kernel_rfl) (by kernel_rfl) (by kernel_rfl) (e:=add64Entry) (by kernel_rfl) (run_add64 x y c hc.1 hc.2.1 hc.2.2.1 hc.2.2.2 w) ⟨Qg4 w,Qlb⟩
def z1.F (x y b:Int):Option (Int×Int):=if 0<=x/\0<=y/\y<18446744073709551616/\0<=b/\b<=1 then some ((x-y-b)%18446744073709551616,if x<y+b then 1 else 0) else none
def z1.enc (r:Int×Int):V:=.tup [.int .u64 r.1,.int .u64 r.2]
def z1.pack:List V->Option Pack
 |[.int .u64 x,.int .u64 y,.int .u64 c]=>some ⟨Int×Int,z1.F x y c,z1.enc⟩
 |_=>none
def Qko:Array Value->Sem Value:=λargs=>do
 let (x,y,b) <-Extern.MathBitsCarry.three "Sub64" args
 pure (Extern.MathBitsCarry.pair ((x+Extern.MathBitsCarry.m64-y-b)%Extern.MathBitsCarry.m64) (if x<y+b then 1 else 0))
theorem Qrq {P:Program} (x y b:Nat) (hb:b<=1) (w:World) :
  (Qko #[.int .u64 x,.int .u64 y,.int .u64 b]).run P w =
   .ok (.tuple #[.int .u64 (((x+18446744073709551616-y-b)%18446744073709551616:Nat):Int),.int .u64 ((if x<y+b then 1 else 0:Nat):Int)]) w:=by
 have:b=0\/b=1:=by omega
 rcases this with rfl|rfl<;>rfl
theorem z1.sound (vs:List V) (p:Pack) (h:z1.pack vs=some p):SoundC Tryz.prog 141 vs p:=by
 unfold z1.pack at h
 split at h
 case h_2=>simp at h
 rename_i x y b
 simp only [Zs] at h
 subst h
 intro O w args r hm hs hr hO
 simp only [z1.F] at hm
 split at hm
 case isFalse=>simp at hm
 rename_i hc
 obtain ⟨hx,hy,hy2,hb,hb1⟩:=hc
 simp only [Zs] at hm
 subst hm
 have h0:=Qbe (hr 0 (by simp));have h1:=Qbe (hr 1 (by simp));have h2:=Qbe (hr 2 (by simp))
 rw [Qo9 (show args.size=3 by simpa using hs),h0,h1,h2]
 obtain ⟨x,rfl⟩:=Int.eq_ofNat_of_zero_le hx
 obtain ⟨y,rfl⟩:=Int.eq_ofNat_of_zero_le hy
 obtain ⟨b,rfl⟩:=Int.eq_ofNat_of_zero_le hb
 refine Qjh Tryz.func141 (by kernel_rfl) (by kernel_rfl) (by kernel_rfl) (e:=Qko) (by kernel_rfl) (Qrq x y b (by omega) w) ⟨Qg4 w,?_⟩
 have e1:(((x+18446744073709551616-y-b)%18446744073709551616:Nat):Int)=((x:Int)-y-b)%18446744073709551616:=by omega
 have e2:((if x<y+b then 1 else 0:Nat):Int)=if (x:Int)<y+b then 1 else 0:=by
  by_cases hlt:x<y+b
  ·rw [if_pos hlt,if_pos (by omega)];rfl
  ·rw [if_neg hlt,if_neg (by omega)];rfl
 rw [e1,e2]
 exact Qlb
def Jk (s:J1) (c:UInt8):Int:=
 match (List.range s.length).find? λi=>s.getD i 0 == c with
 |some i=>i
 |none=>-1
def z2.F (s:J1) (c:Int):Option Int:=some (Jk s c.toNat.toUInt8)
def z2.enc (r:Int):V:=.int .i64 r
def z2.pack:List V->Option Pack
 |[.str s,.int .u8 c]=>some ⟨Int,z2.F s c,z2.enc⟩
 |_=>none
theorem Qs9 {l:List Nat} {p q:Nat->Bool} (h:∀i∈l,p i=q i):l.find? p=l.find? q:=by
 induction l with
 |nil=>rfl
 |
  cons a l ih=>
  simp only [List.find?_cons]
  rw [h a (by simp),ih λi hi=>h i (by simp [hi])]
theorem Qwg (s:ByteArray) (c:UInt8):firstIdx s c=Jk s.data.toList c:=by
 unfold firstIdx Jk
 have hz:s.size=s.data.toList.length:=by rw [Z31];rfl
 have e:((List.range s.data.toList.length).find? λi=>s[i]! == c)=(List.range s.data.toList.length).find? λi=>s.data.toList.getD i 0 == c:=Qs9 λi hi=>by
  have hi':i<s.data.toList.length:=by simpa using hi
  have hs:i<s.size:=by rw [hz];exact hi'
  have:s[i]! = s.data.toList.getD i 0:=by
   rw [getElem!_pos s i hs]
   simp only [Zl,Z1 hi',Z52]
   rfl
  rw [this]
 rw [hz,e]
 cases (List.range s.data.toList.length).find? λi=>s.data.toList.getD i 0 == c<;>rfl
theorem z2.sound (vs:List V) (p:Pack) (h:z2.pack vs=some p):SoundC Tryz.prog 317 vs p:=by
 unfold z2.pack at h
 split at h
 case h_2=>simp at h
 rename_i s c
 simp only [Zs] at h
 subst h
 intro O w args r hm hs hr hO
 simp only [z2.F,Zs] at hm
 subst hm
 obtain ⟨s',h0,rfl⟩:=Qc3 (hr 0 (by simp));have h1:=Qbe (hr 1 (by simp))
 rw [Qhw (show args.size=2 by simpa using hs),h0,h1]
 refine Qjh Tryz.func317 (by kernel_rfl) (by kernel_rfl) (by kernel_rfl) (e:=Extern.BytealgIndexByte.indexByte) (by kernel_rfl) (run_indexByte_string s' c w) ⟨Qg4 w,?_⟩
 rw [Qwg];exact .int _ _
def trimL (l cs:J1):J1:=l.dropWhile (cs.contains ·)
def Qid (l:J1):Bool:=l.all λc=>decide (c.toNat<128)
theorem Qqo {l:J1} (h:Qid l=true) (j:Nat) (b:UInt8) (hb:l[j]? = some b):b.toNat<128:=by
 have:=Z23.1 h b (List.mem_of_getElem? hb)
 simpa using this
def z3.F (s cs:J1):Option J1:=if s.length<=9223372036854775807/\cs.length<4294967281/\Qid cs=true then some (Lib.trimS s cs) else none
def z3.enc (r:J1):V:=.str r
def z3.pack:List V->Option Pack
 |[.str s,.str c]=>some ⟨J1,z3.F s c,z3.enc⟩
 |_=>none
theorem Ql9 {P:Program} {g:FuncId} {f:Func} {args:Array Value} {w:World} {R:Value->World->Prop} (hf:P.funcs[g]? = some f) (hb:f.body.isNone=false) (hname:(f.name == "runtime.NumGoroutine")=false)
  (h:Calls P g args w λe w'=>∃cv,e=.returned cv/\R cv w'):CallR P g args w R:=by
 have h1:f.name≠"runtime.NumGoroutine":=by simpa using hname
 have h2:f.body.isSome=true:=by cases hh:f.body<;>simp [hh] at hb ⊢
 unfold CallR
 have:(callFunc g args).run P w=.ok (.enter g args) w:=by
  obtain ⟨c,hc⟩:=Z69.1 h2
  simp [callFunc,go_sem,hf,h1,hc]
 rw [this]
 exact h.mono λe w' ⟨cv,he,hr⟩=>by subst he;exact hr
theorem z3.sound (vs:List V) (p:Pack) (h:z3.pack vs=some p):SoundC Tryz.prog 160 vs p:=by
 unfold z3.pack at h
 split at h
 case h_2=>simp at h
 rename_i s c
 simp only [Zs] at h
 subst h
 intro O w args r hm hs hr hO
 simp only [z3.F] at hm
 split at hm
 case isFalse=>simp at hm
 rename_i hc
 simp only [Zs] at hm
 subst hm
 obtain ⟨s',h0,rfl⟩:=Qc3 (hr 0 (by simp));obtain ⟨c',h1,rfl⟩:=Qc3 (hr 1 (by simp))
 rw [Qhw (show args.size=2 by simpa using hs),h0,h1]
 have hz:∀s:ByteArray,s.size=s.data.toList.length:=λs=>by rw [Z31];rfl
 refine Ql9 Tryz.func160 (by kernel_rfl) (by kernel_rfl) ?_
 exact (Any.strings_Trim_laid Tryz.lays160 (by kernel_rfl) s' c' w (by rw [hz];exact hc.1) (by rw [hz];exact hc.2.1) (λj b hb=>Qqo hc.2.2 j b hb)).mono λe w' ⟨he,hb⟩=>⟨_,he,Qpk hb,.str _ _ rfl⟩
def z4.F (s cs:J1):Option J1:=if cs.length<4294967281/\Qid cs=true then some (trimL s cs) else none
def z4.enc (r:J1):V:=.str r
def z4.pack:List V->Option Pack
 |[.str s,.str c]=>some ⟨J1,z4.F s c,z4.enc⟩
 |_=>none
theorem z4.sound (vs:List V) (p:Pack) (h:z4.pack vs=some p):SoundC Tryz.prog 260 vs p:=by
 unfold z4.pack at h
 split at h
 case h_2=>simp at h
 rename_i s c
 simp only [Zs] at h
 subst h
 intro O w args r hm hs hr hO
 simp only [z4.F] at hm
 split at hm
 case isFalse=>simp at hm
 rename_i hc
 simp only [Zs] at hm
 subst hm
 obtain ⟨s',h0,rfl⟩:=Qc3 (hr 0 (by simp));obtain ⟨c',h1,rfl⟩:=Qc3 (hr 1 (by simp))
 rw [Qhw (show args.size=2 by simpa using hs),h0,h1]
 have hz:∀s:ByteArray,s.size=s.data.toList.length:=λs=>by rw [Z31];rfl
 refine Ql9 Tryz.func260 (by kernel_rfl) (by kernel_rfl) ?_
 exact (Any.strings_TrimLeft_laid Tryz.lays161 (by kernel_rfl) s' c' w (by rw [hz];exact hc.1) (λj b hb=>Qqo hc.2 j b hb)).mono λe w' ⟨he,hb⟩=>⟨_,he,Qpk hb,.str _ _ rfl⟩
theorem Qrg:SoundP Tryz.prog 185 (Qbr 215):=
 Qwl (FunOK.enters ⟨Tryz.func185,rfl,by kernel_rfl⟩) Qsj Qrn
end Go.Proofs.YtihfdjkjpncjfaaGreatDoor.A
end
section
namespace Go.Proofs.YtihfdjkjpncjfaaGreatDoor.A
open Go
def tab:Tab:=
 (.node 169 {d:=.slice 175,size:=1,bytes:=24,zero:=[(.recs true 6 [])],flat:=[169]} (.node 73 {d:=.struct [(0,1,9),(1,1,9),(2,1,3),(3,1,3),(4,1,3),(5,3,41),(8,1,3),(9,1,3)],size:=10,bytes:=96,zero:=[(.str ([]:J1)),(.str ([]:J1)),(.int .i64 0),(.int .i64 0),(.int .i64 0),(.int .i64 0),(.int .i64 0),(.int .i64 0),(.int .i64 0),(.int .i64 0)],flat:=[9,9,3,3,3,3,3,3,3,3],eq:=true} (.node 35 {d:=.slice 63,size:=1,bytes:=24,zero:=[(.ints true .u64 [])],flat:=[35]} (.node 21 {d:=.int .i32,size:=1,bytes:=4,zero:=[(.int .i32 0)],flat:=[21]} (.node 5 {d:=.int .u8,size:=1,bytes:=1,zero:=[(.int .u8 0)],flat:=[5]} (.node 3 {d:=.int .i64,size:=1,bytes:=8,zero:=[(.int .i64 0)],flat:=[3]} (.node 0 {d:=.tuple,size:=1,bytes:=0,zero:=[.undef],flat:=[0]} .nil .nil) (.node 4 {d:=.bool,size:=1,bytes:=1,zero:=[(.bool false)],flat:=[4]} .nil .nil)) (.node 20 {d:=.iface,size:=1,bytes:=16,zero:=[.nili],flat:=[20]} (.node 9 {d:=.str,size:=1,bytes:=16,zero:=[(.str ([]:J1))],flat:=[9]} .nil .nil) .nil)) (.node 24 {d:=.slice 65,size:=1,bytes:=24,zero:=[(.ints true .u32 [])],flat:=[24]} (.node 23 {d:=.slice 5,size:=1,bytes:=24,zero:=[(.ints true .u8 [])],flat:=[23]} (.node 22 {d:=.array 3 3,size:=3,bytes:=24,zero:=[(.int .i64 0),(.int .i64 0),(.int .i64 0)],flat:=[3,3,3]} .nil .nil) .nil) (.node 32 {d:=.int .i64,size:=1,bytes:=8,zero:=[(.int .i64 0)],flat:=[32]} (.node 30 {d:=.slice 41,size:=1,bytes:=24,zero:=[(.recs true 3 [])],flat:=[30]} .nil .nil) .nil))) (.node 63 {d:=.int .u64,size:=1,bytes:=8,zero:=[(.int .u64 0)],flat:=[63]} (.node 41 {d:=.struct [(0,1,3),(1,1,3),(2,1,3)],size:=3,bytes:=24,zero:=[(.int .i64 0),(.int .i64 0),(.int .i64 0)],flat:=[3,3,3],eq:=true} (.node 39 {d:=.struct [(0,1,37),(1,1,4)],size:=2,bytes:=32,zero:=[(.ints true .u64 []),(.bool false)],flat:=[35,4]} (.node 37 {d:=.struct [(0,1,35)],size:=1,bytes:=24,zero:=[(.ints true .u64 [])],flat:=[35]} .nil .nil) .nil) (.node 47 {d:=.struct [(0,1,45),(1,1,4)],size:=2,bytes:=32,zero:=[(.ints true .i64 []),(.bool false)],flat:=[45,4]} (.node 45 {d:=.slice 3,size:=1,bytes:=24,zero:=[(.ints true .i64 [])],flat:=[45]} .nil .nil) .nil)) (.node 67 {d:=.struct [(0,1,63),(1,1,64),(2,1,65),(3,1,5),(4,1,5),(5,1,5),(6,1,5),(7,1,5),(8,1,5),(9,3,22)],size:=12,bytes:=48,zero:=[(.int .u64 0),(.int .u16 0),(.int .u32 0),(.int .u8 0),(.int .u8 0),(.int .u8 0),(.int .u8 0),(.int .u8 0),(.int .u8 0),(.int .i64 0),(.int .i64 0),(.int .i64 0)],flat:=[63,64,65,5,5,5,5,5,5,3,3,3],eq:=true} (.node 65 {d:=.int .u32,size:=1,bytes:=4,zero:=[(.int .u32 0)],flat:=[65]} (.node 64 {d:=.int .u16,size:=1,bytes:=2,zero:=[(.int .u16 0)],flat:=[64]} .nil .nil) .nil) (.node 71 {d:=.struct [(0,12,67),(12,6,69),(18,1,4)],size:=19,bytes:=152,zero:=[(.int .u64 0),(.int .u16 0),(.int .u32 0),(.int .u8 0),(.int .u8 0),(.int .u8 0),(.int .u8 0),(.int .u8 0),(.int .u8 0),(.int .i64 0),(.int .i64 0),(.int .i64 0),(.int .i64 0),(.int .i64 0),(.int .i64 0),(.ints true .u8 []),(.ints true .u8 []),(.ints true .u32 []),(.bool false)],flat:=[63,64,65,5,5,5,5,5,5,3,3,3,3,3,3,23,23,24,4]} (.node 69 {d:=.struct [(0,3,22),(3,1,23),(4,1,23),(5,1,24)],size:=6,bytes:=96,zero:=[(.int .i64 0),(.int .i64 0),(.int .i64 0),(.ints true .u8 []),(.ints true .u8 []),(.ints true .u32 [])],flat:=[3,3,3,23,23,24]} .nil .nil) .nil)))) (.node 99 {d:=.tuple,size:=1,bytes:=0,zero:=[.undef],flat:=[99]} (.node 82 {d:=.tuple,size:=1,bytes:=0,zero:=[.undef],flat:=[82]} (.node 77 {d:=.slice 81,size:=1,bytes:=24,zero:=[(.recs true 8 [])],flat:=[77]} (.node 75 {d:=.tuple,size:=1,bytes:=0,zero:=[.undef],flat:=[75]} (.node 74 {d:=.slice 85,size:=1,bytes:=24,zero:=[(.recs true 5 [])],flat:=[74]} .nil .nil) .nil) (.node 81 {d:=.struct [(0,3,41),(3,1,9),(4,1,9),(5,1,9),(6,1,9),(7,1,9)],size:=8,bytes:=104,zero:=[(.int .i64 0),(.int .i64 0),(.int .i64 0),(.str ([]:J1)),(.str ([]:J1)),(.str ([]:J1)),(.str ([]:J1)),(.str ([]:J1))],flat:=[3,3,3,9,9,9,9,9],eq:=true} (.node 78 {d:=.tuple,size:=1,bytes:=0,zero:=[.undef],flat:=[78]} .nil .nil) .nil)) (.node 90 {d:=.slice 64,size:=1,bytes:=24,zero:=[(.ints true .u16 [])],flat:=[90]} (.node 87 {d:=.tuple,size:=1,bytes:=0,zero:=[.undef],flat:=[87]} (.node 85 {d:=.struct [(0,1,3),(1,3,41),(4,1,9)],size:=5,bytes:=48,zero:=[(.int .i64 0),(.int .i64 0),(.int .i64 0),(.int .i64 0),(.str ([]:J1))],flat:=[3,3,3,3,9],eq:=true} .nil .nil) .nil) (.node 94 {d:=.struct [(0,12,67),(12,1,35),(13,1,3),(14,6,92)],size:=20,bytes:=176,zero:=[(.int .u64 0),(.int .u16 0),(.int .u32 0),(.int .u8 0),(.int .u8 0),(.int .u8 0),(.int .u8 0),(.int .u8 0),(.int .u8 0),(.int .i64 0),(.int .i64 0),(.int .i64 0),(.ints true .u64 []),(.int .i64 0),(.int .i64 0),(.int .i64 0),(.int .i64 0),(.ints true .u8 []),(.ints true .u32 []),(.ints true .u16 [])],flat:=[63,64,65,5,5,5,5,5,5,3,3,3,35,3,3,3,3,23,24,90]} (.node 92 {d:=.struct [(0,3,22),(3,1,23),(4,1,24),(5,1,90)],size:=6,bytes:=96,zero:=[(.int .i64 0),(.int .i64 0),(.int .i64 0),(.ints true .u8 []),(.ints true .u32 []),(.ints true .u16 [])],flat:=[3,3,3,23,24,90]} .nil .nil) .nil))) (.node 121 {d:=.slice 9,size:=1,bytes:=24,zero:=[(.strs true [])],flat:=[121]} (.node 108 {d:=.tuple,size:=1,bytes:=0,zero:=[.undef],flat:=[108]} (.node 107 {d:=.struct [(0,3,41),(3,3,41),(6,1,9),(7,1,9)],size:=8,bytes:=80,zero:=[(.int .i64 0),(.int .i64 0),(.int .i64 0),(.int .i64 0),(.int .i64 0),(.int .i64 0),(.str ([]:J1)),(.str ([]:J1))],flat:=[3,3,3,3,3,3,9,9],eq:=true} (.node 104 {d:=.slice 107,size:=1,bytes:=24,zero:=[(.recs true 8 [])],flat:=[104]} .nil .nil) .nil) (.node 119 {d:=.tuple,size:=1,bytes:=0,zero:=[.undef],flat:=[119]} (.node 110 {d:=.tuple,size:=1,bytes:=0,zero:=[.undef],flat:=[110]} .nil .nil) .nil)) (.node 138 {d:=.tuple,size:=1,bytes:=0,zero:=[.undef],flat:=[138]} (.node 134 {d:=.tuple,size:=1,bytes:=0,zero:=[.undef],flat:=[134]} (.node 123 {d:=.tuple,size:=1,bytes:=0,zero:=[.undef],flat:=[123]} .nil .nil) .nil) (.node 168 {d:=.func,size:=1,bytes:=8,zero:=[.nilf],flat:=[168]} (.node 150 {d:=.tuple,size:=1,bytes:=0,zero:=[.undef],flat:=[150]} .nil .nil) .nil))))) (.node 249 {d:=.tuple,size:=1,bytes:=0,zero:=[.undef],flat:=[249]} (.node 213 {d:=.ptr 215,size:=1,bytes:=8,zero:=[.nilp],flat:=[213]} (.node 185 {d:=.tuple,size:=1,bytes:=0,zero:=[.undef],flat:=[185]} (.node 178 {d:=.struct [(0,10,73),(10,2,39),(12,1,9),(13,2,39),(15,1,77)],size:=16,bytes:=200,zero:=[(.str ([]:J1)),(.str ([]:J1)),(.int .i64 0),(.int .i64 0),(.int .i64 0),(.int .i64 0),(.int .i64 0),(.int .i64 0),(.int .i64 0),(.int .i64 0),(.ints true .u64 []),(.bool false),(.str ([]:J1)),(.ints true .u64 []),(.bool false),(.recs true 8 [])],flat:=[9,9,3,3,3,3,3,3,3,3,35,4,9,35,4,77]} (.node 175 {d:=.struct [(0,3,41),(3,3,41)],size:=6,bytes:=48,zero:=[(.int .i64 0),(.int .i64 0),(.int .i64 0),(.int .i64 0),(.int .i64 0),(.int .i64 0)],flat:=[3,3,3,3,3,3],eq:=true} (.node 170 {d:=.tuple,size:=1,bytes:=0,zero:=[.undef],flat:=[170]} .nil .nil) (.node 176 {d:=.ptr 178,size:=1,bytes:=8,zero:=[.nilp],flat:=[176]} .nil .nil)) (.node 183 {d:=.tuple,size:=1,bytes:=0,zero:=[.undef],flat:=[183]} (.node 181 {d:=.tuple,size:=1,bytes:=0,zero:=[.undef],flat:=[181]} .nil .nil) .nil)) (.node 197 {d:=.int .u64,size:=1,bytes:=8,zero:=[(.int .u64 0)],flat:=[197]} (.node 191 {d:=.struct [(0,3,41),(3,3,41)],size:=6,bytes:=48,zero:=[(.int .i64 0),(.int .i64 0),(.int .i64 0),(.int .i64 0),(.int .i64 0),(.int .i64 0)],flat:=[3,3,3,3,3,3],eq:=true} (.node 188 {d:=.slice 191,size:=1,bytes:=24,zero:=[(.recs true 6 [])],flat:=[188]} .nil .nil) .nil) (.node 211 {d:=.ptr 107,size:=1,bytes:=8,zero:=[.nilp],flat:=[211]} (.node 200 {d:=.struct [(0,2,47),(2,1,3)],size:=3,bytes:=40,zero:=[(.ints true .i64 []),(.bool false),(.int .i64 0)],flat:=[45,4,3]} .nil .nil) .nil))) (.node 225 {d:=.ptr 227,size:=1,bytes:=8,zero:=[.nilp],flat:=[225]} (.node 218 {d:=.tuple,size:=1,bytes:=0,zero:=[.undef],flat:=[218]} (.node 217 {d:=.iface,size:=1,bytes:=16,zero:=[.nili],flat:=[217]} (.node 215 {d:=.struct [(0,1,213),(1,1,23)],size:=2,bytes:=32,zero:=[.nilp,.nilsl],flat:=[213,23]} .nil .nil) .nil) (.node 223 {d:=.tuple,size:=1,bytes:=0,zero:=[.undef],flat:=[223]} (.node 222 {d:=.slice 230,size:=1,bytes:=24,zero:=[(.recs true 3 [])],flat:=[222]} .nil .nil) .nil)) (.node 230 {d:=.struct [(0,1,228),(1,1,9),(2,1,3)],size:=3,bytes:=32,zero:=[(.int .i64 0),(.str ([]:J1)),(.int .i64 0)],flat:=[228,9,3],eq:=true} (.node 228 {d:=.int .i64,size:=1,bytes:=8,zero:=[(.int .i64 0)],flat:=[228]} (.node 227 {d:=.struct [(0,1,222),(1,1,3),(2,1,3)],size:=3,bytes:=40,zero:=[(.recs true 3 []),(.int .i64 0),(.int .i64 0)],flat:=[222,3,3]} .nil .nil) .nil) (.node 245 {d:=.tuple,size:=1,bytes:=0,zero:=[.undef],flat:=[245]} (.node 231 {d:=.tuple,size:=1,bytes:=0,zero:=[.undef],flat:=[231]} .nil .nil) .nil)))) (.node 313 {d:=.int .i64,size:=1,bytes:=8,zero:=[(.int .i64 0)],flat:=[313]} (.node 282 {d:=.tuple,size:=1,bytes:=0,zero:=[.undef],flat:=[282]} (.node 273 {d:=.tuple,size:=1,bytes:=0,zero:=[.undef],flat:=[273]} (.node 267 {d:=.tuple,size:=1,bytes:=0,zero:=[.undef],flat:=[267]} (.node 263 {d:=.tuple,size:=1,bytes:=0,zero:=[.undef],flat:=[263]} .nil .nil) .nil) (.node 281 {d:=.struct [(0,2,39),(2,1,37)],size:=3,bytes:=56,zero:=[(.ints true .u64 []),(.bool false),(.ints true .u64 [])],flat:=[35,4,35]} (.node 277 {d:=.struct [(0,2,47),(2,1,45)],size:=3,bytes:=56,zero:=[(.ints true .i64 []),(.bool false),(.ints true .i64 [])],flat:=[45,4,45]} .nil .nil) .nil)) (.node 302 {d:=.ptr 5,size:=1,bytes:=8,zero:=[.nilp],flat:=[302]} (.node 289 {d:=.tuple,size:=1,bytes:=0,zero:=[.undef],flat:=[289]} (.node 287 {d:=.int .i64,size:=1,bytes:=8,zero:=[(.int .i64 0)],flat:=[287]} .nil .nil) .nil) (.node 310 {d:=.ptr 85,size:=1,bytes:=8,zero:=[.nilp],flat:=[310]} (.node 304 {d:=.tuple,size:=1,bytes:=0,zero:=[.undef],flat:=[304]} .nil .nil) .nil))) (.node 356 {d:=.struct [(0,2,39),(2,1,3)],size:=3,bytes:=40,zero:=[(.ints true .u64 []),(.bool false),(.int .i64 0)],flat:=[35,4,3]} (.node 322 {d:=.array 20 5,size:=20,bytes:=20,zero:=[(.int .u8 0),(.int .u8 0),(.int .u8 0),(.int .u8 0),(.int .u8 0),(.int .u8 0),(.int .u8 0),(.int .u8 0),(.int .u8 0),(.int .u8 0),(.int .u8 0),(.int .u8 0),(.int .u8 0),(.int .u8 0),(.int .u8 0),(.int .u8 0),(.int .u8 0),(.int .u8 0),(.int .u8 0),(.int .u8 0)],flat:=[5,5,5,5,5,5,5,5,5,5,5,5,5,5,5,5,5,5,5,5]} (.node 320 {d:=.tuple,size:=1,bytes:=0,zero:=[.undef],flat:=[320]} (.node 318 {d:=.tuple,size:=1,bytes:=0,zero:=[.undef],flat:=[318]} .nil .nil) .nil) (.node 354 {d:=.array 12 3,size:=12,bytes:=96,zero:=[(.int .i64 0),(.int .i64 0),(.int .i64 0),(.int .i64 0),(.int .i64 0),(.int .i64 0),(.int .i64 0),(.int .i64 0),(.int .i64 0),(.int .i64 0),(.int .i64 0),(.int .i64 0)],flat:=[3,3,3,3,3,3,3,3,3,3,3,3]} (.node 344 {d:=.tuple,size:=1,bytes:=0,zero:=[.undef],flat:=[344]} .nil .nil) .nil)) (.node 370 {d:=.tuple,size:=1,bytes:=0,zero:=[.undef],flat:=[370]} (.node 367 {d:=.func,size:=1,bytes:=8,zero:=[.nilf],flat:=[367]} (.node 357 {d:=.tuple,size:=1,bytes:=0,zero:=[.undef],flat:=[357]} .nil .nil) .nil) (.node 399 {d:=.tuple,size:=1,bytes:=0,zero:=[.undef],flat:=[399]} (.node 390 {d:=.tuple,size:=1,bytes:=0,zero:=[.undef],flat:=[390]} .nil .nil) .nil))))))
noncomputable section
def z5.l2P {R:Type} (rec done:(J1×Int×Int)->Option R):(J1×Int×Int)->Option R:=λx=>match x with
 |(a,b,c)=>(bif (decide (c<4)) then (if ([(wr .u8 (wr .i64 ((48:Int)+(Int.tmod b 10))))].map λn=>UInt8.ofNat n.toNat).length+a.length<=9223372036854775807 then (rec ((([(wr .u8 (wr .i64 ((48:Int)+(Int.tmod b 10))))].map λn=>UInt8.ofNat n.toNat)++a),(wr .i64 (Int.tdiv b 10)),(wr .i64 (c+1)))) else none) else (done (a,b,c)))
def z5.l2 (x:(J1×Int×Int)):Option ((J1×Int×Int)):=lfp (λrec x=>z5.l2P rec some x) x
def z5.l0P (a:J0) {R:Type} (rec done:(J1×Int)->Option R):(J1×Int)->Option R:=λx=>match x with
 |(b,c)=>(bif (decide (c<(((a).length:Nat):Int))) then (if 0<=c/\c<(a.length:Int) then ((z5.l2 (b,(a.getD (c).toNat 0),(0:Int))).bind λd=>(rec (d.1,(wr .i64 (c+1))))) else none) else (done (b,c)))
def z5.l0 (a:J0) (x:(J1×Int)):Option ((J1×Int)):=lfp (λrec x=>z5.l0P a rec some x) x
def z5.l4P (a:J1) {R:Type} (rec:Int->Option R) (done:(Int)->Option R):Int->Option R:=λb=>(if 0<=b/\b<(a.length:Int) then (bif (decide (((a.getD (b).toNat 0).toNat:Int)=48)) then (rec (wr .i64 (b+1))) else (done b)) else none)
def z5.l4 (a:J1) (x:Int):Option ((Int)):=lfp (λrec x=>z5.l4P a rec some x) x
def z5.F (a0:J0):Option (J1):=
 (bif (decide ((((a0).length:Nat):Int)=0)) then (some ([48]:J1)) else ((z5.l0 a0 (([]:J1),(0:Int))).bind λo1=>((z5.l4 o1.1 0).bind λo2=>(if 0<=o2/\o2<=((o1.1).length:Int) then (some (o1.1.drop (o2).toNat)) else none))))
def z5.enc (r:J1):V:=(.str r)
def z5.pack:List V->Option Pack
 |[(.ints _ .i64 a0)]=>some ⟨J1,z5.F a0,z5.enc⟩
 |_=>none
def z6.F (a0:J0) (a1:Bool):Option (J1):=
 ((z5.F a0).bind λr1=>(bif a1 then (if ([45]:J1).length+r1.length<=9223372036854775807 then (some (([45]:J1)++r1)) else none) else (some r1)))
def z6.pack:List V->Option Pack
 |[(.agg [(.ints _ .i64 a0),(.bool a1)])]=>some ⟨J1,z6.F a0 a1,z5.enc⟩
 |_=>none
def z7.j1 (a0:Int):Option (Bool):=
 (bif (decide ((Int.tmod a0 400)=0)) then (some true) else (bif (decide ((Int.tmod a0 4)=0)) then (some (!decide ((Int.tmod a0 100)=0))) else (some false)))
def z7.F (a0:Int):Option (Bool):=
 (bif (decide (a0<1)) then (some false) else (bif (decide (a0>9999)) then (some false) else (z7.j1 a0)))
def z7.enc (r:Bool):V:=(.bool r)
def z7.pack:List V->Option Pack
 |[(.int .i64 a0)]=>some ⟨Bool,z7.F a0,z7.enc⟩
 |_=>none
def z8.j1 (a1 a0:Int):Option (Int):=
 (bif (decide (a1=2)) then ((z7.F a0).bind λr2=>(bif r2 then (some 29) else (some 28))) else (bif (decide (a1=4)) then (some 30) else (bif (decide (a1=6)) then (some 30) else (bif (decide (a1=9)) then (some 30) else (bif (decide (a1=11)) then (some 30) else (some 31))))))
def z8.F (a0 a1:Int):Option (Int):=
 (bif (decide (a0<1)) then (some 0) else (bif (decide (a0>9999)) then (some 0) else (bif (decide (a1<1)) then (some 0) else (bif (decide (a1>12)) then (some 0) else (z8.j1 a1 a0)))))
def z8.enc (r:Int):V:=(.int .i64 r)
def z8.pack:List V->Option Pack
 |[(.int .i64 a0),(.int .i64 a1)]=>some ⟨Int,z8.F a0 a1,z8.enc⟩
 |_=>none
def z9.F (a0 a1 a2:Int):Option (Int×Int×Int×Bool):=
 ((z8.F a0 a1).bind λr1=>(bif (decide (a2<r1)) then (some (a0,a1,(wr .i64 (a2+1)),true)) else (bif (decide (a1<12)) then (some (a0,(wr .i64 (a1+1)),(1:Int),true)) else (some ((wr .i64 (a0+1)),(1:Int),(1:Int),(decide (a0<9999)))))))
def z9.enc (r:Int×Int×Int×Bool):V:=(.tup [(.agg [(.int .i64 r.1),(.int .i64 r.2.1),(.int .i64 r.2.2.1)]),(.bool r.2.2.2)])
def z9.pack:List V->Option Pack
 |[(.agg [(.int .i64 a0),(.int .i64 a1),(.int .i64 a2)])]=>some ⟨Int×Int×Int×Bool,z9.F a0 a1 a2,z9.enc⟩
 |_=>none
def z10.F (a0:J0) (a1:Bool):Option (J0×Bool):=
 (bif a1 then (some (a0,(decide ((((a0).length:Nat):Int)>0)))) else (some (a0,false)))
def z10.enc (r:J0×Bool):V:=(.agg [(.ints false .i64 r.1),(.bool r.2)])
def z10.pack:List V->Option Pack
 |[(.ints _ .i64 a0),(.bool a1)]=>some ⟨J0×Bool,z10.F a0 a1,z10.enc⟩
 |_=>none
def z11.l0P {R:Type} (rec done:(Int×J0)->Option R):(Int×J0)->Option R:=λx=>match x with
 |(a,b)=>(bif (decide (a>0)) then (if ((b).length+([(Int.tmod a 10000)]).length)*8<=140737488355328 then (rec ((wr .i64 (Int.tdiv a 10000)),(b++[(Int.tmod a 10000)]))) else none) else (done (a,b)))
def z11.l0 (x:(Int×J0)):Option ((Int×J0)):=lfp (λrec x=>z11.l0P rec some x) x
def z11.F (a0:Int):Option (J0):=
 ((z11.l0 (a0,[])).bind λo1=>(some o1.2))
def z11.enc (r:J0):V:=(.ints false .i64 r)
def z11.pack:List V->Option Pack
 |[(.int .i64 a0)]=>some ⟨J0,z11.F a0,z11.enc⟩
 |_=>none
def z12.F (a0:Int):Option (J0×Bool):=
 (bif (decide (a0<0)) then ((z11.F (wr .i64 (0-a0))).bind λr1=>((z10.F r1 true).bind λr2=>(some (r2.1,r2.2)))) else ((z11.F a0).bind λr3=>((z10.F r3 false).bind λr4=>(some (r4.1,r4.2)))))
def z12.pack:List V->Option Pack
 |[(.int .i64 a0)]=>some ⟨J0×Bool,z12.F a0,z10.enc⟩
 |_=>none
def z13.l2P (a:Int) (b:J0) {R:Type} (rec done:(Int×Int×Int×Int)->Option R):(Int×Int×Int×Int)->Option R:=λx=>match x with
 |(c,d,e,g)=>(if 0<=a/\a<(b.length:Int) then (bif (decide (c<(Int.tmod (wr .i64 (b.getD (a).toNat 0)) 71))) then ((z9.F d e g).bind λh=>(bif h.2.2.2 then (rec ((wr .i64 (c+1)),h.1,h.2.1,h.2.2.1)) else (rec ((wr .i64 (c+1)),d,e,g)))) else (done (c,d,e,g))) else none)
def z13.l2 (a:Int) (b:J0) (x:(Int×Int×Int×Int)):Option ((Int×Int×Int×Int)):=lfp (λrec x=>z13.l2P a b rec some x) x
def z13.j1022a {R:Type} (rec done:(Int×J2×Int×Int×Int)->Option R) (a:J2) (b:Int) (c:Int×Int×Int×Int) (d:J1) (e:Int):Option R:=
 (if ((a).length+(([[(.int .i64 (Int.tmod b 4)),(.int .i64 c.2.1),(.int .i64 c.2.2.1),(.int .i64 c.2.2.2),(.str d)]]:J2)).length)*48<=140737488355328 then (rec ((wr .i64 (e+1)),(a++([[(.int .i64 (Int.tmod b 4)),(.int .i64 c.2.1),(.int .i64 c.2.2.1),(.int .i64 c.2.2.2),(.str d)]]:J2)),c.2.1,c.2.2.1,c.2.2.2)) else none)
def z13.j1021a {R:Type} (rec done:(Int×J2×Int×Int×Int)->Option R) (a:Int) (b:J2) (c:Int×Int×Int×Int) (d:Int) (e:J1):Option R:=
 (bif (decide ((Int.tmod a 4)=0)) then (bif (!decide ((Int.tmod (wr .i64 (Int.tdiv a 4)) 3)=0)) then (z13.j1022a rec done b a c ([100,117,101]:J1) d) else (z13.j1022a rec done b a c e d)) else (if ((b).length+(([[(.int .i64 (Int.tmod a 4)),(.int .i64 c.2.1),(.int .i64 c.2.2.1),(.int .i64 c.2.2.2),(.str e)]]:J2)).length)*48<=140737488355328 then (rec ((wr .i64 (d+1)),(b++([[(.int .i64 (Int.tmod a 4)),(.int .i64 c.2.1),(.int .i64 c.2.2.1),(.int .i64 c.2.2.2),(.str e)]]:J2)),c.2.1,c.2.2.1,c.2.2.2)) else none))
def z13.j1019a {R:Type} (rec done:(Int×J2×Int×Int×Int)->Option R) (a:Int) (b:J0) (c:Bool) (d:J2) (e:Int×Int×Int×Int) (g:Int):Option R:=
 (bif (!decide ((Int.tmod a 4)=3)) then ((z6.F b c).bind λh=>(z13.j1021a rec done a d e g h)) else (z13.j1021a rec done a d e g ([]:J1)))
def z13.j1015a {R:Type} (rec done:(Int×J2×Int×Int×Int)->Option R) (a b:Int) (c:J2) (d:Int×Int×Int×Int) (e:Int):Option R:=
 ((z12.F a).bind λg=>(bif (decide ((Int.tmod b 4)=2)) then ((z12.F (Int.tmod a 900)).bind λh=>(z13.j1019a rec done b h.1 h.2 c d e)) else (z13.j1019a rec done b g.1 g.2 c d e)))
def z13.j1014a {R:Type} (rec done:(Int×J2×Int×Int×Int)->Option R) (a:Int) (b:J0) (c:Int) (d:J2) (e:Int×Int×Int×Int):Option R:=
 (bif (decide (a<(((b).length:Nat):Int))) then (if 0<=a/\a<(b.length:Int) then (z13.j1015a rec done (wr .i64 ((1:Int)+(wr .i64 (b.getD (a).toNat 0)))) c d e a) else none) else (z13.j1015a rec done (wr .i64 ((100:Int)*(wr .i64 (a+1)))) c d e a))
def z13.l0P (a b c:J0) {R:Type} (rec done:(Int×J2×Int×Int×Int)->Option R):(Int×J2×Int×Int×Int)->Option R:=λx=>match x with
 |(d,e,g,h,j)=>(bif (decide (d<(((a).length:Nat):Int))) then (bif (decide (d<16)) then ((z13.l2 d a ((0:Int),g,h,j)).bind λk=>(bif (decide (d<(((b).length:Nat):Int))) then (if 0<=d/\d<(b.length:Int) then (z13.j1014a rec done d c (wr .i64 (b.getD (d).toNat 0)) e k) else none) else (z13.j1014a rec done d c d e k))) else (done (d,e,g,h,j))) else (done (d,e,g,h,j)))
def z13.l0 (a b c:J0) (x:(Int×J2×Int×Int×Int)):Option ((Int×J2×Int×Int×Int)):=lfp (λrec x=>z13.l0P a b c rec some x) x
def z13.F (a0 a1 a2:Int) (a3 a4 a5:J0) (a6 a7 a8:Int):Option (J2):=
 ((z13.l0 a3 a4 a5 ((0:Int),[],a6,a7,a8)).bind λo1=>(some o1.2.1))
def z13.enc (r:J2):V:=(.recs false 5 r)
def z13.pack:List V->Option Pack
 |[(.agg [(.int .i64 a0),(.int .i64 a1),(.int .i64 a2),(.ints _ .u8 a3),(.ints _ .u8 a4),(.ints _ .u32 a5)]),(.agg [(.int .i64 a6),(.int .i64 a7),(.int .i64 a8)])]=>some ⟨J2,z13.F a0 a1 a2 a3 a4 a5 a6 a7 a8,z13.enc⟩
 |_=>none
def z14.j7 (a0 a3 j5 j7:Int):Option (Int×Int×Int):=
 (some ((wr .i64 ((wr .i64 ((Int.tmod a0 a3)+a3))+1)),(wr .i64 (j5+1)),(wr .i64 (j7+1))))
def z14.j5 (a0 a3 j5 a2:Int):Option (Int×Int×Int):=
 ((z8.F (wr .i64 ((wr .i64 ((Int.tmod a0 a3)+a3))+1)) (wr .i64 (j5+1))).bind λr6=>(if r6=0 then none else (bif (decide ((Int.tmod a2 r6)<0)) then (z14.j7 a0 a3 j5 (wr .i64 ((Int.tmod a2 r6)+r6))) else (z14.j7 a0 a3 j5 (Int.tmod a2 r6)))))
def z14.j8 (a0 a3 j8 a2:Int):Option (Int×Int×Int):=
 ((z8.F (wr .i64 ((Int.tmod a0 a3)+1)) (wr .i64 (j8+1))).bind λr9=>(if r9=0 then none else (bif (decide ((Int.tmod a2 r9)<0)) then (some ((wr .i64 ((Int.tmod a0 a3)+1)),(wr .i64 (j8+1)),(wr .i64 ((wr .i64 ((Int.tmod a2 r9)+r9))+1)))) else (some ((wr .i64 ((Int.tmod a0 a3)+1)),(wr .i64 (j8+1)),(wr .i64 ((Int.tmod a2 r9)+1)))))))
def z14.F (a0 a1 a2 a3:Int):Option (Int×Int×Int):=
 (if a3=0 then none else (bif (decide ((Int.tmod a0 a3)<0)) then (bif (decide ((Int.tmod a1 12)<0)) then (z14.j5 a0 a3 (wr .i64 ((Int.tmod a1 12)+12)) a2) else (z14.j5 a0 a3 (Int.tmod a1 12) a2)) else (bif (decide ((Int.tmod a1 12)<0)) then (z14.j8 a0 a3 (wr .i64 ((Int.tmod a1 12)+12)) a2) else (z14.j8 a0 a3 (Int.tmod a1 12) a2))))
def z14.enc (r:Int×Int×Int):V:=(.agg [(.int .i64 r.1),(.int .i64 r.2.1),(.int .i64 r.2.2)])
def z14.pack:List V->Option Pack
 |[(.agg [(.int .i64 a0),(.int .i64 a1),(.int .i64 a2)]),(.int .i64 a3)]=>some ⟨Int×Int×Int,z14.F a0 a1 a2 a3,z14.enc⟩
 |_=>none
def z15.F (a0:Int):Option (Bool):=
 (some (!decide (a0=a0)))
def z15.pack:List V->Option Pack
 |[(.int .i64 a0)]=>some ⟨Bool,z15.F a0,z7.enc⟩
 |_=>none
def z16.F (a0 a1:Int):Option (Int):=
 ((z15.F a0).bind λr1=>((z15.F a1).bind λr2=>(bif r1 then (bif r2 then (some 0) else (some (-1:Int))) else (bif r2 then (some 1) else (bif (decide (a0<a1)) then (some (-1:Int)) else (bif (decide (a0>a1)) then (some 1) else (some 0)))))))
def z16.pack:List V->Option Pack
 |[(.int .i64 a0),(.int .i64 a1)]=>some ⟨Int,z16.F a0 a1,z8.enc⟩
 |_=>none
def z17.l0P (a:Int) (b:J0) (c:Int) {R:Type} (rec:Int->Option R) (done:((Int)⊕(Int))->Option R):Int->Option R:=λd=>(bif (decide (d<c)) then (if 0<=d/\d<(b.length:Int) then (bif (!decide ((b.getD (d).toNat 0)=a)) then (done (.inr (b.getD (d).toNat 0))) else (rec (wr .i64 (d+1)))) else none) else (done (.inl d)))
def z17.l0 (a:Int) (b:J0) (c x:Int):Option (((Int)⊕(Int))):=lfp (λrec x=>z17.l0P a b c rec some x) x
def z17.F (a0:J0):Option (Int):=
 ((z17.l0 0 a0 (((a0).length:Nat):Int) 0).bind λo1=>match o1 with | .inl p2=>(some 0) | .inr q3=>(some q3))
def z17.pack:List V->Option Pack
 |[(.ints _ .i64 a0)]=>some ⟨Int,z17.F a0,z8.enc⟩
 |_=>none
def z18.F (a0 a1 a2 a3 a4 a5:Int):Option (Int):=
 ((z16.F a0 a3).bind λr1=>((z16.F a1 a4).bind λr2=>((z16.F a2 a5).bind λr3=>((z17.F [r1,r2,r3]).bind λr4=>(some r4)))))
def z18.pack:List V->Option Pack
 |[(.agg [(.int .i64 a0),(.int .i64 a1),(.int .i64 a2)]),(.agg [(.int .i64 a3),(.int .i64 a4),(.int .i64 a5)])]=>some ⟨Int,z18.F a0 a1 a2 a3 a4 a5,z8.enc⟩
 |_=>none
def z19.F (a0:Int):Option (Bool):=
 (bif (decide (a0>=1)) then (some (decide (a0<=9999))) else (some false))
def z19.pack:List V->Option Pack
 |[(.int .i64 a0)]=>some ⟨Bool,z19.F a0,z7.enc⟩
 |_=>none
def z20.F (a0:Int):Option (Bool):=
 ((z19.F a0).bind λr1=>(bif r1 then (bif (decide ((Int.tmod a0 4)=0)) then (bif (!decide ((Int.tmod a0 100)=0)) then (some true) else (some (decide ((Int.tmod a0 400)=0)))) else (some (decide ((Int.tmod a0 400)=0)))) else (some false)))
def z20.pack:List V->Option Pack
 |[(.int .i64 a0)]=>some ⟨Bool,z20.F a0,z7.enc⟩
 |_=>none
def z21.j10 (a1:Int):Option (Int):=
 (if 0<=(wr .i64 (a1-1))/\(wr .i64 (a1-1))<12 then (V.asInt .i64 (([(.int .i64 31),(.int .i64 28),(.int .i64 31),(.int .i64 30),(.int .i64 31),(.int .i64 30),(.int .i64 31),(.int .i64 31),(.int .i64 30),(.int .i64 31),(.int .i64 30),(.int .i64 31)]:List V).getD ((wr .i64 (a1-1))).toNat .undef) λc11=>(some c11)) else none)
def z21.F (a0 a1:Int):Option (Int):=
 ((z19.F a0).bind λr1=>(bif (!r1) then (some 0) else (bif (decide (a1<1)) then (some 0) else (bif (decide (a1>12)) then (some 0) else (bif (decide (a1=2)) then ((z20.F a0).bind λr9=>(bif r9 then (some 29) else (z21.j10 a1))) else (z21.j10 a1))))))
def z21.pack:List V->Option Pack
 |[(.int .i64 a0),(.int .i64 a1)]=>some ⟨Int,z21.F a0 a1,z8.enc⟩
 |_=>none
def z22.F (a0 a1 a2:Int):Option (Int):=
 (bif (decide (a2<1)) then (some 11) else ((z21.F a0 a1).bind λr1=>(bif (decide (a2>r1)) then (some 11) else (some 0))))
def z22.pack:List V->Option Pack
 |[(.agg [(.int .i64 a0),(.int .i64 a1),(.int .i64 a2)])]=>some ⟨Int,z22.F a0 a1 a2,z8.enc⟩
 |_=>none
def z23.F (a0:J0):Option (Bool):=
 (some (decide ((((a0).length:Nat):Int)=0)))
def z23.pack:List V->Option Pack
 |[(.agg [(.ints _ .u64 a0)])]=>some ⟨Bool,z23.F a0,z7.enc⟩
 |_=>none
def z24.F (a0:J0) (a1:Bool):Option (Int):=
 ((z23.F a0).bind λr1=>(bif r1 then (some 0) else (bif a1 then (some (-1:Int)) else (some 1))))
def z24.pack:List V->Option Pack
 |[(.agg [(.ints _ .u64 a0),(.bool a1)])]=>some ⟨Int,z24.F a0 a1,z8.enc⟩
 |_=>none
def z25.F (a0:J0) (a1:Bool):Option (J0×Bool):=
 (bif a1 then ((z23.F a0).bind λr1=>(some (a0,(!r1)))) else (some (a0,false)))
def z25.enc (r:J0×Bool):V:=(.agg [(.ints false .u64 r.1),(.bool r.2)])
def z25.pack:List V->Option Pack
 |[(.agg [(.ints _ .u64 a0)]),(.bool a1)]=>some ⟨J0×Bool,z25.F a0 a1,z25.enc⟩
 |_=>none
def z26.l0P (a:J0) {R:Type} (rec:Int->Option R) (done:(Int)->Option R):Int->Option R:=λb=>(bif (decide (b>0)) then (if 0<=(wr .i64 (b-1))/\(wr .i64 (b-1))<(a.length:Int) then (bif (decide ((a.getD ((wr .i64 (b-1))).toNat 0)=0)) then (rec (wr .i64 (b-1))) else (done b)) else none) else (done b))
def z26.l0 (a:J0) (x:Int):Option ((Int)):=lfp (λrec x=>z26.l0P a rec some x) x
def z26.F (a0:J0):Option (J0):=
 ((z26.l0 a0 (((a0).length:Nat):Int)).bind λo1=>(if 0<=o1/\o1<=o1/\o1<=(a0.length:Int) then (some (a0.take (o1).toNat)) else none))
def z26.enc (r:J0):V:=(.agg [(.ints false .u64 r)])
def z26.pack:List V->Option Pack
 |[(.ints _ .u64 a0)]=>some ⟨J0,z26.F a0,z26.enc⟩
 |_=>none
def z27.F (a0:J0):Option (J0):=
 (if (a0).length*8<=140737488355328 then ((z26.F a0).bind λr1=>(some r1)) else none)
def z27.pack:List V->Option Pack
 |[(.ints _ .u64 a0)]=>some ⟨J0,z27.F a0,z26.enc⟩
 |_=>none
def z28.F (a0:Int):Option (J0×Bool):=
 (bif (decide (a0<0)) then ((z27.F [(wr .u64 (0-(wr .u64 a0)))]).bind λr1=>((z25.F r1 true).bind λr2=>(some (r2.1,r2.2)))) else ((z27.F [(wr .u64 a0)]).bind λr3=>((z25.F r3 false).bind λr4=>(some (r4.1,r4.2)))))
def z28.pack:List V->Option Pack
 |[(.int .i64 a0)]=>some ⟨J0×Bool,z28.F a0,z25.enc⟩
 |_=>none
def z29.F (a0:J0) (a1:Bool):Option (J0×Bool×J0):=
 (some (a0,a1,[]))
def z29.enc (r:J0×Bool×J0):V:=(.agg [(.ints false .u64 r.1),(.bool r.2.1),(.ints false .u64 r.2.2)])
def z29.pack:List V->Option Pack
 |[(.agg [(.ints _ .u64 a0),(.bool a1)])]=>some ⟨J0×Bool×J0,z29.F a0 a1,z29.enc⟩
 |_=>none
def z30.F (a0:J0) (a1:Bool):Option (J0×Bool):=
 ((z25.F a0 (!a1)).bind λr1=>(some (r1.1,r1.2)))
def z30.pack:List V->Option Pack
 |[(.agg [(.ints _ .u64 a0),(.bool a1)])]=>some ⟨J0×Bool,z30.F a0 a1,z25.enc⟩
 |_=>none
def z31.F (a0:J0) (a1:Bool):Option (J0):=
 (some a0)
def z31.pack:List V->Option Pack
 |[(.agg [(.ints _ .u64 a0),(.bool a1)])]=>some ⟨J0,z31.F a0 a1,z26.enc⟩
 |_=>none
def z32.F (a0:J0) (a1:Int):Option (Int):=
 (bif (decide (a1>=(((a0).length:Nat):Int))) then (some 0) else (if 0<=a1/\a1<(a0.length:Int) then (some (a0.getD (a1).toNat 0)) else none))
def z32.enc (r:Int):V:=(.int .u64 r)
def z32.pack:List V->Option Pack
 |[(.agg [(.ints _ .u64 a0)]),(.int .i64 a1)]=>some ⟨Int,z32.F a0 a1,z32.enc⟩
 |_=>none
def z33.F (a0:Int):Option (Bool):=
 (some (!decide (a0=a0)))
def z33.pack:List V->Option Pack
 |[(.int .u64 a0)]=>some ⟨Bool,z33.F a0,z7.enc⟩
 |_=>none
def z34.F (a0 a1:Int):Option (Int):=
 ((z33.F a0).bind λr1=>((z33.F a1).bind λr2=>(bif r1 then (bif r2 then (some 0) else (some (-1:Int))) else (bif r2 then (some 1) else (bif (decide (a0<a1)) then (some (-1:Int)) else (bif (decide (a0>a1)) then (some 1) else (some 0)))))))
def z34.pack:List V->Option Pack
 |[(.int .u64 a0),(.int .u64 a1)]=>some ⟨Int,z34.F a0 a1,z8.enc⟩
 |_=>none
def z35.l0P (a b:J0) {R:Type} (rec:Int->Option R) (done:((Int)⊕(Int))->Option R):Int->Option R:=λc=>(bif (decide (c>=0)) then (if 0<=c/\c<(a.length:Int) then (if 0<=c/\c<(b.length:Int) then ((z34.F (a.getD (c).toNat 0) (b.getD (c).toNat 0)).bind λd=>(bif (!decide (d=0)) then (done (.inr d)) else (rec (wr .i64 (c-1))))) else none) else none) else (done (.inl c)))
def z35.l0 (a b:J0) (x:Int):Option (((Int)⊕(Int))):=lfp (λrec x=>z35.l0P a b rec some x) x
def z35.F (a0 a1:J0):Option (Int):=
 ((z16.F (((a0).length:Nat):Int) (((a1).length:Nat):Int)).bind λr1=>(bif (!decide (r1=0)) then (some r1) else ((z35.l0 a0 a1 (wr .i64 ((((a0).length:Nat):Int)-1))).bind λo2=>match o2 with | .inl p3=>(some 0) | .inr q4=>(some q4))))
def z35.pack:List V->Option Pack
 |[(.agg [(.ints _ .u64 a0)]),(.agg [(.ints _ .u64 a1)])]=>some ⟨Int,z35.F a0 a1,z8.enc⟩
 |_=>none
def z36.l0P (a:Int) (b c:J0) {R:Type} (rec done:(Int×Int×J0)->Option R):(Int×Int×J0)->Option R:=λx=>match x with
 |(d,e,g)=>(bif (decide (e<a)) then (if 0<=e/\e<(b.length:Int) then ((z32.F c e).bind λh=>((z1.F (b.getD (e).toNat 0) h d).bind λj=>(if 0<=e/\e<(g.length:Int) then (if (e).toNat<g.length then (rec (j.2,(wr .i64 (e+1)),(g.set (e).toNat j.1))) else none) else none))) else none) else (done (d,e,g)))
def z36.l0 (a:Int) (b c:J0) (x:(Int×Int×J0)):Option ((Int×Int×J0)):=lfp (λrec x=>z36.l0P a b c rec some x) x
def z36.F (a0 a1:J0):Option (J0×Bool):=
 ((z35.F a0 a1).bind λr1=>(bif (decide (r1<0)) then (some ([],false)) else (if 0<=(((a0).length:Nat):Int)/\(((a0).length:Nat):Int)*8<=140737488355328 then ((z36.l0 ((((List.replicate ((((a0).length:Nat):Int)).toNat (0:Int))).length:Nat):Int) a0 a1 ((0:Int),(0:Int),(List.replicate ((((a0).length:Nat):Int)).toNat (0:Int)))).bind λo2=>((z26.F o2.2.2).bind λr3=>(some (r3,true)))) else none)))
def z36.enc (r:J0×Bool):V:=(.tup [(.agg [(.ints false .u64 r.1)]),(.bool r.2)])
def z36.pack:List V->Option Pack
 |[(.agg [(.ints _ .u64 a0)]),(.agg [(.ints _ .u64 a1)])]=>some ⟨J0×Bool,z36.F a0 a1,z36.enc⟩
 |_=>none
def z37.F (a0:J0):Option (J0):=
 (if (a0).length*8<=140737488355328 then (some a0) else none)
def z37.enc (r:J0):V:=(.ints false .u64 r)
def z37.pack:List V->Option Pack
 |[(.agg [(.ints _ .u64 a0)])]=>some ⟨J0,z37.F a0,z37.enc⟩
 |_=>none
def z38.j8 (j7 j8:Int):Option (Int):=
 (if 0<=(wr .u8 j7)/\(wr .u8 j7)<(([0,1,2,2,3,3,3,3,4,4,4,4,4,4,4,4,5,5,5,5,5,5,5,5,5,5,5,5,5,5,5,5,6,6,6,6,6,6,6,6,6,6,6,6,6,6,6,6,6,6,6,6,6,6,6,6,6,6,6,6,6,6,6,6,7,7,7,7,7,7,7,7,7,7,7,7,7,7,7,7,7,7,7,7,7,7,7,7,7,7,7,7,7,7,7,7,7,7,7,7,7,7,7,7,7,7,7,7,7,7,7,7,7,7,7,7,7,7,7,7,7,7,7,7,7,7,7,7,8,8,8,8,8,8,8,8,8,8,8,8,8,8,8,8,8,8,8,8,8,8,8,8,8,8,8,8,8,8,8,8,8,8,8,8,8,8,8,8,8,8,8,8,8,8,8,8,8,8,8,8,8,8,8,8,8,8,8,8,8,8,8,8,8,8,8,8,8,8,8,8,8,8,8,8,8,8,8,8,8,8,8,8,8,8,8,8,8,8,8,8,8,8,8,8,8,8,8,8,8,8,8,8,8,8,8,8,8,8,8,8,8,8,8,8,8,8,8,8,8,8,8,8,8,8,8,8]:J1).length:Int) then (some (wr .i64 (j8+(wr .i64 ((([0,1,2,2,3,3,3,3,4,4,4,4,4,4,4,4,5,5,5,5,5,5,5,5,5,5,5,5,5,5,5,5,6,6,6,6,6,6,6,6,6,6,6,6,6,6,6,6,6,6,6,6,6,6,6,6,6,6,6,6,6,6,6,6,7,7,7,7,7,7,7,7,7,7,7,7,7,7,7,7,7,7,7,7,7,7,7,7,7,7,7,7,7,7,7,7,7,7,7,7,7,7,7,7,7,7,7,7,7,7,7,7,7,7,7,7,7,7,7,7,7,7,7,7,7,7,7,7,8,8,8,8,8,8,8,8,8,8,8,8,8,8,8,8,8,8,8,8,8,8,8,8,8,8,8,8,8,8,8,8,8,8,8,8,8,8,8,8,8,8,8,8,8,8,8,8,8,8,8,8,8,8,8,8,8,8,8,8,8,8,8,8,8,8,8,8,8,8,8,8,8,8,8,8,8,8,8,8,8,8,8,8,8,8,8,8,8,8,8,8,8,8,8,8,8,8,8,8,8,8,8,8,8,8,8,8,8,8,8,8,8,8,8,8,8,8,8,8,8,8,8,8,8,8,8,8]:J1).getD ((wr .u8 j7)).toNat 0).toNat:Int))))) else none)
def z38.j10 (j9 j10:Int):Option (Int):=
 (if 0<=(wr .u8 j9)/\(wr .u8 j9)<(([0,1,2,2,3,3,3,3,4,4,4,4,4,4,4,4,5,5,5,5,5,5,5,5,5,5,5,5,5,5,5,5,6,6,6,6,6,6,6,6,6,6,6,6,6,6,6,6,6,6,6,6,6,6,6,6,6,6,6,6,6,6,6,6,7,7,7,7,7,7,7,7,7,7,7,7,7,7,7,7,7,7,7,7,7,7,7,7,7,7,7,7,7,7,7,7,7,7,7,7,7,7,7,7,7,7,7,7,7,7,7,7,7,7,7,7,7,7,7,7,7,7,7,7,7,7,7,7,8,8,8,8,8,8,8,8,8,8,8,8,8,8,8,8,8,8,8,8,8,8,8,8,8,8,8,8,8,8,8,8,8,8,8,8,8,8,8,8,8,8,8,8,8,8,8,8,8,8,8,8,8,8,8,8,8,8,8,8,8,8,8,8,8,8,8,8,8,8,8,8,8,8,8,8,8,8,8,8,8,8,8,8,8,8,8,8,8,8,8,8,8,8,8,8,8,8,8,8,8,8,8,8,8,8,8,8,8,8,8,8,8,8,8,8,8,8,8,8,8,8,8,8,8,8,8,8]:J1).length:Int) then (some (wr .i64 (j10+(wr .i64 ((([0,1,2,2,3,3,3,3,4,4,4,4,4,4,4,4,5,5,5,5,5,5,5,5,5,5,5,5,5,5,5,5,6,6,6,6,6,6,6,6,6,6,6,6,6,6,6,6,6,6,6,6,6,6,6,6,6,6,6,6,6,6,6,6,7,7,7,7,7,7,7,7,7,7,7,7,7,7,7,7,7,7,7,7,7,7,7,7,7,7,7,7,7,7,7,7,7,7,7,7,7,7,7,7,7,7,7,7,7,7,7,7,7,7,7,7,7,7,7,7,7,7,7,7,7,7,7,7,8,8,8,8,8,8,8,8,8,8,8,8,8,8,8,8,8,8,8,8,8,8,8,8,8,8,8,8,8,8,8,8,8,8,8,8,8,8,8,8,8,8,8,8,8,8,8,8,8,8,8,8,8,8,8,8,8,8,8,8,8,8,8,8,8,8,8,8,8,8,8,8,8,8,8,8,8,8,8,8,8,8,8,8,8,8,8,8,8,8,8,8,8,8,8,8,8,8,8,8,8,8,8,8,8,8,8,8,8,8,8,8,8,8,8,8,8,8,8,8,8,8,8,8,8,8,8,8]:J1).getD ((wr .u8 j9)).toNat 0).toNat:Int))))) else none)
def z38.j2 (j1 j2:Int):Option (Int):=
 (bif (decide (j1>=65536)) then (bif (decide ((Int.fdiv j1 (2^(min 16 (64:Nat))))>=256)) then (z38.j8 (Int.fdiv (Int.fdiv j1 (2^(min 16 (64:Nat)))) (2^(min 8 (64:Nat)))) (wr .i64 ((wr .i64 (j2+16))+8))) else (z38.j8 (Int.fdiv j1 (2^(min 16 (64:Nat)))) (wr .i64 (j2+16)))) else (bif (decide (j1>=256)) then (z38.j10 (Int.fdiv j1 (2^(min 8 (64:Nat)))) (wr .i64 (j2+8))) else (z38.j10 j1 j2)))
def z38.F (a0:Int):Option (Int):=
 (bif (decide (a0>=4294967296)) then (z38.j2 (Int.fdiv a0 (2^(min 32 (64:Nat)))) 32) else (z38.j2 a0 0))
def z38.pack:List V->Option Pack
 |[(.int .u64 a0)]=>some ⟨Int,z38.F a0,z8.enc⟩
 |_=>none
def z39.F (a0:Int):Option (Int):=
 ((z38.F a0).bind λr1=>(some (wr .i64 ((64:Int)-r1))))
def z39.pack:List V->Option Pack
 |[(.int .u64 a0)]=>some ⟨Int,z39.F a0,z8.enc⟩
 |_=>none
def z40.l0P (a b c:Int) {R:Type} (rec done:(Int×Int)->Option R):(Int×Int)->Option R:=λx=>match x with
 |(d,e)=>(bif (decide (d>=4294967296)) then (bif (decide ((wr .u64 (e+a))>=4294967296)) then (done ((wr .u64 (d-1)),(wr .u64 (e+a)))) else (rec ((wr .u64 (d-1)),(wr .u64 (e+a))))) else (bif (decide ((wr .u64 (d*b))>(wr .u64 ((wr .u64 ((4294967296:Int)*e))+c)))) then (bif (decide ((wr .u64 (e+a))>=4294967296)) then (done ((wr .u64 (d-1)),(wr .u64 (e+a)))) else (rec ((wr .u64 (d-1)),(wr .u64 (e+a))))) else (done (d,e))))
def z40.l0 (a b c:Int) (x:(Int×Int)):Option ((Int×Int)):=lfp (λrec x=>z40.l0P a b c rec some x) x
def z40.l2P (a b c:Int) {R:Type} (rec done:(Int×Int)->Option R):(Int×Int)->Option R:=λx=>match x with
 |(d,e)=>(bif (decide (e>=4294967296)) then (bif (decide ((wr .u64 (d+a))>=4294967296)) then (done ((wr .u64 (d+a)),(wr .u64 (e-1)))) else (rec ((wr .u64 (d+a)),(wr .u64 (e-1))))) else (bif (decide ((wr .u64 (e*b))>(wr .u64 ((wr .u64 ((4294967296:Int)*d))+c)))) then (bif (decide ((wr .u64 (d+a))>=4294967296)) then (done ((wr .u64 (d+a)),(wr .u64 (e-1)))) else (rec ((wr .u64 (d+a)),(wr .u64 (e-1))))) else (done (d,e))))
def z40.l2 (a b c:Int) (x:(Int×Int)):Option ((Int×Int)):=lfp (λrec x=>z40.l2P a b c rec some x) x
def z40.F (a0 a1 a2:Int):Option (Int×Int):=
 (bif (decide (a2=0)) then none else (bif (decide (a2<=a0)) then none else (bif (decide (a0=0)) then (if a2=0 then none else (if a2=0 then none else (some ((wr .u64 (Int.tdiv a1 a2)),(Int.tmod a1 a2))))) else ((z39.F a2).bind λr1=>(if 0<=(wr .u64 r1) then (if 0<=(wr .u64 r1) then (if 0<=(wr .u64 ((64:Int)-(wr .u64 r1))) then (if 0<=(wr .u64 r1) then (if (Int.fdiv (wr .u64 (a2*2^(min ((wr .u64 r1)).toNat (64:Nat)))) (2^(min 32 (64:Nat))))=0 then none else ((z40.l0 (Int.fdiv (wr .u64 (a2*2^(min ((wr .u64 r1)).toNat (64:Nat)))) (2^(min 32 (64:Nat)))) (wr .u64 ((BitVec.ofInt (IntKind.bits .u64) (wr .u64 (a2*2^(min ((wr .u64 r1)).toNat (64:Nat)))) &&& BitVec.ofInt (IntKind.bits .u64) 4294967295).toNat:Int)) (Int.fdiv (wr .u64 (a1*2^(min ((wr .u64 r1)).toNat (64:Nat)))) (2^(min 32 (64:Nat)))) ((wr .u64 (Int.tdiv (wr .u64 ((BitVec.ofInt (IntKind.bits .u64) (wr .u64 (a0*2^(min ((wr .u64 r1)).toNat (64:Nat)))) ||| BitVec.ofInt (IntKind.bits .u64) (Int.fdiv a1 (2^(min ((wr .u64 ((64:Int)-(wr .u64 r1)))).toNat (64:Nat))))).toNat:Int)) (Int.fdiv (wr .u64 (a2*2^(min ((wr .u64 r1)).toNat (64:Nat)))) (2^(min 32 (64:Nat)))))),(wr .u64 ((wr .u64 ((BitVec.ofInt (IntKind.bits .u64) (wr .u64 (a0*2^(min ((wr .u64 r1)).toNat (64:Nat)))) ||| BitVec.ofInt (IntKind.bits .u64) (Int.fdiv a1 (2^(min ((wr .u64 ((64:Int)-(wr .u64 r1)))).toNat (64:Nat))))).toNat:Int))-(wr .u64 ((wr .u64 (Int.tdiv (wr .u64 ((BitVec.ofInt (IntKind.bits .u64) (wr .u64 (a0*2^(min ((wr .u64 r1)).toNat (64:Nat)))) ||| BitVec.ofInt (IntKind.bits .u64) (Int.fdiv a1 (2^(min ((wr .u64 ((64:Int)-(wr .u64 r1)))).toNat (64:Nat))))).toNat:Int)) (Int.fdiv (wr .u64 (a2*2^(min ((wr .u64 r1)).toNat (64:Nat)))) (2^(min 32 (64:Nat))))))*(Int.fdiv (wr .u64 (a2*2^(min ((wr .u64 r1)).toNat (64:Nat)))) (2^(min 32 (64:Nat)))))))))).bind λo2=>(if (Int.fdiv (wr .u64 (a2*2^(min ((wr .u64 r1)).toNat (64:Nat)))) (2^(min 32 (64:Nat))))=0 then none else ((z40.l2 (Int.fdiv (wr .u64 (a2*2^(min ((wr .u64 r1)).toNat (64:Nat)))) (2^(min 32 (64:Nat)))) (wr .u64 ((BitVec.ofInt (IntKind.bits .u64) (wr .u64 (a2*2^(min ((wr .u64 r1)).toNat (64:Nat)))) &&& BitVec.ofInt (IntKind.bits .u64) 4294967295).toNat:Int)) (wr .u64 ((BitVec.ofInt (IntKind.bits .u64) (wr .u64 (a1*2^(min ((wr .u64 r1)).toNat (64:Nat)))) &&& BitVec.ofInt (IntKind.bits .u64) 4294967295).toNat:Int)) ((wr .u64 ((wr .u64 ((wr .u64 ((wr .u64 ((wr .u64 ((BitVec.ofInt (IntKind.bits .u64) (wr .u64 (a0*2^(min ((wr .u64 r1)).toNat (64:Nat)))) ||| BitVec.ofInt (IntKind.bits .u64) (Int.fdiv a1 (2^(min ((wr .u64 ((64:Int)-(wr .u64 r1)))).toNat (64:Nat))))).toNat:Int))*4294967296))+(Int.fdiv (wr .u64 (a1*2^(min ((wr .u64 r1)).toNat (64:Nat)))) (2^(min 32 (64:Nat))))))-(wr .u64 (o2.1*(wr .u64 (a2*2^(min ((wr .u64 r1)).toNat (64:Nat))))))))-(wr .u64 ((wr .u64 (Int.tdiv (wr .u64 ((wr .u64 ((wr .u64 ((wr .u64 ((BitVec.ofInt (IntKind.bits .u64) (wr .u64 (a0*2^(min ((wr .u64 r1)).toNat (64:Nat)))) ||| BitVec.ofInt (IntKind.bits .u64) (Int.fdiv a1 (2^(min ((wr .u64 ((64:Int)-(wr .u64 r1)))).toNat (64:Nat))))).toNat:Int))*4294967296))+(Int.fdiv (wr .u64 (a1*2^(min ((wr .u64 r1)).toNat (64:Nat)))) (2^(min 32 (64:Nat))))))-(wr .u64 (o2.1*(wr .u64 (a2*2^(min ((wr .u64 r1)).toNat (64:Nat)))))))) (Int.fdiv (wr .u64 (a2*2^(min ((wr .u64 r1)).toNat (64:Nat)))) (2^(min 32 (64:Nat))))))*(Int.fdiv (wr .u64 (a2*2^(min ((wr .u64 r1)).toNat (64:Nat)))) (2^(min 32 (64:Nat)))))))),(wr .u64 (Int.tdiv (wr .u64 ((wr .u64 ((wr .u64 ((wr .u64 ((BitVec.ofInt (IntKind.bits .u64) (wr .u64 (a0*2^(min ((wr .u64 r1)).toNat (64:Nat)))) ||| BitVec.ofInt (IntKind.bits .u64) (Int.fdiv a1 (2^(min ((wr .u64 ((64:Int)-(wr .u64 r1)))).toNat (64:Nat))))).toNat:Int))*4294967296))+(Int.fdiv (wr .u64 (a1*2^(min ((wr .u64 r1)).toNat (64:Nat)))) (2^(min 32 (64:Nat))))))-(wr .u64 (o2.1*(wr .u64 (a2*2^(min ((wr .u64 r1)).toNat (64:Nat)))))))) (Int.fdiv (wr .u64 (a2*2^(min ((wr .u64 r1)).toNat (64:Nat)))) (2^(min 32 (64:Nat)))))))).bind λo3=>(if 0<=(wr .u64 r1) then (some ((wr .u64 ((wr .u64 (o2.1*4294967296))+o3.2)),(Int.fdiv (wr .u64 ((wr .u64 ((wr .u64 ((wr .u64 ((wr .u64 ((wr .u64 ((wr .u64 ((BitVec.ofInt (IntKind.bits .u64) (wr .u64 (a0*2^(min ((wr .u64 r1)).toNat (64:Nat)))) ||| BitVec.ofInt (IntKind.bits .u64) (Int.fdiv a1 (2^(min ((wr .u64 ((64:Int)-(wr .u64 r1)))).toNat (64:Nat))))).toNat:Int))*4294967296))+(Int.fdiv (wr .u64 (a1*2^(min ((wr .u64 r1)).toNat (64:Nat)))) (2^(min 32 (64:Nat))))))-(wr .u64 (o2.1*(wr .u64 (a2*2^(min ((wr .u64 r1)).toNat (64:Nat))))))))*4294967296))+(wr .u64 ((BitVec.ofInt (IntKind.bits .u64) (wr .u64 (a1*2^(min ((wr .u64 r1)).toNat (64:Nat)))) &&& BitVec.ofInt (IntKind.bits .u64) 4294967295).toNat:Int))))-(wr .u64 (o3.2*(wr .u64 (a2*2^(min ((wr .u64 r1)).toNat (64:Nat)))))))) (2^(min ((wr .u64 r1)).toNat (64:Nat)))))) else none))))) else none) else none) else none) else none)))))
def z40.enc (r:Int×Int):V:=(.tup [(.int .u64 r.1),(.int .u64 r.2)])
def z40.pack:List V->Option Pack
 |[(.int .u64 a0),(.int .u64 a1),(.int .u64 a2)]=>some ⟨Int×Int,z40.F a0 a1 a2,z40.enc⟩
 |_=>none
def z41.l0P (a:J0) (b:Int) {R:Type} (rec done:(Int×Int×J0)->Option R):(Int×Int×J0)->Option R:=λx=>match x with
 |(c,d,e)=>(bif (decide (d>=0)) then (if 0<=d/\d<(a.length:Int) then ((z40.F c (a.getD (d).toNat 0) b).bind λg=>(if 0<=d/\d<(e.length:Int) then (if (d).toNat<e.length then (rec (g.2,(wr .i64 (d-1)),(e.set (d).toNat g.1))) else none) else none)) else none) else (done (c,d,e)))
def z41.l0 (a:J0) (b:Int) (x:(Int×Int×J0)):Option ((Int×Int×J0)):=lfp (λrec x=>z41.l0P a b rec some x) x
def z41.F (a0:J0) (a1:Int):Option (J0×Int):=
 (if 0<=(((a0).length:Nat):Int)/\(((a0).length:Nat):Int)*8<=140737488355328 then ((z41.l0 a0 a1 ((0:Int),(wr .i64 ((((a0).length:Nat):Int)-1)),(List.replicate ((((a0).length:Nat):Int)).toNat (0:Int)))).bind λo1=>(some (o1.2.2,o1.1))) else none)
def z41.enc (r:J0×Int):V:=(.tup [(.ints false .u64 r.1),(.int .u64 r.2)])
def z41.pack:List V->Option Pack
 |[(.ints _ .u64 a0),(.int .u64 a1)]=>some ⟨J0×Int,z41.F a0 a1,z41.enc⟩
 |_=>none
def z42.F (a0:Int):Option (Bool):=
 (bif (decide (a0<0)) then (some true) else (some (decide (a0>262144))))
def z42.pack:List V->Option Pack
 |[(.int .i64 a0)]=>some ⟨Bool,z42.F a0,z7.enc⟩
 |_=>none
def z43.l0P (a b:Nat) (c d:Int) {R:Type} (rec done:(Int×J0)->Option R):(Int×J0)->Option R:=λx=>match x with
 |(e,g)=>(bif (decide (e<d)) then (if 0<=e/\e<((b:Nat):Int) then (if (a+(e).toNat)<g.length then (if 0<=c then (if 0<=e/\e<((b:Nat):Int) then (if (a+(e).toNat)<g.length then (bif (decide ((wr .i64 (e+1))<((b:Nat):Int))) then (if 0<=e/\e<((b:Nat):Int) then (if (a+(e).toNat)<(g.set (a+(e).toNat) (Int.fdiv (g.getD (a+(e).toNat) 0) (2^(min (c).toNat (64:Nat))))).length then (if 0<=(wr .i64 (e+1))/\(wr .i64 (e+1))<((b:Nat):Int) then (if (a+((wr .i64 (e+1))).toNat)<(g.set (a+(e).toNat) (Int.fdiv (g.getD (a+(e).toNat) 0) (2^(min (c).toNat (64:Nat))))).length then (if 0<=(wr .u64 ((64:Int)-c)) then (if 0<=e/\e<((b:Nat):Int) then (if (a+(e).toNat)<(g.set (a+(e).toNat) (Int.fdiv (g.getD (a+(e).toNat) 0) (2^(min (c).toNat (64:Nat))))).length then (rec ((wr .i64 (e+1)),((g.set (a+(e).toNat) (Int.fdiv (g.getD (a+(e).toNat) 0) (2^(min (c).toNat (64:Nat))))).set (a+(e).toNat) (wr .u64 ((BitVec.ofInt (IntKind.bits .u64) ((g.set (a+(e).toNat) (Int.fdiv (g.getD (a+(e).toNat) 0) (2^(min (c).toNat (64:Nat))))).getD (a+(e).toNat) 0) ||| BitVec.ofInt (IntKind.bits .u64) (wr .u64 (((g.set (a+(e).toNat) (Int.fdiv (g.getD (a+(e).toNat) 0) (2^(min (c).toNat (64:Nat))))).getD (a+((wr .i64 (e+1))).toNat) 0)*2^(min ((wr .u64 ((64:Int)-c))).toNat (64:Nat))))).toNat:Int))))) else none) else none) else none) else none) else none) else none) else none) else (rec ((wr .i64 (e+1)),(g.set (a+(e).toNat) (Int.fdiv (g.getD (a+(e).toNat) 0) (2^(min (c).toNat (64:Nat)))))))) else none) else none) else none) else none) else none) else (done (e,g)))
def z43.l0 (a b:Nat) (c d:Int) (x:(Int×J0)):Option ((Int×J0)):=lfp (λrec x=>z43.l0P a b c d rec some x) x
def z43.F (a0:J0) (a1:Int):Option (J0×Int):=
 ((z42.F a1).bind λr1=>(bif r1 then (some ([],(2:Int))) else (if (a0).length*8<=140737488355328 then (if 0<=(if (((a0).length:Nat):Int)<(wr .i64 (Int.tdiv a1 64)) then (((a0).length:Nat):Int) else (wr .i64 (Int.tdiv a1 64)))/\(if (((a0).length:Nat):Int)<(wr .i64 (Int.tdiv a1 64)) then (((a0).length:Nat):Int) else (wr .i64 (Int.tdiv a1 64)))<=((a0).length:Int) then ((z43.l0 ((if (((a0).length:Nat):Int)<(wr .i64 (Int.tdiv a1 64)) then (((a0).length:Nat):Int) else (wr .i64 (Int.tdiv a1 64)))).toNat ((a0).length-((if (((a0).length:Nat):Int)<(wr .i64 (Int.tdiv a1 64)) then (((a0).length:Nat):Int) else (wr .i64 (Int.tdiv a1 64)))).toNat) (wr .u64 (Int.tmod a1 64)) ((((a0).length-((if (((a0).length:Nat):Int)<(wr .i64 (Int.tdiv a1 64)) then (((a0).length:Nat):Int) else (wr .i64 (Int.tdiv a1 64)))).toNat):Nat):Int) ((0:Int),a0)).bind λo2=>((z27.F ((o2.2.drop ((if (((a0).length:Nat):Int)<(wr .i64 (Int.tdiv a1 64)) then (((a0).length:Nat):Int) else (wr .i64 (Int.tdiv a1 64)))).toNat).take ((a0).length-((if (((a0).length:Nat):Int)<(wr .i64 (Int.tdiv a1 64)) then (((a0).length:Nat):Int) else (wr .i64 (Int.tdiv a1 64)))).toNat))).bind λr3=>(some (r3,(0:Int))))) else none) else none)))
def z43.enc (r:J0×Int):V:=(.tup [(.agg [(.ints false .u64 r.1)]),(.int .i64 r.2)])
def z43.pack:List V->Option Pack
 |[(.agg [(.ints _ .u64 a0)]),(.int .i64 a1)]=>some ⟨J0×Int,z43.F a0 a1,z43.enc⟩
 |_=>none
def z44.F (a0 a1:Int):Option (Int×Int):=
 (some ((wr .u64 ((wr .u64 ((wr .u64 ((Int.fdiv a0 (2^(min 32 (64:Nat))))*(Int.fdiv a1 (2^(min 32 (64:Nat))))))+(Int.fdiv (wr .u64 ((wr .u64 ((Int.fdiv a0 (2^(min 32 (64:Nat))))*(wr .u64 ((BitVec.ofInt (IntKind.bits .u64) a1 &&& BitVec.ofInt (IntKind.bits .u64) 4294967295).toNat:Int))))+(Int.fdiv (wr .u64 ((wr .u64 ((BitVec.ofInt (IntKind.bits .u64) a0 &&& BitVec.ofInt (IntKind.bits .u64) 4294967295).toNat:Int))*(wr .u64 ((BitVec.ofInt (IntKind.bits .u64) a1 &&& BitVec.ofInt (IntKind.bits .u64) 4294967295).toNat:Int)))) (2^(min 32 (64:Nat)))))) (2^(min 32 (64:Nat))))))+(Int.fdiv (wr .u64 ((wr .u64 ((BitVec.ofInt (IntKind.bits .u64) (wr .u64 ((wr .u64 ((Int.fdiv a0 (2^(min 32 (64:Nat))))*(wr .u64 ((BitVec.ofInt (IntKind.bits .u64) a1 &&& BitVec.ofInt (IntKind.bits .u64) 4294967295).toNat:Int))))+(Int.fdiv (wr .u64 ((wr .u64 ((BitVec.ofInt (IntKind.bits .u64) a0 &&& BitVec.ofInt (IntKind.bits .u64) 4294967295).toNat:Int))*(wr .u64 ((BitVec.ofInt (IntKind.bits .u64) a1 &&& BitVec.ofInt (IntKind.bits .u64) 4294967295).toNat:Int)))) (2^(min 32 (64:Nat)))))) &&& BitVec.ofInt (IntKind.bits .u64) 4294967295).toNat:Int))+(wr .u64 ((wr .u64 ((BitVec.ofInt (IntKind.bits .u64) a0 &&& BitVec.ofInt (IntKind.bits .u64) 4294967295).toNat:Int))*(Int.fdiv a1 (2^(min 32 (64:Nat)))))))) (2^(min 32 (64:Nat)))))),(wr .u64 (a0*a1))))
def z44.pack:List V->Option Pack
 |[(.int .u64 a0),(.int .u64 a1)]=>some ⟨Int×Int,z44.F a0 a1,z40.enc⟩
 |_=>none
def z45.l0P (a:Int) (b:J0) (c:Int) {R:Type} (rec done:(Int×J0)->Option R):(Int×J0)->Option R:=λx=>match x with
 |(d,e)=>(bif (decide (d<c)) then (if 0<=d/\d<(b.length:Int) then (if 0<=d/\d<(e.length:Int) then (if (d).toNat<e.length then (if 0<=a then (if 0<=d/\d<(e.length:Int) then (if (d).toNat<e.length then (if 0<=(wr .u64 ((64:Int)-a)) then (if 0<=(wr .i64 (d+1))/\(wr .i64 (d+1))<((e.set (d).toNat (wr .u64 ((BitVec.ofInt (IntKind.bits .u64) (e.getD (d).toNat 0) ||| BitVec.ofInt (IntKind.bits .u64) (wr .u64 ((b.getD (d).toNat 0)*2^(min (a).toNat (64:Nat))))).toNat:Int))).length:Int) then (if ((wr .i64 (d+1))).toNat<(e.set (d).toNat (wr .u64 ((BitVec.ofInt (IntKind.bits .u64) (e.getD (d).toNat 0) ||| BitVec.ofInt (IntKind.bits .u64) (wr .u64 ((b.getD (d).toNat 0)*2^(min (a).toNat (64:Nat))))).toNat:Int))).length then (rec ((wr .i64 (d+1)),((e.set (d).toNat (wr .u64 ((BitVec.ofInt (IntKind.bits .u64) (e.getD (d).toNat 0) ||| BitVec.ofInt (IntKind.bits .u64) (wr .u64 ((b.getD (d).toNat 0)*2^(min (a).toNat (64:Nat))))).toNat:Int))).set ((wr .i64 (d+1))).toNat (Int.fdiv (b.getD (d).toNat 0) (2^(min ((wr .u64 ((64:Int)-a))).toNat (64:Nat))))))) else none) else none) else none) else none) else none) else none) else none) else none) else none) else (done (d,e)))
def z45.l0 (a:Int) (b:J0) (c:Int) (x:(Int×J0)):Option ((Int×J0)):=lfp (λrec x=>z45.l0P a b c rec some x) x
def z45.l0aP (a:Int) (b:J0) (c:Int) {R:Type} (rec done:(Int×J0)->Option R):(Int×J0)->Option R:=λx=>match x with
 |(d,e)=>(bif (decide (d<c)) then (if 0<=d/\d<(b.length:Int) then (if 0<=d/\d<(e.length:Int) then (if (d).toNat<e.length then (if 0<=a then (if 0<=d/\d<(e.length:Int) then (if (d).toNat<e.length then (if 0<=(wr .u64 ((64:Int)-a)) then (if 0<=(wr .i64 (d+1))/\(wr .i64 (d+1))<((e.set (d).toNat (wr .u64 ((BitVec.ofInt (IntKind.bits .u64) (e.getD (d).toNat 0) ||| BitVec.ofInt (IntKind.bits .u64) (wr .u64 ((b.getD (d).toNat 0)*2^(min (a).toNat (64:Nat))))).toNat:Int))).length:Int) then (if ((wr .i64 (d+1))).toNat<(e.set (d).toNat (wr .u64 ((BitVec.ofInt (IntKind.bits .u64) (e.getD (d).toNat 0) ||| BitVec.ofInt (IntKind.bits .u64) (wr .u64 ((b.getD (d).toNat 0)*2^(min (a).toNat (64:Nat))))).toNat:Int))).length then (rec ((wr .i64 (d+1)),((e.set (d).toNat (wr .u64 ((BitVec.ofInt (IntKind.bits .u64) (e.getD (d).toNat 0) ||| BitVec.ofInt (IntKind.bits .u64) (wr .u64 ((b.getD (d).toNat 0)*2^(min (a).toNat (64:Nat))))).toNat:Int))).set ((wr .i64 (d+1))).toNat (Int.fdiv (b.getD (d).toNat 0) (2^(min ((wr .u64 ((64:Int)-a))).toNat (64:Nat))))))) else none) else none) else none) else none) else none) else none) else none) else none) else none) else (done (d,e)))
def z45.l0a (a:Int) (b:J0) (c:Int) (x:(Int×J0)):Option ((Int×J0)):=lfp (λrec x=>z45.l0aP a b c rec some x) x
def z45.l0b3P (a b:Nat) (c:Int) (d e:Nat) (g:Int) (h:J0) {R:Type} (rec done:(Int×Int×Int×J0)->Option R):(Int×Int×Int×J0)->Option R:=λx=>match x with
 |(j,k,m,n)=>(bif (decide (m<g)) then (if 0<=m/\m<((e:Nat):Int) then (if (d+(m).toNat)<h.length then ((z44.F (h.getD (d+(m).toNat) 0) c).bind λo=>((z0.F o.2 j 0).bind λp=>(if 0<=m/\m<((b:Nat):Int) then (if (a+(m).toNat)<n.length then ((z1.F (n.getD (a+(m).toNat) 0) p.1 k).bind λq=>(if 0<=m/\m<((b:Nat):Int) then (if (a+(m).toNat)<n.length then (rec ((wr .u64 (o.1+p.2)),q.2,(wr .i64 (m+1)),(n.set (a+(m).toNat) q.1))) else none) else none)) else none) else none))) else none) else none) else (done (j,k,m,n)))
def z45.l0b3 (a b:Nat) (c:Int) (d e:Nat) (g:Int) (h:J0) (x:(Int×Int×Int×J0)):Option ((Int×Int×Int×J0)):=lfp (λrec x=>z45.l0b3P a b c d e g h rec some x) x
def z45.l0b4P (a b c d:Nat) (e:Int) (g:J0) {R:Type} (rec done:(Int×Int×J0)->Option R):(Int×Int×J0)->Option R:=λx=>match x with
 |(h,j,k)=>(bif (decide (j<e)) then (if 0<=j/\j<((d:Nat):Int) then (if (c+(j).toNat)<g.length then (if 0<=j/\j<((b:Nat):Int) then (if (a+(j).toNat)<k.length then ((z0.F (k.getD (a+(j).toNat) 0) (g.getD (c+(j).toNat) 0) h).bind λm=>(if 0<=j/\j<((b:Nat):Int) then (if (a+(j).toNat)<k.length then (rec (m.2,(wr .i64 (j+1)),(k.set (a+(j).toNat) m.1))) else none) else none)) else none) else none) else none) else none) else (done (h,j,k)))
def z45.l0b4 (a b c d:Nat) (e:Int) (g:J0) (x:(Int×Int×J0)):Option ((Int×Int×J0)):=lfp (λrec x=>z45.l0b4P a b c d e g rec some x) x
def z45.l2P (a b c d:Nat) (e:J0) {R:Type} (rec done:(Int×Int×J0)->Option R):(Int×Int×J0)->Option R:=λx=>match x with
 |(g,h,j)=>(bif (!decide (h=0)) then ((z45.l0b4 c d a b ((b:Nat):Int) e ((0:Int),(0:Int),j)).bind λk=>(if 0<=((b:Nat):Int)/\((b:Nat):Int)<((d:Nat):Int) then (if (c+(((b:Nat):Int)).toNat)<k.2.2.length then (if 0<=((b:Nat):Int)/\((b:Nat):Int)<((d:Nat):Int) then (if (c+(((b:Nat):Int)).toNat)<k.2.2.length then (if 0<=((b:Nat):Int)/\((b:Nat):Int)<((d:Nat):Int) then (if (c+(((b:Nat):Int)).toNat)<(k.2.2.set (c+(((b:Nat):Int)).toNat) (wr .u64 ((k.2.2.getD (c+(((b:Nat):Int)).toNat) 0)+k.1))).length then (bif (decide (((k.2.2.set (c+(((b:Nat):Int)).toNat) (wr .u64 ((k.2.2.getD (c+(((b:Nat):Int)).toNat) 0)+k.1))).getD (c+(((b:Nat):Int)).toNat) 0)=0)) then (rec ((wr .u64 (g-1)),(0:Int),(k.2.2.set (c+(((b:Nat):Int)).toNat) (wr .u64 ((k.2.2.getD (c+(((b:Nat):Int)).toNat) 0)+k.1))))) else (rec ((wr .u64 (g-1)),h,(k.2.2.set (c+(((b:Nat):Int)).toNat) (wr .u64 ((k.2.2.getD (c+(((b:Nat):Int)).toNat) 0)+k.1)))))) else none) else none) else none) else none) else none) else none)) else (done (g,h,j)))
def z45.l2 (a b c d:Nat) (e:J0) (x:(Int×Int×J0)):Option ((Int×Int×J0)):=lfp (λrec x=>z45.l2P a b c d e rec some x) x
def z45.l0aaP (a b:Nat) (c:J0) {R:Type} (rec done:(Int×J0×J0)->Option R):(Int×J0×J0)->Option R:=λx=>match x with
 |(d,e,g)=>(bif (decide (d>=0)) then (if 0<=d/\d<=(wr .i64 ((wr .i64 (d+((b:Nat):Int)))+1))/\(wr .i64 ((wr .i64 (d+((b:Nat):Int)))+1))<=((e).length:Int) then (if 0<=((b:Nat):Int)/\((b:Nat):Int)<(((((wr .i64 ((wr .i64 (d+((b:Nat):Int)))+1))).toNat-(d).toNat):Nat):Int) then (if ((d).toNat+(((b:Nat):Int)).toNat)<e.length then (if 0<=(wr .i64 (((b:Nat):Int)-1))/\(wr .i64 (((b:Nat):Int)-1))<(((((wr .i64 ((wr .i64 (d+((b:Nat):Int)))+1))).toNat-(d).toNat):Nat):Int) then (if ((d).toNat+((wr .i64 (((b:Nat):Int)-1))).toNat)<e.length then (if 0<=(wr .i64 (((b:Nat):Int)-2))/\(wr .i64 (((b:Nat):Int)-2))<(((((wr .i64 ((wr .i64 (d+((b:Nat):Int)))+1))).toNat-(d).toNat):Nat):Int) then (if ((d).toNat+((wr .i64 (((b:Nat):Int)-2))).toNat)<e.length then (if 0<=(wr .i64 (((b:Nat):Int)-1))/\(wr .i64 (((b:Nat):Int)-1))<((b:Nat):Int) then (if (a+((wr .i64 (((b:Nat):Int)-1))).toNat)<c.length then (bif (decide ((e.getD ((d).toNat+(((b:Nat):Int)).toNat) 0)>=(c.getD (a+((wr .i64 (((b:Nat):Int)-1))).toNat) 0))) then ((z45.l0b3 (d).toNat (((wr .i64 ((wr .i64 (d+((b:Nat):Int)))+1))).toNat-(d).toNat) 18446744073709551615 a b ((b:Nat):Int) c ((0:Int),(0:Int),(0:Int),e)).bind λh=>(if 0<=((b:Nat):Int)/\((b:Nat):Int)<(((((wr .i64 ((wr .i64 (d+((b:Nat):Int)))+1))).toNat-(d).toNat):Nat):Int) then (if ((d).toNat+(((b:Nat):Int)).toNat)<h.2.2.2.length then ((z1.F (h.2.2.2.getD ((d).toNat+(((b:Nat):Int)).toNat) 0) h.1 h.2.1).bind λj=>(if 0<=((b:Nat):Int)/\((b:Nat):Int)<(((((wr .i64 ((wr .i64 (d+((b:Nat):Int)))+1))).toNat-(d).toNat):Nat):Int) then (if ((d).toNat+(((b:Nat):Int)).toNat)<h.2.2.2.length then ((z45.l2 a b (d).toNat (((wr .i64 ((wr .i64 (d+((b:Nat):Int)))+1))).toNat-(d).toNat) c ((18446744073709551615:Int),j.2,(h.2.2.2.set ((d).toNat+(((b:Nat):Int)).toNat) j.1))).bind λk=>(if 0<=d/\d<(g.length:Int) then (if (d).toNat<g.length then (rec ((wr .i64 (d-1)),k.2.2,(g.set (d).toNat k.1))) else none) else none)) else none) else none)) else none) else none)) else (if 0<=(wr .i64 (((b:Nat):Int)-1))/\(wr .i64 (((b:Nat):Int)-1))<((b:Nat):Int) then (if (a+((wr .i64 (((b:Nat):Int)-1))).toNat)<c.length then ((z40.F (e.getD ((d).toNat+(((b:Nat):Int)).toNat) 0) (e.getD ((d).toNat+((wr .i64 (((b:Nat):Int)-1))).toNat) 0) (c.getD (a+((wr .i64 (((b:Nat):Int)-1))).toNat) 0)).bind λm=>(if 0<=(wr .i64 (((b:Nat):Int)-2))/\(wr .i64 (((b:Nat):Int)-2))<((b:Nat):Int) then (if (a+((wr .i64 (((b:Nat):Int)-2))).toNat)<c.length then ((z44.F m.1 (c.getD (a+((wr .i64 (((b:Nat):Int)-2))).toNat) 0)).bind λn=>(bif (decide (n.1<m.2)) then ((z45.l0b3 (d).toNat (((wr .i64 ((wr .i64 (d+((b:Nat):Int)))+1))).toNat-(d).toNat) m.1 a b ((b:Nat):Int) c ((0:Int),(0:Int),(0:Int),e)).bind λo=>(if 0<=((b:Nat):Int)/\((b:Nat):Int)<(((((wr .i64 ((wr .i64 (d+((b:Nat):Int)))+1))).toNat-(d).toNat):Nat):Int) then (if ((d).toNat+(((b:Nat):Int)).toNat)<o.2.2.2.length then ((z1.F (o.2.2.2.getD ((d).toNat+(((b:Nat):Int)).toNat) 0) o.1 o.2.1).bind λp=>(if 0<=((b:Nat):Int)/\((b:Nat):Int)<(((((wr .i64 ((wr .i64 (d+((b:Nat):Int)))+1))).toNat-(d).toNat):Nat):Int) then (if ((d).toNat+(((b:Nat):Int)).toNat)<o.2.2.2.length then ((z45.l2 a b (d).toNat (((wr .i64 ((wr .i64 (d+((b:Nat):Int)))+1))).toNat-(d).toNat) c (m.1,p.2,(o.2.2.2.set ((d).toNat+(((b:Nat):Int)).toNat) p.1))).bind λq=>(if 0<=d/\d<(g.length:Int) then (if (d).toNat<g.length then (rec ((wr .i64 (d-1)),q.2.2,(g.set (d).toNat q.1))) else none) else none)) else none) else none)) else none) else none)) else (bif (decide (n.1=m.2)) then (bif (decide (n.2<=(e.getD ((d).toNat+((wr .i64 (((b:Nat):Int)-2))).toNat) 0))) then ((z45.l0b3 (d).toNat (((wr .i64 ((wr .i64 (d+((b:Nat):Int)))+1))).toNat-(d).toNat) m.1 a b ((b:Nat):Int) c ((0:Int),(0:Int),(0:Int),e)).bind λr=>(if 0<=((b:Nat):Int)/\((b:Nat):Int)<(((((wr .i64 ((wr .i64 (d+((b:Nat):Int)))+1))).toNat-(d).toNat):Nat):Int) then (if ((d).toNat+(((b:Nat):Int)).toNat)<r.2.2.2.length then ((z1.F (r.2.2.2.getD ((d).toNat+(((b:Nat):Int)).toNat) 0) r.1 r.2.1).bind λs=>(if 0<=((b:Nat):Int)/\((b:Nat):Int)<(((((wr .i64 ((wr .i64 (d+((b:Nat):Int)))+1))).toNat-(d).toNat):Nat):Int) then (if ((d).toNat+(((b:Nat):Int)).toNat)<r.2.2.2.length then ((z45.l2 a b (d).toNat (((wr .i64 ((wr .i64 (d+((b:Nat):Int)))+1))).toNat-(d).toNat) c (m.1,s.2,(r.2.2.2.set ((d).toNat+(((b:Nat):Int)).toNat) s.1))).bind λt=>(if 0<=d/\d<(g.length:Int) then (if (d).toNat<g.length then (rec ((wr .i64 (d-1)),t.2.2,(g.set (d).toNat t.1))) else none) else none)) else none) else none)) else none) else none)) else (if 0<=(wr .i64 (((b:Nat):Int)-1))/\(wr .i64 (((b:Nat):Int)-1))<((b:Nat):Int) then (if (a+((wr .i64 (((b:Nat):Int)-1))).toNat)<c.length then ((z0.F m.2 (c.getD (a+((wr .i64 (((b:Nat):Int)-1))).toNat) 0) 0).bind λu=>(bif (decide (u.2=0)) then (if 0<=(wr .i64 (((b:Nat):Int)-2))/\(wr .i64 (((b:Nat):Int)-2))<((b:Nat):Int) then (if (a+((wr .i64 (((b:Nat):Int)-2))).toNat)<c.length then ((z44.F (wr .u64 (m.1-1)) (c.getD (a+((wr .i64 (((b:Nat):Int)-2))).toNat) 0)).bind λv=>(bif (decide (v.1<u.1)) then ((z45.l0b3 (d).toNat (((wr .i64 ((wr .i64 (d+((b:Nat):Int)))+1))).toNat-(d).toNat) (wr .u64 (m.1-1)) a b ((b:Nat):Int) c ((0:Int),(0:Int),(0:Int),e)).bind λw=>(if 0<=((b:Nat):Int)/\((b:Nat):Int)<(((((wr .i64 ((wr .i64 (d+((b:Nat):Int)))+1))).toNat-(d).toNat):Nat):Int) then (if ((d).toNat+(((b:Nat):Int)).toNat)<w.2.2.2.length then ((z1.F (w.2.2.2.getD ((d).toNat+(((b:Nat):Int)).toNat) 0) w.1 w.2.1).bind λy=>(if 0<=((b:Nat):Int)/\((b:Nat):Int)<(((((wr .i64 ((wr .i64 (d+((b:Nat):Int)))+1))).toNat-(d).toNat):Nat):Int) then (if ((d).toNat+(((b:Nat):Int)).toNat)<w.2.2.2.length then ((z45.l2 a b (d).toNat (((wr .i64 ((wr .i64 (d+((b:Nat):Int)))+1))).toNat-(d).toNat) c ((wr .u64 (m.1-1)),y.2,(w.2.2.2.set ((d).toNat+(((b:Nat):Int)).toNat) y.1))).bind λz=>(if 0<=d/\d<(g.length:Int) then (if (d).toNat<g.length then (rec ((wr .i64 (d-1)),z.2.2,(g.set (d).toNat z.1))) else none) else none)) else none) else none)) else none) else none)) else (bif (decide (v.1=u.1)) then (bif (decide (v.2<=(e.getD ((d).toNat+((wr .i64 (((b:Nat):Int)-2))).toNat) 0))) then ((z45.l0b3 (d).toNat (((wr .i64 ((wr .i64 (d+((b:Nat):Int)))+1))).toNat-(d).toNat) (wr .u64 (m.1-1)) a b ((b:Nat):Int) c ((0:Int),(0:Int),(0:Int),e)).bind λA=>(if 0<=((b:Nat):Int)/\((b:Nat):Int)<(((((wr .i64 ((wr .i64 (d+((b:Nat):Int)))+1))).toNat-(d).toNat):Nat):Int) then (if ((d).toNat+(((b:Nat):Int)).toNat)<A.2.2.2.length then ((z1.F (A.2.2.2.getD ((d).toNat+(((b:Nat):Int)).toNat) 0) A.1 A.2.1).bind λB=>(if 0<=((b:Nat):Int)/\((b:Nat):Int)<(((((wr .i64 ((wr .i64 (d+((b:Nat):Int)))+1))).toNat-(d).toNat):Nat):Int) then (if ((d).toNat+(((b:Nat):Int)).toNat)<A.2.2.2.length then ((z45.l2 a b (d).toNat (((wr .i64 ((wr .i64 (d+((b:Nat):Int)))+1))).toNat-(d).toNat) c ((wr .u64 (m.1-1)),B.2,(A.2.2.2.set ((d).toNat+(((b:Nat):Int)).toNat) B.1))).bind λC=>(if 0<=d/\d<(g.length:Int) then (if (d).toNat<g.length then (rec ((wr .i64 (d-1)),C.2.2,(g.set (d).toNat C.1))) else none) else none)) else none) else none)) else none) else none)) else (if 0<=(wr .i64 (((b:Nat):Int)-1))/\(wr .i64 (((b:Nat):Int)-1))<((b:Nat):Int) then (if (a+((wr .i64 (((b:Nat):Int)-1))).toNat)<c.length then ((z0.F u.1 (c.getD (a+((wr .i64 (((b:Nat):Int)-1))).toNat) 0) 0).bind λD=>(bif (decide (D.2=0)) then (if 0<=(wr .i64 (((b:Nat):Int)-2))/\(wr .i64 (((b:Nat):Int)-2))<((b:Nat):Int) then (if (a+((wr .i64 (((b:Nat):Int)-2))).toNat)<c.length then ((z44.F (wr .u64 ((wr .u64 (m.1-1))-1)) (c.getD (a+((wr .i64 (((b:Nat):Int)-2))).toNat) 0)).bind λE=>(bif (decide (E.1<D.1)) then ((z45.l0b3 (d).toNat (((wr .i64 ((wr .i64 (d+((b:Nat):Int)))+1))).toNat-(d).toNat) (wr .u64 ((wr .u64 (m.1-1))-1)) a b ((b:Nat):Int) c ((0:Int),(0:Int),(0:Int),e)).bind λG=>(if 0<=((b:Nat):Int)/\((b:Nat):Int)<(((((wr .i64 ((wr .i64 (d+((b:Nat):Int)))+1))).toNat-(d).toNat):Nat):Int) then (if ((d).toNat+(((b:Nat):Int)).toNat)<G.2.2.2.length then ((z1.F (G.2.2.2.getD ((d).toNat+(((b:Nat):Int)).toNat) 0) G.1 G.2.1).bind λH=>(if 0<=((b:Nat):Int)/\((b:Nat):Int)<(((((wr .i64 ((wr .i64 (d+((b:Nat):Int)))+1))).toNat-(d).toNat):Nat):Int) then (if ((d).toNat+(((b:Nat):Int)).toNat)<G.2.2.2.length then ((z45.l2 a b (d).toNat (((wr .i64 ((wr .i64 (d+((b:Nat):Int)))+1))).toNat-(d).toNat) c ((wr .u64 ((wr .u64 (m.1-1))-1)),H.2,(G.2.2.2.set ((d).toNat+(((b:Nat):Int)).toNat) H.1))).bind λI=>(if 0<=d/\d<(g.length:Int) then (if (d).toNat<g.length then (rec ((wr .i64 (d-1)),I.2.2,(g.set (d).toNat I.1))) else none) else none)) else none) else none)) else none) else none)) else (bif (decide (E.1=D.1)) then (bif (decide (E.2<=(e.getD ((d).toNat+((wr .i64 (((b:Nat):Int)-2))).toNat) 0))) then ((z45.l0b3 (d).toNat (((wr .i64 ((wr .i64 (d+((b:Nat):Int)))+1))).toNat-(d).toNat) (wr .u64 ((wr .u64 (m.1-1))-1)) a b ((b:Nat):Int) c ((0:Int),(0:Int),(0:Int),e)).bind λJ=>(if 0<=((b:Nat):Int)/\((b:Nat):Int)<(((((wr .i64 ((wr .i64 (d+((b:Nat):Int)))+1))).toNat-(d).toNat):Nat):Int) then (if ((d).toNat+(((b:Nat):Int)).toNat)<J.2.2.2.length then ((z1.F (J.2.2.2.getD ((d).toNat+(((b:Nat):Int)).toNat) 0) J.1 J.2.1).bind λK=>(if 0<=((b:Nat):Int)/\((b:Nat):Int)<(((((wr .i64 ((wr .i64 (d+((b:Nat):Int)))+1))).toNat-(d).toNat):Nat):Int) then (if ((d).toNat+(((b:Nat):Int)).toNat)<J.2.2.2.length then ((z45.l2 a b (d).toNat (((wr .i64 ((wr .i64 (d+((b:Nat):Int)))+1))).toNat-(d).toNat) c ((wr .u64 ((wr .u64 (m.1-1))-1)),K.2,(J.2.2.2.set ((d).toNat+(((b:Nat):Int)).toNat) K.1))).bind λL=>(if 0<=d/\d<(g.length:Int) then (if (d).toNat<g.length then (rec ((wr .i64 (d-1)),L.2.2,(g.set (d).toNat L.1))) else none) else none)) else none) else none)) else none) else none)) else (if 0<=(wr .i64 (((b:Nat):Int)-1))/\(wr .i64 (((b:Nat):Int)-1))<((b:Nat):Int) then (if (a+((wr .i64 (((b:Nat):Int)-1))).toNat)<c.length then ((z0.F D.1 (c.getD (a+((wr .i64 (((b:Nat):Int)-1))).toNat) 0) 0).bind λM=>(bif (decide (M.2=0)) then none else ((z45.l0b3 (d).toNat (((wr .i64 ((wr .i64 (d+((b:Nat):Int)))+1))).toNat-(d).toNat) (wr .u64 ((wr .u64 ((wr .u64 (m.1-1))-1))-1)) a b ((b:Nat):Int) c ((0:Int),(0:Int),(0:Int),e)).bind λN=>(if 0<=((b:Nat):Int)/\((b:Nat):Int)<(((((wr .i64 ((wr .i64 (d+((b:Nat):Int)))+1))).toNat-(d).toNat):Nat):Int) then (if ((d).toNat+(((b:Nat):Int)).toNat)<N.2.2.2.length then ((z1.F (N.2.2.2.getD ((d).toNat+(((b:Nat):Int)).toNat) 0) N.1 N.2.1).bind λO=>(if 0<=((b:Nat):Int)/\((b:Nat):Int)<(((((wr .i64 ((wr .i64 (d+((b:Nat):Int)))+1))).toNat-(d).toNat):Nat):Int) then (if ((d).toNat+(((b:Nat):Int)).toNat)<N.2.2.2.length then ((z45.l2 a b (d).toNat (((wr .i64 ((wr .i64 (d+((b:Nat):Int)))+1))).toNat-(d).toNat) c ((wr .u64 ((wr .u64 ((wr .u64 (m.1-1))-1))-1)),O.2,(N.2.2.2.set ((d).toNat+(((b:Nat):Int)).toNat) O.1))).bind λP=>(if 0<=d/\d<(g.length:Int) then (if (d).toNat<g.length then (rec ((wr .i64 (d-1)),P.2.2,(g.set (d).toNat P.1))) else none) else none)) else none) else none)) else none) else none)))) else none) else none)) else (if 0<=(wr .i64 (((b:Nat):Int)-1))/\(wr .i64 (((b:Nat):Int)-1))<((b:Nat):Int) then (if (a+((wr .i64 (((b:Nat):Int)-1))).toNat)<c.length then ((z0.F D.1 (c.getD (a+((wr .i64 (((b:Nat):Int)-1))).toNat) 0) 0).bind λQ=>(bif (decide (Q.2=0)) then none else ((z45.l0b3 (d).toNat (((wr .i64 ((wr .i64 (d+((b:Nat):Int)))+1))).toNat-(d).toNat) (wr .u64 ((wr .u64 ((wr .u64 (m.1-1))-1))-1)) a b ((b:Nat):Int) c ((0:Int),(0:Int),(0:Int),e)).bind λS=>(if 0<=((b:Nat):Int)/\((b:Nat):Int)<(((((wr .i64 ((wr .i64 (d+((b:Nat):Int)))+1))).toNat-(d).toNat):Nat):Int) then (if ((d).toNat+(((b:Nat):Int)).toNat)<S.2.2.2.length then ((z1.F (S.2.2.2.getD ((d).toNat+(((b:Nat):Int)).toNat) 0) S.1 S.2.1).bind λU=>(if 0<=((b:Nat):Int)/\((b:Nat):Int)<(((((wr .i64 ((wr .i64 (d+((b:Nat):Int)))+1))).toNat-(d).toNat):Nat):Int) then (if ((d).toNat+(((b:Nat):Int)).toNat)<S.2.2.2.length then ((z45.l2 a b (d).toNat (((wr .i64 ((wr .i64 (d+((b:Nat):Int)))+1))).toNat-(d).toNat) c ((wr .u64 ((wr .u64 ((wr .u64 (m.1-1))-1))-1)),U.2,(S.2.2.2.set ((d).toNat+(((b:Nat):Int)).toNat) U.1))).bind λW=>(if 0<=d/\d<(g.length:Int) then (if (d).toNat<g.length then (rec ((wr .i64 (d-1)),W.2.2,(g.set (d).toNat W.1))) else none) else none)) else none) else none)) else none) else none)))) else none) else none)))) else none) else none) else ((z45.l0b3 (d).toNat (((wr .i64 ((wr .i64 (d+((b:Nat):Int)))+1))).toNat-(d).toNat) (wr .u64 ((wr .u64 (m.1-1))-1)) a b ((b:Nat):Int) c ((0:Int),(0:Int),(0:Int),e)).bind λY=>(if 0<=((b:Nat):Int)/\((b:Nat):Int)<(((((wr .i64 ((wr .i64 (d+((b:Nat):Int)))+1))).toNat-(d).toNat):Nat):Int) then (if ((d).toNat+(((b:Nat):Int)).toNat)<Y.2.2.2.length then ((z1.F (Y.2.2.2.getD ((d).toNat+(((b:Nat):Int)).toNat) 0) Y.1 Y.2.1).bind λZ=>(if 0<=((b:Nat):Int)/\((b:Nat):Int)<(((((wr .i64 ((wr .i64 (d+((b:Nat):Int)))+1))).toNat-(d).toNat):Nat):Int) then (if ((d).toNat+(((b:Nat):Int)).toNat)<Y.2.2.2.length then ((z45.l2 a b (d).toNat (((wr .i64 ((wr .i64 (d+((b:Nat):Int)))+1))).toNat-(d).toNat) c ((wr .u64 ((wr .u64 (m.1-1))-1)),Z.2,(Y.2.2.2.set ((d).toNat+(((b:Nat):Int)).toNat) Z.1))).bind λa0=>(if 0<=d/\d<(g.length:Int) then (if (d).toNat<g.length then (rec ((wr .i64 (d-1)),a0.2.2,(g.set (d).toNat a0.1))) else none) else none)) else none) else none)) else none) else none)))) else none) else none)) else (if 0<=(wr .i64 (((b:Nat):Int)-1))/\(wr .i64 (((b:Nat):Int)-1))<((b:Nat):Int) then (if (a+((wr .i64 (((b:Nat):Int)-1))).toNat)<c.length then ((z0.F u.1 (c.getD (a+((wr .i64 (((b:Nat):Int)-1))).toNat) 0) 0).bind λa1=>(bif (decide (a1.2=0)) then (if 0<=(wr .i64 (((b:Nat):Int)-2))/\(wr .i64 (((b:Nat):Int)-2))<((b:Nat):Int) then (if (a+((wr .i64 (((b:Nat):Int)-2))).toNat)<c.length then ((z44.F (wr .u64 ((wr .u64 (m.1-1))-1)) (c.getD (a+((wr .i64 (((b:Nat):Int)-2))).toNat) 0)).bind λa2=>(bif (decide (a2.1<a1.1)) then ((z45.l0b3 (d).toNat (((wr .i64 ((wr .i64 (d+((b:Nat):Int)))+1))).toNat-(d).toNat) (wr .u64 ((wr .u64 (m.1-1))-1)) a b ((b:Nat):Int) c ((0:Int),(0:Int),(0:Int),e)).bind λa3=>(if 0<=((b:Nat):Int)/\((b:Nat):Int)<(((((wr .i64 ((wr .i64 (d+((b:Nat):Int)))+1))).toNat-(d).toNat):Nat):Int) then (if ((d).toNat+(((b:Nat):Int)).toNat)<a3.2.2.2.length then ((z1.F (a3.2.2.2.getD ((d).toNat+(((b:Nat):Int)).toNat) 0) a3.1 a3.2.1).bind λa4=>(if 0<=((b:Nat):Int)/\((b:Nat):Int)<(((((wr .i64 ((wr .i64 (d+((b:Nat):Int)))+1))).toNat-(d).toNat):Nat):Int) then (if ((d).toNat+(((b:Nat):Int)).toNat)<a3.2.2.2.length then ((z45.l2 a b (d).toNat (((wr .i64 ((wr .i64 (d+((b:Nat):Int)))+1))).toNat-(d).toNat) c ((wr .u64 ((wr .u64 (m.1-1))-1)),a4.2,(a3.2.2.2.set ((d).toNat+(((b:Nat):Int)).toNat) a4.1))).bind λa5=>(if 0<=d/\d<(g.length:Int) then (if (d).toNat<g.length then (rec ((wr .i64 (d-1)),a5.2.2,(g.set (d).toNat a5.1))) else none) else none)) else none) else none)) else none) else none)) else (bif (decide (a2.1=a1.1)) then (bif (decide (a2.2<=(e.getD ((d).toNat+((wr .i64 (((b:Nat):Int)-2))).toNat) 0))) then ((z45.l0b3 (d).toNat (((wr .i64 ((wr .i64 (d+((b:Nat):Int)))+1))).toNat-(d).toNat) (wr .u64 ((wr .u64 (m.1-1))-1)) a b ((b:Nat):Int) c ((0:Int),(0:Int),(0:Int),e)).bind λa6=>(if 0<=((b:Nat):Int)/\((b:Nat):Int)<(((((wr .i64 ((wr .i64 (d+((b:Nat):Int)))+1))).toNat-(d).toNat):Nat):Int) then (if ((d).toNat+(((b:Nat):Int)).toNat)<a6.2.2.2.length then ((z1.F (a6.2.2.2.getD ((d).toNat+(((b:Nat):Int)).toNat) 0) a6.1 a6.2.1).bind λa7=>(if 0<=((b:Nat):Int)/\((b:Nat):Int)<(((((wr .i64 ((wr .i64 (d+((b:Nat):Int)))+1))).toNat-(d).toNat):Nat):Int) then (if ((d).toNat+(((b:Nat):Int)).toNat)<a6.2.2.2.length then ((z45.l2 a b (d).toNat (((wr .i64 ((wr .i64 (d+((b:Nat):Int)))+1))).toNat-(d).toNat) c ((wr .u64 ((wr .u64 (m.1-1))-1)),a7.2,(a6.2.2.2.set ((d).toNat+(((b:Nat):Int)).toNat) a7.1))).bind λa8=>(if 0<=d/\d<(g.length:Int) then (if (d).toNat<g.length then (rec ((wr .i64 (d-1)),a8.2.2,(g.set (d).toNat a8.1))) else none) else none)) else none) else none)) else none) else none)) else (if 0<=(wr .i64 (((b:Nat):Int)-1))/\(wr .i64 (((b:Nat):Int)-1))<((b:Nat):Int) then (if (a+((wr .i64 (((b:Nat):Int)-1))).toNat)<c.length then ((z0.F a1.1 (c.getD (a+((wr .i64 (((b:Nat):Int)-1))).toNat) 0) 0).bind λa9=>(bif (decide (a9.2=0)) then none else ((z45.l0b3 (d).toNat (((wr .i64 ((wr .i64 (d+((b:Nat):Int)))+1))).toNat-(d).toNat) (wr .u64 ((wr .u64 ((wr .u64 (m.1-1))-1))-1)) a b ((b:Nat):Int) c ((0:Int),(0:Int),(0:Int),e)).bind λb0=>(if 0<=((b:Nat):Int)/\((b:Nat):Int)<(((((wr .i64 ((wr .i64 (d+((b:Nat):Int)))+1))).toNat-(d).toNat):Nat):Int) then (if ((d).toNat+(((b:Nat):Int)).toNat)<b0.2.2.2.length then ((z1.F (b0.2.2.2.getD ((d).toNat+(((b:Nat):Int)).toNat) 0) b0.1 b0.2.1).bind λb1=>(if 0<=((b:Nat):Int)/\((b:Nat):Int)<(((((wr .i64 ((wr .i64 (d+((b:Nat):Int)))+1))).toNat-(d).toNat):Nat):Int) then (if ((d).toNat+(((b:Nat):Int)).toNat)<b0.2.2.2.length then ((z45.l2 a b (d).toNat (((wr .i64 ((wr .i64 (d+((b:Nat):Int)))+1))).toNat-(d).toNat) c ((wr .u64 ((wr .u64 ((wr .u64 (m.1-1))-1))-1)),b1.2,(b0.2.2.2.set ((d).toNat+(((b:Nat):Int)).toNat) b1.1))).bind λb2=>(if 0<=d/\d<(g.length:Int) then (if (d).toNat<g.length then (rec ((wr .i64 (d-1)),b2.2.2,(g.set (d).toNat b2.1))) else none) else none)) else none) else none)) else none) else none)))) else none) else none)) else (if 0<=(wr .i64 (((b:Nat):Int)-1))/\(wr .i64 (((b:Nat):Int)-1))<((b:Nat):Int) then (if (a+((wr .i64 (((b:Nat):Int)-1))).toNat)<c.length then ((z0.F a1.1 (c.getD (a+((wr .i64 (((b:Nat):Int)-1))).toNat) 0) 0).bind λb3=>(bif (decide (b3.2=0)) then none else ((z45.l0b3 (d).toNat (((wr .i64 ((wr .i64 (d+((b:Nat):Int)))+1))).toNat-(d).toNat) (wr .u64 ((wr .u64 ((wr .u64 (m.1-1))-1))-1)) a b ((b:Nat):Int) c ((0:Int),(0:Int),(0:Int),e)).bind λb4=>(if 0<=((b:Nat):Int)/\((b:Nat):Int)<(((((wr .i64 ((wr .i64 (d+((b:Nat):Int)))+1))).toNat-(d).toNat):Nat):Int) then (if ((d).toNat+(((b:Nat):Int)).toNat)<b4.2.2.2.length then ((z1.F (b4.2.2.2.getD ((d).toNat+(((b:Nat):Int)).toNat) 0) b4.1 b4.2.1).bind λb5=>(if 0<=((b:Nat):Int)/\((b:Nat):Int)<(((((wr .i64 ((wr .i64 (d+((b:Nat):Int)))+1))).toNat-(d).toNat):Nat):Int) then (if ((d).toNat+(((b:Nat):Int)).toNat)<b4.2.2.2.length then ((z45.l2 a b (d).toNat (((wr .i64 ((wr .i64 (d+((b:Nat):Int)))+1))).toNat-(d).toNat) c ((wr .u64 ((wr .u64 ((wr .u64 (m.1-1))-1))-1)),b5.2,(b4.2.2.2.set ((d).toNat+(((b:Nat):Int)).toNat) b5.1))).bind λb6=>(if 0<=d/\d<(g.length:Int) then (if (d).toNat<g.length then (rec ((wr .i64 (d-1)),b6.2.2,(g.set (d).toNat b6.1))) else none) else none)) else none) else none)) else none) else none)))) else none) else none)))) else none) else none) else ((z45.l0b3 (d).toNat (((wr .i64 ((wr .i64 (d+((b:Nat):Int)))+1))).toNat-(d).toNat) (wr .u64 ((wr .u64 (m.1-1))-1)) a b ((b:Nat):Int) c ((0:Int),(0:Int),(0:Int),e)).bind λb7=>(if 0<=((b:Nat):Int)/\((b:Nat):Int)<(((((wr .i64 ((wr .i64 (d+((b:Nat):Int)))+1))).toNat-(d).toNat):Nat):Int) then (if ((d).toNat+(((b:Nat):Int)).toNat)<b7.2.2.2.length then ((z1.F (b7.2.2.2.getD ((d).toNat+(((b:Nat):Int)).toNat) 0) b7.1 b7.2.1).bind λb8=>(if 0<=((b:Nat):Int)/\((b:Nat):Int)<(((((wr .i64 ((wr .i64 (d+((b:Nat):Int)))+1))).toNat-(d).toNat):Nat):Int) then (if ((d).toNat+(((b:Nat):Int)).toNat)<b7.2.2.2.length then ((z45.l2 a b (d).toNat (((wr .i64 ((wr .i64 (d+((b:Nat):Int)))+1))).toNat-(d).toNat) c ((wr .u64 ((wr .u64 (m.1-1))-1)),b8.2,(b7.2.2.2.set ((d).toNat+(((b:Nat):Int)).toNat) b8.1))).bind λb9=>(if 0<=d/\d<(g.length:Int) then (if (d).toNat<g.length then (rec ((wr .i64 (d-1)),b9.2.2,(g.set (d).toNat b9.1))) else none) else none)) else none) else none)) else none) else none)))) else none) else none)))) else none) else none) else ((z45.l0b3 (d).toNat (((wr .i64 ((wr .i64 (d+((b:Nat):Int)))+1))).toNat-(d).toNat) (wr .u64 (m.1-1)) a b ((b:Nat):Int) c ((0:Int),(0:Int),(0:Int),e)).bind λc0=>(if 0<=((b:Nat):Int)/\((b:Nat):Int)<(((((wr .i64 ((wr .i64 (d+((b:Nat):Int)))+1))).toNat-(d).toNat):Nat):Int) then (if ((d).toNat+(((b:Nat):Int)).toNat)<c0.2.2.2.length then ((z1.F (c0.2.2.2.getD ((d).toNat+(((b:Nat):Int)).toNat) 0) c0.1 c0.2.1).bind λc1=>(if 0<=((b:Nat):Int)/\((b:Nat):Int)<(((((wr .i64 ((wr .i64 (d+((b:Nat):Int)))+1))).toNat-(d).toNat):Nat):Int) then (if ((d).toNat+(((b:Nat):Int)).toNat)<c0.2.2.2.length then ((z45.l2 a b (d).toNat (((wr .i64 ((wr .i64 (d+((b:Nat):Int)))+1))).toNat-(d).toNat) c ((wr .u64 (m.1-1)),c1.2,(c0.2.2.2.set ((d).toNat+(((b:Nat):Int)).toNat) c1.1))).bind λc2=>(if 0<=d/\d<(g.length:Int) then (if (d).toNat<g.length then (rec ((wr .i64 (d-1)),c2.2.2,(g.set (d).toNat c2.1))) else none) else none)) else none) else none)) else none) else none)))) else none) else none)) else (if 0<=(wr .i64 (((b:Nat):Int)-1))/\(wr .i64 (((b:Nat):Int)-1))<((b:Nat):Int) then (if (a+((wr .i64 (((b:Nat):Int)-1))).toNat)<c.length then ((z0.F m.2 (c.getD (a+((wr .i64 (((b:Nat):Int)-1))).toNat) 0) 0).bind λc3=>(bif (decide (c3.2=0)) then (if 0<=(wr .i64 (((b:Nat):Int)-2))/\(wr .i64 (((b:Nat):Int)-2))<((b:Nat):Int) then (if (a+((wr .i64 (((b:Nat):Int)-2))).toNat)<c.length then ((z44.F (wr .u64 (m.1-1)) (c.getD (a+((wr .i64 (((b:Nat):Int)-2))).toNat) 0)).bind λc4=>(bif (decide (c4.1<c3.1)) then ((z45.l0b3 (d).toNat (((wr .i64 ((wr .i64 (d+((b:Nat):Int)))+1))).toNat-(d).toNat) (wr .u64 (m.1-1)) a b ((b:Nat):Int) c ((0:Int),(0:Int),(0:Int),e)).bind λc5=>(if 0<=((b:Nat):Int)/\((b:Nat):Int)<(((((wr .i64 ((wr .i64 (d+((b:Nat):Int)))+1))).toNat-(d).toNat):Nat):Int) then (if ((d).toNat+(((b:Nat):Int)).toNat)<c5.2.2.2.length then ((z1.F (c5.2.2.2.getD ((d).toNat+(((b:Nat):Int)).toNat) 0) c5.1 c5.2.1).bind λc6=>(if 0<=((b:Nat):Int)/\((b:Nat):Int)<(((((wr .i64 ((wr .i64 (d+((b:Nat):Int)))+1))).toNat-(d).toNat):Nat):Int) then (if ((d).toNat+(((b:Nat):Int)).toNat)<c5.2.2.2.length then ((z45.l2 a b (d).toNat (((wr .i64 ((wr .i64 (d+((b:Nat):Int)))+1))).toNat-(d).toNat) c ((wr .u64 (m.1-1)),c6.2,(c5.2.2.2.set ((d).toNat+(((b:Nat):Int)).toNat) c6.1))).bind λc7=>(if 0<=d/\d<(g.length:Int) then (if (d).toNat<g.length then (rec ((wr .i64 (d-1)),c7.2.2,(g.set (d).toNat c7.1))) else none) else none)) else none) else none)) else none) else none)) else (bif (decide (c4.1=c3.1)) then (bif (decide (c4.2<=(e.getD ((d).toNat+((wr .i64 (((b:Nat):Int)-2))).toNat) 0))) then ((z45.l0b3 (d).toNat (((wr .i64 ((wr .i64 (d+((b:Nat):Int)))+1))).toNat-(d).toNat) (wr .u64 (m.1-1)) a b ((b:Nat):Int) c ((0:Int),(0:Int),(0:Int),e)).bind λc8=>(if 0<=((b:Nat):Int)/\((b:Nat):Int)<(((((wr .i64 ((wr .i64 (d+((b:Nat):Int)))+1))).toNat-(d).toNat):Nat):Int) then (if ((d).toNat+(((b:Nat):Int)).toNat)<c8.2.2.2.length then ((z1.F (c8.2.2.2.getD ((d).toNat+(((b:Nat):Int)).toNat) 0) c8.1 c8.2.1).bind λc9=>(if 0<=((b:Nat):Int)/\((b:Nat):Int)<(((((wr .i64 ((wr .i64 (d+((b:Nat):Int)))+1))).toNat-(d).toNat):Nat):Int) then (if ((d).toNat+(((b:Nat):Int)).toNat)<c8.2.2.2.length then ((z45.l2 a b (d).toNat (((wr .i64 ((wr .i64 (d+((b:Nat):Int)))+1))).toNat-(d).toNat) c ((wr .u64 (m.1-1)),c9.2,(c8.2.2.2.set ((d).toNat+(((b:Nat):Int)).toNat) c9.1))).bind λd0=>(if 0<=d/\d<(g.length:Int) then (if (d).toNat<g.length then (rec ((wr .i64 (d-1)),d0.2.2,(g.set (d).toNat d0.1))) else none) else none)) else none) else none)) else none) else none)) else (if 0<=(wr .i64 (((b:Nat):Int)-1))/\(wr .i64 (((b:Nat):Int)-1))<((b:Nat):Int) then (if (a+((wr .i64 (((b:Nat):Int)-1))).toNat)<c.length then ((z0.F c3.1 (c.getD (a+((wr .i64 (((b:Nat):Int)-1))).toNat) 0) 0).bind λd1=>(bif (decide (d1.2=0)) then (if 0<=(wr .i64 (((b:Nat):Int)-2))/\(wr .i64 (((b:Nat):Int)-2))<((b:Nat):Int) then (if (a+((wr .i64 (((b:Nat):Int)-2))).toNat)<c.length then ((z44.F (wr .u64 ((wr .u64 (m.1-1))-1)) (c.getD (a+((wr .i64 (((b:Nat):Int)-2))).toNat) 0)).bind λd2=>(bif (decide (d2.1<d1.1)) then ((z45.l0b3 (d).toNat (((wr .i64 ((wr .i64 (d+((b:Nat):Int)))+1))).toNat-(d).toNat) (wr .u64 ((wr .u64 (m.1-1))-1)) a b ((b:Nat):Int) c ((0:Int),(0:Int),(0:Int),e)).bind λd3=>(if 0<=((b:Nat):Int)/\((b:Nat):Int)<(((((wr .i64 ((wr .i64 (d+((b:Nat):Int)))+1))).toNat-(d).toNat):Nat):Int) then (if ((d).toNat+(((b:Nat):Int)).toNat)<d3.2.2.2.length then ((z1.F (d3.2.2.2.getD ((d).toNat+(((b:Nat):Int)).toNat) 0) d3.1 d3.2.1).bind λd4=>(if 0<=((b:Nat):Int)/\((b:Nat):Int)<(((((wr .i64 ((wr .i64 (d+((b:Nat):Int)))+1))).toNat-(d).toNat):Nat):Int) then (if ((d).toNat+(((b:Nat):Int)).toNat)<d3.2.2.2.length then ((z45.l2 a b (d).toNat (((wr .i64 ((wr .i64 (d+((b:Nat):Int)))+1))).toNat-(d).toNat) c ((wr .u64 ((wr .u64 (m.1-1))-1)),d4.2,(d3.2.2.2.set ((d).toNat+(((b:Nat):Int)).toNat) d4.1))).bind λd5=>(if 0<=d/\d<(g.length:Int) then (if (d).toNat<g.length then (rec ((wr .i64 (d-1)),d5.2.2,(g.set (d).toNat d5.1))) else none) else none)) else none) else none)) else none) else none)) else (bif (decide (d2.1=d1.1)) then (bif (decide (d2.2<=(e.getD ((d).toNat+((wr .i64 (((b:Nat):Int)-2))).toNat) 0))) then ((z45.l0b3 (d).toNat (((wr .i64 ((wr .i64 (d+((b:Nat):Int)))+1))).toNat-(d).toNat) (wr .u64 ((wr .u64 (m.1-1))-1)) a b ((b:Nat):Int) c ((0:Int),(0:Int),(0:Int),e)).bind λd6=>(if 0<=((b:Nat):Int)/\((b:Nat):Int)<(((((wr .i64 ((wr .i64 (d+((b:Nat):Int)))+1))).toNat-(d).toNat):Nat):Int) then (if ((d).toNat+(((b:Nat):Int)).toNat)<d6.2.2.2.length then ((z1.F (d6.2.2.2.getD ((d).toNat+(((b:Nat):Int)).toNat) 0) d6.1 d6.2.1).bind λd7=>(if 0<=((b:Nat):Int)/\((b:Nat):Int)<(((((wr .i64 ((wr .i64 (d+((b:Nat):Int)))+1))).toNat-(d).toNat):Nat):Int) then (if ((d).toNat+(((b:Nat):Int)).toNat)<d6.2.2.2.length then ((z45.l2 a b (d).toNat (((wr .i64 ((wr .i64 (d+((b:Nat):Int)))+1))).toNat-(d).toNat) c ((wr .u64 ((wr .u64 (m.1-1))-1)),d7.2,(d6.2.2.2.set ((d).toNat+(((b:Nat):Int)).toNat) d7.1))).bind λd8=>(if 0<=d/\d<(g.length:Int) then (if (d).toNat<g.length then (rec ((wr .i64 (d-1)),d8.2.2,(g.set (d).toNat d8.1))) else none) else none)) else none) else none)) else none) else none)) else (if 0<=(wr .i64 (((b:Nat):Int)-1))/\(wr .i64 (((b:Nat):Int)-1))<((b:Nat):Int) then (if (a+((wr .i64 (((b:Nat):Int)-1))).toNat)<c.length then ((z0.F d1.1 (c.getD (a+((wr .i64 (((b:Nat):Int)-1))).toNat) 0) 0).bind λd9=>(bif (decide (d9.2=0)) then none else ((z45.l0b3 (d).toNat (((wr .i64 ((wr .i64 (d+((b:Nat):Int)))+1))).toNat-(d).toNat) (wr .u64 ((wr .u64 ((wr .u64 (m.1-1))-1))-1)) a b ((b:Nat):Int) c ((0:Int),(0:Int),(0:Int),e)).bind λe0=>(if 0<=((b:Nat):Int)/\((b:Nat):Int)<(((((wr .i64 ((wr .i64 (d+((b:Nat):Int)))+1))).toNat-(d).toNat):Nat):Int) then (if ((d).toNat+(((b:Nat):Int)).toNat)<e0.2.2.2.length then ((z1.F (e0.2.2.2.getD ((d).toNat+(((b:Nat):Int)).toNat) 0) e0.1 e0.2.1).bind λe1=>(if 0<=((b:Nat):Int)/\((b:Nat):Int)<(((((wr .i64 ((wr .i64 (d+((b:Nat):Int)))+1))).toNat-(d).toNat):Nat):Int) then (if ((d).toNat+(((b:Nat):Int)).toNat)<e0.2.2.2.length then ((z45.l2 a b (d).toNat (((wr .i64 ((wr .i64 (d+((b:Nat):Int)))+1))).toNat-(d).toNat) c ((wr .u64 ((wr .u64 ((wr .u64 (m.1-1))-1))-1)),e1.2,(e0.2.2.2.set ((d).toNat+(((b:Nat):Int)).toNat) e1.1))).bind λe2=>(if 0<=d/\d<(g.length:Int) then (if (d).toNat<g.length then (rec ((wr .i64 (d-1)),e2.2.2,(g.set (d).toNat e2.1))) else none) else none)) else none) else none)) else none) else none)))) else none) else none)) else (if 0<=(wr .i64 (((b:Nat):Int)-1))/\(wr .i64 (((b:Nat):Int)-1))<((b:Nat):Int) then (if (a+((wr .i64 (((b:Nat):Int)-1))).toNat)<c.length then ((z0.F d1.1 (c.getD (a+((wr .i64 (((b:Nat):Int)-1))).toNat) 0) 0).bind λe3=>(bif (decide (e3.2=0)) then none else ((z45.l0b3 (d).toNat (((wr .i64 ((wr .i64 (d+((b:Nat):Int)))+1))).toNat-(d).toNat) (wr .u64 ((wr .u64 ((wr .u64 (m.1-1))-1))-1)) a b ((b:Nat):Int) c ((0:Int),(0:Int),(0:Int),e)).bind λe4=>(if 0<=((b:Nat):Int)/\((b:Nat):Int)<(((((wr .i64 ((wr .i64 (d+((b:Nat):Int)))+1))).toNat-(d).toNat):Nat):Int) then (if ((d).toNat+(((b:Nat):Int)).toNat)<e4.2.2.2.length then ((z1.F (e4.2.2.2.getD ((d).toNat+(((b:Nat):Int)).toNat) 0) e4.1 e4.2.1).bind λe5=>(if 0<=((b:Nat):Int)/\((b:Nat):Int)<(((((wr .i64 ((wr .i64 (d+((b:Nat):Int)))+1))).toNat-(d).toNat):Nat):Int) then (if ((d).toNat+(((b:Nat):Int)).toNat)<e4.2.2.2.length then ((z45.l2 a b (d).toNat (((wr .i64 ((wr .i64 (d+((b:Nat):Int)))+1))).toNat-(d).toNat) c ((wr .u64 ((wr .u64 ((wr .u64 (m.1-1))-1))-1)),e5.2,(e4.2.2.2.set ((d).toNat+(((b:Nat):Int)).toNat) e5.1))).bind λe6=>(if 0<=d/\d<(g.length:Int) then (if (d).toNat<g.length then (rec ((wr .i64 (d-1)),e6.2.2,(g.set (d).toNat e6.1))) else none) else none)) else none) else none)) else none) else none)))) else none) else none)))) else none) else none) else ((z45.l0b3 (d).toNat (((wr .i64 ((wr .i64 (d+((b:Nat):Int)))+1))).toNat-(d).toNat) (wr .u64 ((wr .u64 (m.1-1))-1)) a b ((b:Nat):Int) c ((0:Int),(0:Int),(0:Int),e)).bind λe7=>(if 0<=((b:Nat):Int)/\((b:Nat):Int)<(((((wr .i64 ((wr .i64 (d+((b:Nat):Int)))+1))).toNat-(d).toNat):Nat):Int) then (if ((d).toNat+(((b:Nat):Int)).toNat)<e7.2.2.2.length then ((z1.F (e7.2.2.2.getD ((d).toNat+(((b:Nat):Int)).toNat) 0) e7.1 e7.2.1).bind λe8=>(if 0<=((b:Nat):Int)/\((b:Nat):Int)<(((((wr .i64 ((wr .i64 (d+((b:Nat):Int)))+1))).toNat-(d).toNat):Nat):Int) then (if ((d).toNat+(((b:Nat):Int)).toNat)<e7.2.2.2.length then ((z45.l2 a b (d).toNat (((wr .i64 ((wr .i64 (d+((b:Nat):Int)))+1))).toNat-(d).toNat) c ((wr .u64 ((wr .u64 (m.1-1))-1)),e8.2,(e7.2.2.2.set ((d).toNat+(((b:Nat):Int)).toNat) e8.1))).bind λe9=>(if 0<=d/\d<(g.length:Int) then (if (d).toNat<g.length then (rec ((wr .i64 (d-1)),e9.2.2,(g.set (d).toNat e9.1))) else none) else none)) else none) else none)) else none) else none)))) else none) else none)) else (if 0<=(wr .i64 (((b:Nat):Int)-1))/\(wr .i64 (((b:Nat):Int)-1))<((b:Nat):Int) then (if (a+((wr .i64 (((b:Nat):Int)-1))).toNat)<c.length then ((z0.F c3.1 (c.getD (a+((wr .i64 (((b:Nat):Int)-1))).toNat) 0) 0).bind λg0=>(bif (decide (g0.2=0)) then (if 0<=(wr .i64 (((b:Nat):Int)-2))/\(wr .i64 (((b:Nat):Int)-2))<((b:Nat):Int) then (if (a+((wr .i64 (((b:Nat):Int)-2))).toNat)<c.length then ((z44.F (wr .u64 ((wr .u64 (m.1-1))-1)) (c.getD (a+((wr .i64 (((b:Nat):Int)-2))).toNat) 0)).bind λg1=>(bif (decide (g1.1<g0.1)) then ((z45.l0b3 (d).toNat (((wr .i64 ((wr .i64 (d+((b:Nat):Int)))+1))).toNat-(d).toNat) (wr .u64 ((wr .u64 (m.1-1))-1)) a b ((b:Nat):Int) c ((0:Int),(0:Int),(0:Int),e)).bind λg2=>(if 0<=((b:Nat):Int)/\((b:Nat):Int)<(((((wr .i64 ((wr .i64 (d+((b:Nat):Int)))+1))).toNat-(d).toNat):Nat):Int) then (if ((d).toNat+(((b:Nat):Int)).toNat)<g2.2.2.2.length then ((z1.F (g2.2.2.2.getD ((d).toNat+(((b:Nat):Int)).toNat) 0) g2.1 g2.2.1).bind λg3=>(if 0<=((b:Nat):Int)/\((b:Nat):Int)<(((((wr .i64 ((wr .i64 (d+((b:Nat):Int)))+1))).toNat-(d).toNat):Nat):Int) then (if ((d).toNat+(((b:Nat):Int)).toNat)<g2.2.2.2.length then ((z45.l2 a b (d).toNat (((wr .i64 ((wr .i64 (d+((b:Nat):Int)))+1))).toNat-(d).toNat) c ((wr .u64 ((wr .u64 (m.1-1))-1)),g3.2,(g2.2.2.2.set ((d).toNat+(((b:Nat):Int)).toNat) g3.1))).bind λg4=>(if 0<=d/\d<(g.length:Int) then (if (d).toNat<g.length then (rec ((wr .i64 (d-1)),g4.2.2,(g.set (d).toNat g4.1))) else none) else none)) else none) else none)) else none) else none)) else (bif (decide (g1.1=g0.1)) then (bif (decide (g1.2<=(e.getD ((d).toNat+((wr .i64 (((b:Nat):Int)-2))).toNat) 0))) then ((z45.l0b3 (d).toNat (((wr .i64 ((wr .i64 (d+((b:Nat):Int)))+1))).toNat-(d).toNat) (wr .u64 ((wr .u64 (m.1-1))-1)) a b ((b:Nat):Int) c ((0:Int),(0:Int),(0:Int),e)).bind λg5=>(if 0<=((b:Nat):Int)/\((b:Nat):Int)<(((((wr .i64 ((wr .i64 (d+((b:Nat):Int)))+1))).toNat-(d).toNat):Nat):Int) then (if ((d).toNat+(((b:Nat):Int)).toNat)<g5.2.2.2.length then ((z1.F (g5.2.2.2.getD ((d).toNat+(((b:Nat):Int)).toNat) 0) g5.1 g5.2.1).bind λg6=>(if 0<=((b:Nat):Int)/\((b:Nat):Int)<(((((wr .i64 ((wr .i64 (d+((b:Nat):Int)))+1))).toNat-(d).toNat):Nat):Int) then (if ((d).toNat+(((b:Nat):Int)).toNat)<g5.2.2.2.length then ((z45.l2 a b (d).toNat (((wr .i64 ((wr .i64 (d+((b:Nat):Int)))+1))).toNat-(d).toNat) c ((wr .u64 ((wr .u64 (m.1-1))-1)),g6.2,(g5.2.2.2.set ((d).toNat+(((b:Nat):Int)).toNat) g6.1))).bind λg7=>(if 0<=d/\d<(g.length:Int) then (if (d).toNat<g.length then (rec ((wr .i64 (d-1)),g7.2.2,(g.set (d).toNat g7.1))) else none) else none)) else none) else none)) else none) else none)) else (if 0<=(wr .i64 (((b:Nat):Int)-1))/\(wr .i64 (((b:Nat):Int)-1))<((b:Nat):Int) then (if (a+((wr .i64 (((b:Nat):Int)-1))).toNat)<c.length then ((z0.F g0.1 (c.getD (a+((wr .i64 (((b:Nat):Int)-1))).toNat) 0) 0).bind λg8=>(bif (decide (g8.2=0)) then none else ((z45.l0b3 (d).toNat (((wr .i64 ((wr .i64 (d+((b:Nat):Int)))+1))).toNat-(d).toNat) (wr .u64 ((wr .u64 ((wr .u64 (m.1-1))-1))-1)) a b ((b:Nat):Int) c ((0:Int),(0:Int),(0:Int),e)).bind λg9=>(if 0<=((b:Nat):Int)/\((b:Nat):Int)<(((((wr .i64 ((wr .i64 (d+((b:Nat):Int)))+1))).toNat-(d).toNat):Nat):Int) then (if ((d).toNat+(((b:Nat):Int)).toNat)<g9.2.2.2.length then ((z1.F (g9.2.2.2.getD ((d).toNat+(((b:Nat):Int)).toNat) 0) g9.1 g9.2.1).bind λh0=>(if 0<=((b:Nat):Int)/\((b:Nat):Int)<(((((wr .i64 ((wr .i64 (d+((b:Nat):Int)))+1))).toNat-(d).toNat):Nat):Int) then (if ((d).toNat+(((b:Nat):Int)).toNat)<g9.2.2.2.length then ((z45.l2 a b (d).toNat (((wr .i64 ((wr .i64 (d+((b:Nat):Int)))+1))).toNat-(d).toNat) c ((wr .u64 ((wr .u64 ((wr .u64 (m.1-1))-1))-1)),h0.2,(g9.2.2.2.set ((d).toNat+(((b:Nat):Int)).toNat) h0.1))).bind λh1=>(if 0<=d/\d<(g.length:Int) then (if (d).toNat<g.length then (rec ((wr .i64 (d-1)),h1.2.2,(g.set (d).toNat h1.1))) else none) else none)) else none) else none)) else none) else none)))) else none) else none)) else (if 0<=(wr .i64 (((b:Nat):Int)-1))/\(wr .i64 (((b:Nat):Int)-1))<((b:Nat):Int) then (if (a+((wr .i64 (((b:Nat):Int)-1))).toNat)<c.length then ((z0.F g0.1 (c.getD (a+((wr .i64 (((b:Nat):Int)-1))).toNat) 0) 0).bind λh2=>(bif (decide (h2.2=0)) then none else ((z45.l0b3 (d).toNat (((wr .i64 ((wr .i64 (d+((b:Nat):Int)))+1))).toNat-(d).toNat) (wr .u64 ((wr .u64 ((wr .u64 (m.1-1))-1))-1)) a b ((b:Nat):Int) c ((0:Int),(0:Int),(0:Int),e)).bind λh3=>(if 0<=((b:Nat):Int)/\((b:Nat):Int)<(((((wr .i64 ((wr .i64 (d+((b:Nat):Int)))+1))).toNat-(d).toNat):Nat):Int) then (if ((d).toNat+(((b:Nat):Int)).toNat)<h3.2.2.2.length then ((z1.F (h3.2.2.2.getD ((d).toNat+(((b:Nat):Int)).toNat) 0) h3.1 h3.2.1).bind λh4=>(if 0<=((b:Nat):Int)/\((b:Nat):Int)<(((((wr .i64 ((wr .i64 (d+((b:Nat):Int)))+1))).toNat-(d).toNat):Nat):Int) then (if ((d).toNat+(((b:Nat):Int)).toNat)<h3.2.2.2.length then ((z45.l2 a b (d).toNat (((wr .i64 ((wr .i64 (d+((b:Nat):Int)))+1))).toNat-(d).toNat) c ((wr .u64 ((wr .u64 ((wr .u64 (m.1-1))-1))-1)),h4.2,(h3.2.2.2.set ((d).toNat+(((b:Nat):Int)).toNat) h4.1))).bind λh5=>(if 0<=d/\d<(g.length:Int) then (if (d).toNat<g.length then (rec ((wr .i64 (d-1)),h5.2.2,(g.set (d).toNat h5.1))) else none) else none)) else none) else none)) else none) else none)))) else none) else none)))) else none) else none) else ((z45.l0b3 (d).toNat (((wr .i64 ((wr .i64 (d+((b:Nat):Int)))+1))).toNat-(d).toNat) (wr .u64 ((wr .u64 (m.1-1))-1)) a b ((b:Nat):Int) c ((0:Int),(0:Int),(0:Int),e)).bind λh6=>(if 0<=((b:Nat):Int)/\((b:Nat):Int)<(((((wr .i64 ((wr .i64 (d+((b:Nat):Int)))+1))).toNat-(d).toNat):Nat):Int) then (if ((d).toNat+(((b:Nat):Int)).toNat)<h6.2.2.2.length then ((z1.F (h6.2.2.2.getD ((d).toNat+(((b:Nat):Int)).toNat) 0) h6.1 h6.2.1).bind λh7=>(if 0<=((b:Nat):Int)/\((b:Nat):Int)<(((((wr .i64 ((wr .i64 (d+((b:Nat):Int)))+1))).toNat-(d).toNat):Nat):Int) then (if ((d).toNat+(((b:Nat):Int)).toNat)<h6.2.2.2.length then ((z45.l2 a b (d).toNat (((wr .i64 ((wr .i64 (d+((b:Nat):Int)))+1))).toNat-(d).toNat) c ((wr .u64 ((wr .u64 (m.1-1))-1)),h7.2,(h6.2.2.2.set ((d).toNat+(((b:Nat):Int)).toNat) h7.1))).bind λh8=>(if 0<=d/\d<(g.length:Int) then (if (d).toNat<g.length then (rec ((wr .i64 (d-1)),h8.2.2,(g.set (d).toNat h8.1))) else none) else none)) else none) else none)) else none) else none)))) else none) else none)))) else none) else none) else ((z45.l0b3 (d).toNat (((wr .i64 ((wr .i64 (d+((b:Nat):Int)))+1))).toNat-(d).toNat) (wr .u64 (m.1-1)) a b ((b:Nat):Int) c ((0:Int),(0:Int),(0:Int),e)).bind λh9=>(if 0<=((b:Nat):Int)/\((b:Nat):Int)<(((((wr .i64 ((wr .i64 (d+((b:Nat):Int)))+1))).toNat-(d).toNat):Nat):Int) then (if ((d).toNat+(((b:Nat):Int)).toNat)<h9.2.2.2.length then ((z1.F (h9.2.2.2.getD ((d).toNat+(((b:Nat):Int)).toNat) 0) h9.1 h9.2.1).bind λj0=>(if 0<=((b:Nat):Int)/\((b:Nat):Int)<(((((wr .i64 ((wr .i64 (d+((b:Nat):Int)))+1))).toNat-(d).toNat):Nat):Int) then (if ((d).toNat+(((b:Nat):Int)).toNat)<h9.2.2.2.length then ((z45.l2 a b (d).toNat (((wr .i64 ((wr .i64 (d+((b:Nat):Int)))+1))).toNat-(d).toNat) c ((wr .u64 (m.1-1)),j0.2,(h9.2.2.2.set ((d).toNat+(((b:Nat):Int)).toNat) j0.1))).bind λj1=>(if 0<=d/\d<(g.length:Int) then (if (d).toNat<g.length then (rec ((wr .i64 (d-1)),j1.2.2,(g.set (d).toNat j1.1))) else none) else none)) else none) else none)) else none) else none)))) else none) else none)))) else none) else none)) else none) else none)) else none) else none) else none) else none) else none) else none) else none) else none) else none) else (done (d,e,g)))
def z45.l0aa (a b:Nat) (c:J0) (x:(Int×J0×J0)):Option ((Int×J0×J0)):=lfp (λrec x=>z45.l0aaP a b c rec some x) x
def z45.F (a0 a1:J0):Option (J0×J0):=
 (if 0<=(wr .i64 ((((a1).length:Nat):Int)-1))/\(wr .i64 ((((a1).length:Nat):Int)-1))<(a1.length:Int) then ((z39.F (a1.getD ((wr .i64 ((((a1).length:Nat):Int)-1))).toNat 0)).bind λr1=>(if 0<=(wr .i64 ((((a0).length:Nat):Int)+1))/\(wr .i64 ((((a0).length:Nat):Int)+1))*8<=140737488355328 then ((z45.l0 (wr .u64 r1) a0 (((a0).length:Nat):Int) ((0:Int),(List.replicate ((wr .i64 ((((a0).length:Nat):Int)+1))).toNat (0:Int)))).bind λo2=>(if 0<=(wr .i64 ((((a1).length:Nat):Int)+1))/\(wr .i64 ((((a1).length:Nat):Int)+1))*8<=140737488355328 then ((z45.l0a (wr .u64 r1) a1 (((a1).length:Nat):Int) ((0:Int),(List.replicate ((wr .i64 ((((a1).length:Nat):Int)+1))).toNat (0:Int)))).bind λo3=>(if 0<=(((a1).length:Nat):Int)/\(((a1).length:Nat):Int)<=((o3.2).length:Int) then (if 0<=(wr .i64 ((((o2.2).length:Nat):Int)-((((((a1).length:Nat):Int)).toNat:Nat):Int)))/\(wr .i64 ((((o2.2).length:Nat):Int)-((((((a1).length:Nat):Int)).toNat:Nat):Int)))*8<=140737488355328 then ((z45.l0aa 0 ((((a1).length:Nat):Int)).toNat o3.2 ((wr .i64 (((((List.replicate ((wr .i64 ((((o2.2).length:Nat):Int)-((((((a1).length:Nat):Int)).toNat:Nat):Int)))).toNat (0:Int))).length:Nat):Int)-1)),o2.2,(List.replicate ((wr .i64 ((((o2.2).length:Nat):Int)-((((((a1).length:Nat):Int)).toNat:Nat):Int)))).toNat (0:Int)))).bind λo4=>((z27.F o4.2.1).bind λr5=>((z43.F r5 (wr .i64 (wr .u64 r1))).bind λr6=>((z37.F r6.1).bind λr7=>(some (o4.2.2,r7)))))) else none) else none)) else none)) else none)) else none)
def z45.enc (r:J0×J0):V:=(.tup [(.ints false .u64 r.1),(.ints false .u64 r.2)])
def z45.pack:List V->Option Pack
 |[(.ints _ .u64 a0),(.ints _ .u64 a1)]=>some ⟨J0×J0,z45.F a0 a1,z45.enc⟩
 |_=>none
def z46.F (a0 a1:J0):Option (J0×J0×Int):=
 ((z23.F a1).bind λr1=>(bif r1 then (some ([],[],(8:Int))) else ((z35.F a0 a1).bind λr2=>(bif (decide (r2<0)) then (some ([],a0,(0:Int))) else ((z37.F a0).bind λr3=>((z37.F a1).bind λr4=>(bif (decide ((((r4).length:Nat):Int)=1)) then (if (0:Int)<=(0:Int)/\(0:Int)<(r4.length:Int) then ((z41.F r3 (r4.getD 0 0)).bind λr5=>((z27.F r5.1).bind λr6=>((z27.F [r5.2]).bind λr7=>(some (r6,r7,(0:Int)))))) else none) else ((z45.F r3 r4).bind λr8=>((z27.F r8.1).bind λr9=>((z27.F r8.2).bind λr10=>(some (r9,r10,(0:Int)))))))))))))
def z46.enc (r:J0×J0×Int):V:=(.tup [(.agg [(.ints false .u64 r.1)]),(.agg [(.ints false .u64 r.2.1)]),(.int .i64 r.2.2)])
def z46.pack:List V->Option Pack
 |[(.agg [(.ints _ .u64 a0)]),(.agg [(.ints _ .u64 a1)])]=>some ⟨J0×J0×Int,z46.F a0 a1,z46.enc⟩
 |_=>none
def z47.l0P {R:Type} (rec done:(J0×J0)->Option R):(J0×J0)->Option R:=λx=>match x with
 |(a,b)=>((z23.F b).bind λc=>(bif (!c) then ((z46.F a b).bind λd=>(rec (b,d.2.1))) else (done (a,b))))
def z47.l0 (x:(J0×J0)):Option ((J0×J0)):=lfp (λrec x=>z47.l0P rec some x) x
def z47.F (a0 a1:J0):Option (J0):=
 ((z47.l0 (a0,a1)).bind λo1=>(some o1.1))
def z47.pack:List V->Option Pack
 |[(.agg [(.ints _ .u64 a0)]),(.agg [(.ints _ .u64 a1)])]=>some ⟨J0,z47.F a0 a1,z26.enc⟩
 |_=>none
def z48.F (a0:J0) (a1:Bool) (a2:J0):Option (J0×Bool×J0):=
 ((z31.F a0 a1).bind λr1=>((z47.F r1 a2).bind λr2=>((z31.F a0 a1).bind λr3=>((z46.F r3 r2).bind λr4=>((z46.F a2 r2).bind λr5=>((z27.F [(1:Int)]).bind λr6=>((z36.F r5.1 r6).bind λr7=>((z24.F a0 a1).bind λr8=>((z25.F r4.1 (decide (r8<0))).bind λr9=>(some (r9.1,r9.2,r7.1)))))))))))
def z48.pack:List V->Option Pack
 |[(.agg [(.ints _ .u64 a0),(.bool a1)]),(.agg [(.ints _ .u64 a2)])]=>some ⟨J0×Bool×J0,z48.F a0 a1 a2,z29.enc⟩
 |_=>none
def z49.j4 (a2:J0) (a3:Bool) (j3:J0) (j4:Bool):Option (J0×Bool×J0×Int):=
 ((z31.F a2 a3).bind λr5=>((z48.F j3 j4 r5).bind λr6=>(some (r6.1,r6.2.1,r6.2.2,(0:Int)))))
def z49.F (a0:J0) (a1:Bool) (a2:J0) (a3:Bool):Option (J0×Bool×J0×Int):=
 ((z24.F a2 a3).bind λr1=>(bif (decide (r1=0)) then (some ([],false,[],(8:Int))) else (bif (decide (r1=(-1:Int))) then ((z30.F a0 a1).bind λr2=>(z49.j4 a2 a3 r2.1 r2.2)) else (z49.j4 a2 a3 a0 a1))))
def z49.enc (r:J0×Bool×J0×Int):V:=(.tup [(.agg [(.ints false .u64 r.1),(.bool r.2.1),(.ints false .u64 r.2.2.1)]),(.int .i64 r.2.2.2)])
def z49.pack:List V->Option Pack
 |[(.agg [(.ints _ .u64 a0),(.bool a1)]),(.agg [(.ints _ .u64 a2),(.bool a3)])]=>some ⟨J0×Bool×J0×Int,z49.F a0 a1 a2 a3,z49.enc⟩
 |_=>none
def z50.l0aP (a:Int) (b c:Nat) (d:J0) (e:Int) {R:Type} (rec done:(Int×Int×J0)->Option R):(Int×Int×J0)->Option R:=λx=>match x with
 |(g,h,j)=>(bif (decide (h<e)) then (if 0<=h/\h<(d.length:Int) then ((z44.F a (d.getD (h).toNat 0)).bind λk=>((z0.F k.2 g 0).bind λm=>(if 0<=h/\h<((c:Nat):Int) then (if (b+(h).toNat)<j.length then ((z0.F (j.getD (b+(h).toNat) 0) m.1 0).bind λn=>(if 0<=h/\h<((c:Nat):Int) then (if (b+(h).toNat)<j.length then (rec ((wr .u64 ((wr .u64 (k.1+m.2))+n.2)),(wr .i64 (h+1)),(j.set (b+(h).toNat) n.1))) else none) else none)) else none) else none))) else none) else (done (g,h,j)))
def z50.l0a (a:Int) (b c:Nat) (d:J0) (e:Int) (x:(Int×Int×J0)):Option ((Int×Int×J0)):=lfp (λrec x=>z50.l0aP a b c d e rec some x) x
def z50.l0P (a:J0) (b:Int) (c:J0) {R:Type} (rec done:(Int×J0)->Option R):(Int×J0)->Option R:=λx=>match x with
 |(d,e)=>(bif (decide (d<b)) then (if 0<=d/\d<(a.length:Int) then (if 0<=d/\d<=((e).length:Int) then ((z50.l0a (a.getD (d).toNat 0) (d).toNat ((e).length-(d).toNat) c (((c).length:Nat):Int) ((0:Int),(0:Int),e)).bind λg=>(if 0<=(((c).length:Nat):Int)/\(((c).length:Nat):Int)<((((e).length-(d).toNat):Nat):Int) then (if ((d).toNat+((((c).length:Nat):Int)).toNat)<g.2.2.length then (if 0<=(((c).length:Nat):Int)/\(((c).length:Nat):Int)<((((e).length-(d).toNat):Nat):Int) then (if ((d).toNat+((((c).length:Nat):Int)).toNat)<g.2.2.length then (rec ((wr .i64 (d+1)),(g.2.2.set ((d).toNat+((((c).length:Nat):Int)).toNat) (wr .u64 ((g.2.2.getD ((d).toNat+((((c).length:Nat):Int)).toNat) 0)+g.1))))) else none) else none) else none) else none)) else none) else none) else (done (d,e)))
def z50.l0 (a:J0) (b:Int) (c:J0) (x:(Int×J0)):Option ((Int×J0)):=lfp (λrec x=>z50.l0P a b c rec some x) x
def z50.F (a0 a1:J0):Option (J0):=
 (if 0<=(wr .i64 ((wr .i64 ((((a0).length:Nat):Int)+(((a1).length:Nat):Int)))+1))/\(wr .i64 ((wr .i64 ((((a0).length:Nat):Int)+(((a1).length:Nat):Int)))+1))*8<=140737488355328 then ((z50.l0 a1 (((a1).length:Nat):Int) a0 ((0:Int),(List.replicate ((wr .i64 ((wr .i64 ((((a0).length:Nat):Int)+(((a1).length:Nat):Int)))+1))).toNat (0:Int)))).bind λo1=>((z26.F o1.2).bind λr2=>(some r2))) else none)
def z50.pack:List V->Option Pack
 |[(.agg [(.ints _ .u64 a0)]),(.agg [(.ints _ .u64 a1)])]=>some ⟨J0,z50.F a0 a1,z26.enc⟩
 |_=>none
def z51.F (a0:J0) (a1:Bool) (a2:J0) (a3:Bool):Option (J0×Bool):=
 ((z50.F a0 a2).bind λr1=>((z25.F r1 (!decide (a1=a3))).bind λr2=>(some (r2.1,r2.2))))
def z51.pack:List V->Option Pack
 |[(.agg [(.ints _ .u64 a0),(.bool a1)]),(.agg [(.ints _ .u64 a2),(.bool a3)])]=>some ⟨J0×Bool,z51.F a0 a1 a2 a3,z25.enc⟩
 |_=>none
def z52.l0P (a:Int) (b c:J0) {R:Type} (rec done:(Int×Int×J0)->Option R):(Int×Int×J0)->Option R:=λx=>match x with
 |(d,e,g)=>(bif (decide (e<a)) then ((z32.F b e).bind λh=>((z32.F c e).bind λj=>((z0.F h j d).bind λk=>(if 0<=e/\e<(g.length:Int) then (if (e).toNat<g.length then (rec (k.2,(wr .i64 (e+1)),(g.set (e).toNat k.1))) else none) else none)))) else (done (d,e,g)))
def z52.l0 (a:Int) (b c:J0) (x:(Int×Int×J0)):Option ((Int×Int×J0)):=lfp (λrec x=>z52.l0P a b c rec some x) x
def z52.F (a0 a1:J0):Option (J0):=
 (if 0<=(wr .i64 ((if (((a1).length:Nat):Int)>(((a0).length:Nat):Int) then (((a1).length:Nat):Int) else (((a0).length:Nat):Int))+1))/\(wr .i64 ((if (((a1).length:Nat):Int)>(((a0).length:Nat):Int) then (((a1).length:Nat):Int) else (((a0).length:Nat):Int))+1))*8<=140737488355328 then ((z52.l0 ((((List.replicate ((wr .i64 ((if (((a1).length:Nat):Int)>(((a0).length:Nat):Int) then (((a1).length:Nat):Int) else (((a0).length:Nat):Int))+1))).toNat (0:Int))).length:Nat):Int) a0 a1 ((0:Int),(0:Int),(List.replicate ((wr .i64 ((if (((a1).length:Nat):Int)>(((a0).length:Nat):Int) then (((a1).length:Nat):Int) else (((a0).length:Nat):Int))+1))).toNat (0:Int)))).bind λo1=>((z26.F o1.2.2).bind λr2=>(some r2))) else none)
def z52.pack:List V->Option Pack
 |[(.agg [(.ints _ .u64 a0)]),(.agg [(.ints _ .u64 a1)])]=>some ⟨J0,z52.F a0 a1,z26.enc⟩
 |_=>none
def z53.F (a0:J0) (a1:Bool) (a2:J0):Option (J0):=
 ((z27.F [(1:Int)]).bind λr1=>((z52.F a2 r1).bind λr2=>(some r2)))
def z53.pack:List V->Option Pack
 |[(.agg [(.ints _ .u64 a0),(.bool a1),(.ints _ .u64 a2)])]=>some ⟨J0,z53.F a0 a1 a2,z26.enc⟩
 |_=>none
def z54.F (a0:J0) (a1:Bool) (a2:J0):Option (J0×Bool):=
 ((z53.F a0 a1 a2).bind λr1=>((z25.F r1 false).bind λr2=>(some (r2.1,r2.2))))
def z54.pack:List V->Option Pack
 |[(.agg [(.ints _ .u64 a0),(.bool a1),(.ints _ .u64 a2)])]=>some ⟨J0×Bool,z54.F a0 a1 a2,z25.enc⟩
 |_=>none
def z55.F (a0:J0) (a1:Bool) (a2 a3:J0) (a4:Bool) (a5:J0):Option (J0×Bool×J0×Int):=
 ((z54.F a3 a4 a5).bind λr1=>((z51.F a0 a1 r1.1 r1.2).bind λr2=>((z54.F a0 a1 a2).bind λr3=>((z51.F r3.1 r3.2 a3 a4).bind λr4=>((z49.F r2.1 r2.2 r4.1 r4.2).bind λr5=>(some (r5.1,r5.2.1,r5.2.2.1,r5.2.2.2)))))))
def z55.pack:List V->Option Pack
 |[(.agg [(.ints _ .u64 a0),(.bool a1),(.ints _ .u64 a2)]),(.agg [(.ints _ .u64 a3),(.bool a4),(.ints _ .u64 a5)])]=>some ⟨J0×Bool×J0×Int,z55.F a0 a1 a2 a3 a4 a5,z49.enc⟩
 |_=>none
def z56.F (a0 a1:J1):Option (Bool):=
 (bif (decide ((a0.length:Int)>=(a1.length:Int))) then (if 0<=(a1.length:Int)/\(a1.length:Int)<=((a0).length:Int) then (some (decide ((a0.take ((a1.length:Int)).toNat)=a1))) else none) else (some false))
def z56.pack:List V->Option Pack
 |[(.str a0),(.str a1)]=>some ⟨Bool,z56.F a0 a1,z7.enc⟩
 |_=>none
def z57.F (a0 a1:J1):Option (J1×Bool):=
 ((z56.F a0 a1).bind λr1=>(bif (!r1) then (some (a0,false)) else (if 0<=(a1.length:Int)/\(a1.length:Int)<=((a0).length:Int) then (some ((a0.drop ((a1.length:Int)).toNat),true)) else none)))
def z57.enc (r:J1×Bool):V:=(.tup [(.str r.1),(.bool r.2)])
def z57.pack:List V->Option Pack
 |[(.str a0),(.str a1)]=>some ⟨J1×Bool,z57.F a0 a1,z57.enc⟩
 |_=>none
def z58.F (a0 a1:J1):Option (J1×Bool):=
 ((z57.F a0 a1).bind λr1=>(some (r1.1,r1.2)))
def z58.pack:List V->Option Pack
 |[(.str a0),(.str a1)]=>some ⟨J1×Bool,z58.F a0 a1,z57.enc⟩
 |_=>none
def z59.l2P (a:J1) {R:Type} (rec done:(Int×Nat)->Option R):(Int×Nat)->Option R:=λx=>match x with
 |(b,c)=>(if c<a.length then (rec ((wr .u64 ((wr .u64 ((10:Int)*b))+(wr .u64 (wr .i32 (((Utf8.decode ⟨a.toArray⟩ c).1:Int)-48))))),(c+(Utf8.decode ⟨a.toArray⟩ c).2))) else (done (b,c)))
def z59.l2 (a:J1) (x:(Int×Nat)):Option ((Int×Nat)):=lfp (λrec x=>z59.l2P a rec some x) x
def z59.l2aP (a:J1) {R:Type} (rec done:(Int×Nat)->Option R):(Int×Nat)->Option R:=λx=>match x with
 |(b,c)=>(if c<a.length then (rec ((wr .u64 ((wr .u64 ((10:Int)*b))+(wr .u64 (wr .i32 (((Utf8.decode ⟨a.toArray⟩ c).1:Int)-48))))),(c+(Utf8.decode ⟨a.toArray⟩ c).2))) else (done (b,c)))
def z59.l2a (a:J1) (x:(Int×Nat)):Option ((Int×Nat)):=lfp (λrec x=>z59.l2aP a rec some x) x
def z59.j1011a {R:Type} (rec done:(J1×Bool×J0)->Option R) (a:Int) (b:J1) (c:J0):Option R:=
 (if 0<=a/\a<=((b).length:Int) then ((z59.l2a (b.take (a).toNat) ((0:Int),0)).bind λd=>((z27.F [(1000000000000000000:Int)]).bind λe=>((z50.F c e).bind λg=>((z27.F [d.1]).bind λh=>((z52.F g h).bind λj=>(if 0<=a/\a<=((b).length:Int) then (rec ((b.drop (a).toNat),false,j)) else none)))))) else none)
def z59.l0P {R:Type} (rec done:(J1×Bool×J0)->Option R):(J1×Bool×J0)->Option R:=λx=>match x with
 |(a,b,c)=>(bif (!decide (a=([]:J1))) then (bif (!b) then (if (0:Int)<=(18:Int)/\(18:Int)<=((a).length:Int) then ((z59.l2 (a.take 18) ((0:Int),0)).bind λd=>((z27.F [(1000000000000000000:Int)]).bind λe=>((z50.F c e).bind λg=>((z27.F [d.1]).bind λh=>((z52.F g h).bind λj=>(if (0:Int)<=(18:Int)/\(18:Int)<=((a).length:Int) then (rec ((a.drop 18),false,j)) else none)))))) else none) else (bif (decide ((Int.tmod (a.length:Int) 18)=0)) then (z59.j1011a rec done 18 a c) else (z59.j1011a rec done (Int.tmod (a.length:Int) 18) a c))) else (done (a,b,c)))
def z59.l0 (x:(J1×Bool×J0)):Option ((J1×Bool×J0)):=lfp (λrec x=>z59.l0P rec some x) x
def z59.F (a0:J1):Option (J0×Int):=
 (bif (decide ((a0.length:Int)>4096)) then (some ([],(7:Int))) else (bif (decide (a0=([]:J1))) then (some ([],(5:Int))) else ((z3.F a0 ([48,49,50,51,52,53,54,55,56,57]:J1)).bind λr1=>(bif (!decide (r1=([]:J1))) then (some ([],(5:Int))) else (bif (decide ((a0.length:Int)>1)) then (if (0:Int)<=(0:Int)/\(0:Int)<(a0.length:Int) then (bif (decide (((a0.getD 0 0).toNat:Int)=48)) then (some ([],(5:Int))) else ((z59.l0 (a0,true,[])).bind λo5=>(some (o5.2.2,(0:Int))))) else none) else ((z59.l0 (a0,true,[])).bind λo6=>(some (o6.2.2,(0:Int)))))))))
def z59.pack:List V->Option Pack
 |[(.str a0)]=>some ⟨J0×Int,z59.F a0,z43.enc⟩
 |_=>none
def z60.F (a0:J1):Option (Bool):=
 (bif (!decide (a0=([]:J1))) then ((z3.F a0 ([48,49,50,51,52,53,54,55,56,57]:J1)).bind λr1=>(some (decide (r1=([]:J1))))) else (some false))
def z60.pack:List V->Option Pack
 |[(.str a0)]=>some ⟨Bool,z60.F a0,z7.enc⟩
 |_=>none
def z61.j8 (j8:J1) (r1:J1×Bool):Option (J0×Bool×Int×Int):=
 ((z59.F j8).bind λr9=>((z25.F r9.1 r1.2).bind λr10=>(some (r10.1,r10.2,((r1.1.drop 1).length:Int),(0:Int)))))
def z61.j6 (j6:Bool) (r1:J1×Bool):Option (J0×Bool×Int×Int):=
 (bif j6 then (some ([],false,(0:Int),(5:Int))) else (bif (decide (((r1.1.drop 1).length:Int)>64)) then (some ([],false,(0:Int),(10:Int))) else (if (r1.1.take 0).length+(r1.1.drop 1).length<=9223372036854775807 then ((z4.F ((r1.1.take 0)++(r1.1.drop 1)) ([48]:J1)).bind λr7=>(bif (decide (r7=([]:J1))) then (z61.j8 ([48]:J1) r1) else (z61.j8 r7 r1))) else none)))
def z61.j4 (j4:Bool) (r1:J1×Bool):Option (J0×Bool×Int×Int):=
 (bif j4 then (some ([],false,(0:Int),(5:Int))) else (bif r1.2 then (if (r1.1.take 0).length+(r1.1.drop 1).length<=9223372036854775807 then ((z3.F ((r1.1.take 0)++(r1.1.drop 1)) ([48]:J1)).bind λr5=>(z61.j6 (decide (r5=([]:J1))) r1)) else none) else (z61.j6 false r1)))
def z61.j18 (j18:J1) (r1:J1×Bool) (r11:Int):Option (J0×Bool×Int×Int):=
 ((z59.F j18).bind λr19=>((z25.F r19.1 r1.2).bind λr20=>(some (r20.1,r20.2,((r1.1.drop ((wr .i64 (r11+1))).toNat).length:Int),(0:Int)))))
def z61.j16 (j16:Bool) (r1:J1×Bool) (r11:Int):Option (J0×Bool×Int×Int):=
 (bif j16 then (some ([],false,(0:Int),(5:Int))) else (bif (decide (((r1.1.drop ((wr .i64 (r11+1))).toNat).length:Int)>64)) then (some ([],false,(0:Int),(10:Int))) else (if (r1.1.take (r11).toNat).length+(r1.1.drop ((wr .i64 (r11+1))).toNat).length<=9223372036854775807 then ((z4.F ((r1.1.take (r11).toNat)++(r1.1.drop ((wr .i64 (r11+1))).toNat)) ([48]:J1)).bind λr17=>(bif (decide (r17=([]:J1))) then (z61.j18 ([48]:J1) r1 r11) else (z61.j18 r17 r1 r11))) else none)))
def z61.j14 (j14:Bool) (r1:J1×Bool) (r11:Int):Option (J0×Bool×Int×Int):=
 (bif j14 then (some ([],false,(0:Int),(5:Int))) else (bif r1.2 then (if (r1.1.take (r11).toNat).length+(r1.1.drop ((wr .i64 (r11+1))).toNat).length<=9223372036854775807 then ((z3.F ((r1.1.take (r11).toNat)++(r1.1.drop ((wr .i64 (r11+1))).toNat)) ([48]:J1)).bind λr15=>(z61.j16 (decide (r15=([]:J1))) r1 r11)) else none) else (z61.j16 false r1 r11)))
def z61.j26 (j26:J1) (r1:J1×Bool):Option (J0×Bool×Int×Int):=
 ((z59.F j26).bind λr27=>((z25.F r27.1 r1.2).bind λr28=>(some (r28.1,r28.2,(0:Int),(0:Int)))))
def z61.j24 (r1:J1×Bool):Option (J0×Bool×Int×Int):=
 (if r1.1.length+([]:J1).length<=9223372036854775807 then ((z4.F (r1.1++([]:J1)) ([48]:J1)).bind λr25=>(bif (decide (r25=([]:J1))) then (z61.j26 ([48]:J1) r1) else (z61.j26 r25 r1))) else none)
def z61.j22 (j22:Bool) (r1:J1×Bool):Option (J0×Bool×Int×Int):=
 (bif j22 then (some ([],false,(0:Int),(5:Int))) else (bif r1.2 then (if r1.1.length+([]:J1).length<=9223372036854775807 then ((z3.F (r1.1++([]:J1)) ([48]:J1)).bind λr23=>(bif (decide (r23=([]:J1))) then (some ([],false,(0:Int),(5:Int))) else (z61.j24 r1))) else none) else (z61.j24 r1)))
def z61.F (a0:J1):Option (J0×Bool×Int×Int):=
 (bif (decide ((a0.length:Int)>4096)) then (some ([],false,(0:Int),(7:Int))) else ((z58.F a0 ([45]:J1)).bind λr1=>(bif (decide (([46]:J1)=r1.1)) then (if (0:Int)<=(0:Int)/\(0:Int)<=((r1.1).length:Int) then (if (0:Int)<=(1:Int)/\(1:Int)<=((r1.1).length:Int) then ((z60.F (r1.1.take 0)).bind λr2=>(bif (!r2) then (z61.j4 true r1) else ((z60.F (r1.1.drop 1)).bind λr3=>(bif (!r3) then (z61.j4 true r1) else (bif (decide (((r1.1.take 0).length:Int)>1)) then (if (0:Int)<=(0:Int)/\(0:Int)<((r1.1.take 0).length:Int) then (z61.j4 (decide ((((r1.1.take 0).getD 0 0).toNat:Int)=48)) r1) else none) else (z61.j4 false r1)))))) else none) else none) else (if (0:Int)<=(0:Int)/\(0:Int)<(([46]:J1).length:Int) then ((z2.F r1.1 ((([46]:J1).getD 0 0).toNat:Int)).bind λr11=>(bif (decide (r11>=0)) then (if 0<=r11/\r11<=((r1.1).length:Int) then (if 0<=(wr .i64 (r11+1))/\(wr .i64 (r11+1))<=((r1.1).length:Int) then ((z60.F (r1.1.take (r11).toNat)).bind λr12=>(bif (!r12) then (z61.j14 true r1 r11) else ((z60.F (r1.1.drop ((wr .i64 (r11+1))).toNat)).bind λr13=>(bif (!r13) then (z61.j14 true r1 r11) else (bif (decide (((r1.1.take (r11).toNat).length:Int)>1)) then (if (0:Int)<=(0:Int)/\(0:Int)<((r1.1.take (r11).toNat).length:Int) then (z61.j14 (decide ((((r1.1.take (r11).toNat).getD 0 0).toNat:Int)=48)) r1 r11) else none) else (z61.j14 false r1 r11)))))) else none) else none) else ((z60.F r1.1).bind λr21=>(bif (!r21) then (z61.j22 true r1) else (bif (decide ((r1.1.length:Int)>1)) then (if (0:Int)<=(0:Int)/\(0:Int)<(r1.1.length:Int) then (z61.j22 (decide (((r1.1.getD 0 0).toNat:Int)=48)) r1) else none) else (z61.j22 false r1)))))) else none))))
def z61.enc (r:J0×Bool×Int×Int):V:=(.tup [(.agg [(.ints false .u64 r.1),(.bool r.2.1),(.int .i64 r.2.2.1)]),(.int .i64 r.2.2.2)])
def z61.pack:List V->Option Pack
 |[(.str a0)]=>some ⟨J0×Bool×Int×Int,z61.F a0,z61.enc⟩
 |_=>none
def z62.F (a0:Int):Option (Bool):=
 (bif (decide (a0<0)) then (some true) else (some (decide (a0>64))))
def z62.pack:List V->Option Pack
 |[(.int .i64 a0)]=>some ⟨Bool,z62.F a0,z7.enc⟩
 |_=>none
def z63.F (a0:J0) (a1:Bool) (a2:Int):Option (J0×Bool×Int×Int):=
 ((z62.F a2).bind λr1=>(bif r1 then (some ([],false,(0:Int),(10:Int))) else (some (a0,a1,a2,(0:Int)))))
def z63.pack:List V->Option Pack
 |[(.agg [(.ints _ .u64 a0),(.bool a1)]),(.int .i64 a2)]=>some ⟨J0×Bool×Int×Int,z63.F a0 a1 a2,z61.enc⟩
 |_=>none
def z64.F (a0:J0) (a1:Bool) (a2:Int):Option (J0×Bool):=
 (some (a0,a1))
def z64.pack:List V->Option Pack
 |[(.agg [(.ints _ .u64 a0),(.bool a1),(.int .i64 a2)])]=>some ⟨J0×Bool,z64.F a0 a1 a2,z25.enc⟩
 |_=>none
def z65.F (a0:J0) (a1:Bool) (a2:J0) (a3:Bool):Option (J0×Bool):=
 (bif (decide (a1=a3)) then ((z52.F a0 a2).bind λr1=>((z25.F r1 a1).bind λr2=>(some (r2.1,r2.2)))) else ((z36.F a0 a2).bind λr3=>(bif r3.2 then ((z25.F r3.1 a1).bind λr4=>(some (r4.1,r4.2))) else ((z36.F a2 a0).bind λr5=>((z25.F r5.1 a3).bind λr6=>(some (r6.1,r6.2)))))))
def z65.pack:List V->Option Pack
 |[(.agg [(.ints _ .u64 a0),(.bool a1)]),(.agg [(.ints _ .u64 a2),(.bool a3)])]=>some ⟨J0×Bool,z65.F a0 a1 a2 a3,z25.enc⟩
 |_=>none
def z66.F (a0:J0) (a1:Bool) (a2:J0) (a3:Bool):Option (J0×Bool):=
 ((z30.F a2 a3).bind λr1=>((z65.F a0 a1 r1.1 r1.2).bind λr2=>(some (r2.1,r2.2))))
def z66.pack:List V->Option Pack
 |[(.agg [(.ints _ .u64 a0),(.bool a1)]),(.agg [(.ints _ .u64 a2),(.bool a3)])]=>some ⟨J0×Bool,z66.F a0 a1 a2 a3,z25.enc⟩
 |_=>none
def z67.F (a0:J0) (a1:Bool) (a2:J0) (a3:Bool):Option (Int):=
 ((z66.F a0 a1 a2 a3).bind λr1=>((z24.F r1.1 r1.2).bind λr2=>(some r2)))
def z67.pack:List V->Option Pack
 |[(.agg [(.ints _ .u64 a0),(.bool a1)]),(.agg [(.ints _ .u64 a2),(.bool a3)])]=>some ⟨Int,z67.F a0 a1 a2 a3,z8.enc⟩
 |_=>none
def z68.l0P {R:Type} (rec done:(Int×J0×J0)->Option R):(Int×J0×J0)->Option R:=λx=>match x with
 |(a,b,c)=>(bif (decide (a>0)) then (bif (decide ((wr .i64 ((BitVec.ofInt (IntKind.bits .i64) a &&& BitVec.ofInt (IntKind.bits .i64) 1).toNat:Int))=1)) then ((z50.F c b).bind λd=>(bif (decide (a>1)) then ((z50.F b b).bind λe=>(rec ((Int.fdiv a (2^(min 1 (64:Nat)))),e,d))) else (rec ((Int.fdiv a (2^(min 1 (64:Nat)))),b,d)))) else (bif (decide (a>1)) then ((z50.F b b).bind λg=>(rec ((Int.fdiv a (2^(min 1 (64:Nat)))),g,c))) else (rec ((Int.fdiv a (2^(min 1 (64:Nat)))),b,c)))) else (done (a,b,c)))
def z68.l0 (x:(Int×J0×J0)):Option ((Int×J0×J0)):=lfp (λrec x=>z68.l0P rec some x) x
def z68.F (a0:J0) (a1:Int):Option (J0):=
 ((z27.F [(1:Int)]).bind λr1=>((z68.l0 (a1,a0,r1)).bind λo2=>(some o2.2.2)))
def z68.pack:List V->Option Pack
 |[(.agg [(.ints _ .u64 a0)]),(.int .i64 a1)]=>some ⟨J0,z68.F a0 a1,z26.enc⟩
 |_=>none
def z69.F (a0:Int):Option (J0×Int):=
 (bif (decide (a0<0)) then (some ([],(2:Int))) else (bif (decide (a0>4096)) then (some ([],(6:Int))) else ((z27.F [(10:Int)]).bind λr1=>((z68.F r1 a0).bind λr2=>(some (r2,(0:Int)))))))
def z69.pack:List V->Option Pack
 |[(.int .i64 a0)]=>some ⟨J0×Int,z69.F a0,z43.enc⟩
 |_=>none
def z70.F (a0:Int):Option (J0×Bool):=
 ((z69.F a0).bind λr1=>((z25.F r1.1 false).bind λr2=>(some (r2.1,r2.2))))
def z70.pack:List V->Option Pack
 |[(.int .i64 a0)]=>some ⟨J0×Bool,z70.F a0,z25.enc⟩
 |_=>none
def z71.F (a0:J0) (a1:Bool) (a2 a3:Int):Option (J0×Bool):=
 ((z70.F (wr .i64 (a3-a2))).bind λr1=>((z51.F a0 a1 r1.1 r1.2).bind λr2=>(some (r2.1,r2.2))))
def z71.pack:List V->Option Pack
 |[(.agg [(.ints _ .u64 a0),(.bool a1),(.int .i64 a2)]),(.int .i64 a3)]=>some ⟨J0×Bool,z71.F a0 a1 a2 a3,z25.enc⟩
 |_=>none
def z72.F (a0:J0) (a1:Bool) (a2:Int) (a3:J0) (a4:Bool) (a5:Int):Option (Int):=
 ((z71.F a0 a1 a2 (if a5>a2 then a5 else a2)).bind λr1=>((z71.F a3 a4 a5 (if a5>a2 then a5 else a2)).bind λr2=>((z67.F r1.1 r1.2 r2.1 r2.2).bind λr3=>(some r3))))
def z72.pack:List V->Option Pack
 |[(.agg [(.ints _ .u64 a0),(.bool a1),(.int .i64 a2)]),(.agg [(.ints _ .u64 a3),(.bool a4),(.int .i64 a5)])]=>some ⟨Int,z72.F a0 a1 a2 a3 a4 a5,z8.enc⟩
 |_=>none
def z73.F (a0:J0) (a1:Bool) (a2:Int):Option (Int):=
 (some a2)
def z73.pack:List V->Option Pack
 |[(.agg [(.ints _ .u64 a0),(.bool a1),(.int .i64 a2)])]=>some ⟨Int,z73.F a0 a1 a2,z8.enc⟩
 |_=>none
def z74.F (a0:J0) (a1:Bool) (a2:Int):Option (J0×Bool×J0):=
 ((z70.F a2).bind λr1=>((z49.F a0 a1 r1.1 r1.2).bind λr2=>(some (r2.1,r2.2.1,r2.2.2.1))))
def z74.pack:List V->Option Pack
 |[(.agg [(.ints _ .u64 a0),(.bool a1),(.int .i64 a2)])]=>some ⟨J0×Bool×J0,z74.F a0 a1 a2,z29.enc⟩
 |_=>none
def z75.j8 (r1:J0×Bool×Int×Int):Option (J0×Bool×J0×Int):=
 ((z74.F r1.1 r1.2.1 r1.2.2.1).bind λr9=>((z28.F 100).bind λr10=>((z29.F r10.1 r10.2).bind λr11=>((z55.F r9.1 r9.2.1 r9.2.2 r11.1 r11.2.1 r11.2.2).bind λr12=>(some (r12.1,r12.2.1,r12.2.2.1,r12.2.2.2))))))
def z75.F (a0:J1):Option (J0×Bool×J0×Int):=
 ((z61.F a0).bind λr1=>(bif (!decide (r1.2.2.2=0)) then (some ([],false,[],r1.2.2.2)) else ((z28.F 1000).bind λr2=>((z63.F r2.1 r2.2 0).bind λr3=>((z64.F r1.1 r1.2.1 r1.2.2.1).bind λr4=>((z24.F r4.1 r4.2).bind λr5=>(bif (decide (r5<0)) then (some ([],false,[],(18:Int))) else ((z72.F r1.1 r1.2.1 r1.2.2.1 r3.1 r3.2.1 r3.2.2.1).bind λr6=>(bif (decide (r6>0)) then (some ([],false,[],(18:Int))) else ((z73.F r1.1 r1.2.1 r1.2.2.1).bind λr7=>(bif (decide (r7>12)) then (some ([],false,[],(18:Int))) else (z75.j8 r1))))))))))))
def z75.pack:List V->Option Pack
 |[(.str a0)]=>some ⟨J0×Bool×J0×Int,z75.F a0,z49.enc⟩
 |_=>none
def z76.F (a0:J1):Option (J0×Bool×Int):=
 ((z58.F a0 ([45]:J1)).bind λr1=>((z59.F r1.1).bind λr2=>(bif (!decide (r2.2=0)) then (some ([],false,r2.2)) else (bif r1.2 then ((z23.F r2.1).bind λr3=>(bif r3 then (some ([],false,(5:Int))) else ((z25.F r2.1 r1.2).bind λr7=>(some (r7.1,r7.2,(0:Int)))))) else ((z25.F r2.1 r1.2).bind λr8=>(some (r8.1,r8.2,(0:Int))))))))
def z76.enc (r:J0×Bool×Int):V:=(.tup [(.agg [(.ints false .u64 r.1),(.bool r.2.1)]),(.int .i64 r.2.2)])
def z76.pack:List V->Option Pack
 |[(.str a0)]=>some ⟨J0×Bool×Int,z76.F a0,z76.enc⟩
 |_=>none
def z77.F:Option (J0×Bool):=
 ((z69.F 30).bind λr1=>((z25.F r1.1 false).bind λr2=>(some (r2.1,r2.2))))
def z77.pack:List V->Option Pack
 |[]=>some ⟨J0×Bool,z77.F,z25.enc⟩
 |_=>none
def z78.F (a0:J1):Option (J0×Bool×Int):=
 ((z76.F a0).bind λr1=>(bif (!decide (r1.2.2=0)) then (some ([],false,r1.2.2)) else ((z24.F r1.1 r1.2.1).bind λr2=>(bif (decide (r2<0)) then (some ([],false,(19:Int))) else (z77.F.bind λr3=>((z67.F r1.1 r1.2.1 r3.1 r3.2).bind λr4=>(bif (decide (r4>0)) then (some ([],false,(19:Int))) else (some (r1.1,r1.2.1,(0:Int))))))))))
def z78.pack:List V->Option Pack
 |[(.str a0)]=>some ⟨J0×Bool×Int,z78.F a0,z76.enc⟩
 |_=>none
def z79.F (a0:J1):Option (Int):=
 ((z78.F a0).bind λr1=>(bif (decide (r1.2.2=0)) then ((z24.F r1.1 r1.2.1).bind λr2=>(bif (decide (r2=0)) then (some 19) else (some r1.2.2))) else (some r1.2.2)))
def z79.pack:List V->Option Pack
 |[(.str a0)]=>some ⟨Int,z79.F a0,z8.enc⟩
 |_=>none
def z80.F (a0 a1 a2 a3:Int) (a4:J1):Option (Int):=
 (bif (decide (a0=0)) then (bif (decide (a4=([100,117,101]:J1))) then (some 0) else ((z79.F a4).bind λr1=>(some r1))) else (bif (decide (a0=1)) then ((z79.F a4).bind λr2=>(some r2)) else (bif (decide (a0=2)) then ((z75.F a4).bind λr3=>(some r3.2.2.2)) else (bif (!decide (a4=([]:J1))) then (some 4) else (some 0)))))
def z80.pack:List V->Option Pack
 |[(.agg [(.int .i64 a0),(.int .i64 a1),(.int .i64 a2),(.int .i64 a3),(.str a4)])]=>some ⟨Int,z80.F a0 a1 a2 a3 a4,z8.enc⟩
 |_=>none
def z81.j1 (j1:Bool) (a1 a2 a3 a5 a6 a7 a0:Int) (a4:J1):Option (Int):=
 (bif j1 then (some 2) else ((z22.F a1 a2 a3).bind λr2=>(bif (!decide (r2=0)) then (some 11) else ((z18.F a1 a2 a3 a5 a6 a7).bind λr3=>(bif (decide (r3<0)) then (some 12) else ((z80.F a0 a1 a2 a3 a4).bind λr4=>(some r4)))))))
def z81.F (a0 a1 a2 a3:Int) (a4:J1) (a5 a6 a7:Int):Option (Int):=
 (bif (decide (a0<0)) then (z81.j1 true a1 a2 a3 a5 a6 a7 a0 a4) else (z81.j1 (decide (a0>=4)) a1 a2 a3 a5 a6 a7 a0 a4))
def z81.pack:List V->Option Pack
 |[(.agg [(.int .i64 a0),(.int .i64 a1),(.int .i64 a2),(.int .i64 a3),(.str a4)]),(.agg [(.int .i64 a5),(.int .i64 a6),(.int .i64 a7)])]=>some ⟨Int,z81.F a0 a1 a2 a3 a4 a5 a6 a7,z8.enc⟩
 |_=>none
def z82.l0P (a:J2) (b:Int) {R:Type} (rec:(Int×Int×Int×Int)->Option R) (done:((Int×Int×Int×Int)⊕(Int×Int×Int×Int×Int))->Option R):(Int×Int×Int×Int)->Option R:=λx=>match x with
 |(c,d,e,g)=>(bif (decide (c<b)) then (if 0<=c/\c<(a.length:Int) then (V.asInt .i64 (((a.getD (c).toNat [])).getD 0 .undef) λh=>(V.asInt .i64 (((a.getD (c).toNat [])).getD 1 .undef) λj=>(V.asInt .i64 (((a.getD (c).toNat [])).getD 2 .undef) λk=>(V.asInt .i64 (((a.getD (c).toNat [])).getD 3 .undef) λm=>(V.asStr (((a.getD (c).toNat [])).getD 4 .undef) λn=>((z81.F h j k m n d e g).bind λo=>(bif (!decide (o=0)) then (done (.inr (c,o,d,e,g))) else (rec ((wr .i64 (c+1)),j,k,m))))))))) else none) else (done (.inl (c,d,e,g))))
def z82.l0 (a:J2) (b:Int) (x:(Int×Int×Int×Int)):Option (((Int×Int×Int×Int)⊕(Int×Int×Int×Int×Int))):=lfp (λrec x=>z82.l0P a b rec some x) x
def z82.F (a0:J2):Option (Int×Int):=
 (bif (decide ((((a0).length:Nat):Int)>10000)) then (some ((10000:Int),(6:Int))) else ((z82.l0 a0 (((a0).length:Nat):Int) ((0:Int),(0:Int),(0:Int),(0:Int))).bind λo1=>match o1 with | .inl p2=>(some ((0:Int),(0:Int))) | .inr q3=>(some (q3.1,q3.2.1))))
def z82.enc (r:Int×Int):V:=(.tup [(.int .i64 r.1),(.int .i64 r.2)])
def z82.pack:List V->Option Pack
 |[(.recs _ 5 a0)]=>some ⟨Int×Int,z82.F a0,z82.enc⟩
 |_=>none
def z83.l0P (a:Int) {R:Type} (rec done:(Int×Int×J0)->Option R):(Int×Int×J0)->Option R:=λx=>match x with
 |(b,c,d)=>(bif (decide (b>0)) then (if 0<=(wr .i64 (c-1))/\(wr .i64 (c-1))<20 then (if ((wr .i64 (c-1))).toNat<d.length then (rec ((wr .u64 (Int.tdiv b 10)),(wr .i64 (c-1)),(d.set ((wr .i64 (c-1))).toNat (wr .u8 (wr .u64 ((48:Int)+(Int.tmod b 10))))))) else none) else none) else (bif (decide ((wr .i64 ((20:Int)-c))<a)) then (if 0<=(wr .i64 (c-1))/\(wr .i64 (c-1))<20 then (if ((wr .i64 (c-1))).toNat<d.length then (rec ((wr .u64 (Int.tdiv b 10)),(wr .i64 (c-1)),(d.set ((wr .i64 (c-1))).toNat (wr .u8 (wr .u64 ((48:Int)+(Int.tmod b 10))))))) else none) else none) else (done (b,c,d))))
def z83.l0 (a:Int) (x:(Int×Int×J0)):Option ((Int×Int×J0)):=lfp (λrec x=>z83.l0P a rec some x) x
def z83.F (a0 a1:Int):Option (J1):=
 ((z83.l0 a1 (a0,(20:Int),(List.replicate 20 0))).bind λo1=>(if (o1.2.2).length=20 then (if 0<=o1.2.1/\o1.2.1<=20 then (some (((o1.2.2.drop (o1.2.1).toNat).take (20-(o1.2.1).toNat)).map λn=>UInt8.ofNat n.toNat)) else none) else none))
def z83.pack:List V->Option Pack
 |[(.int .u64 a0),(.int .i64 a1)]=>some ⟨J1,z83.F a0 a1,z5.enc⟩
 |_=>none
def z84.l2P (a:J0) (b:Int) {R:Type} (rec done:(Int×Int)->Option R):(Int×Int)->Option R:=λx=>match x with
 |(c,d)=>(bif (decide (d<b)) then (if 0<=d/\d<(a.length:Int) then (rec ((a.getD (d).toNat 0),(wr .i64 (d+1)))) else none) else (done (c,d)))
def z84.l2 (a:J0) (b:Int) (x:(Int×Int)):Option ((Int×Int)):=lfp (λrec x=>z84.l2P a b rec some x) x
def z84.j1010a {R:Type} (rec done:(J0×(List J1))->Option R) (a:Int×Int) (b:Int) (c:List J1) (d:J0×J0×Int):Option R:=
 ((z83.F a.1 b).bind λe=>(if ((c).length+([e]).length)*16<=140737488355328 then (rec (d.1,(c++[e]))) else none))
def z84.l0P {R:Type} (rec done:(J0×(List J1))->Option R):(J0×(List J1))->Option R:=λx=>match x with
 |(a,b)=>((z23.F a).bind λc=>(bif (!c) then ((z27.F [(1000000000000000000:Int)]).bind λd=>((z46.F a d).bind λe=>((z37.F e.2.1).bind λg=>((z84.l2 g (((g).length:Nat):Int) ((0:Int),(0:Int))).bind λh=>((z23.F e.1).bind λj=>(bif j then (z84.j1010a rec done h 1 b e) else (z84.j1010a rec done h 18 b e))))))) else (done (a,b))))
def z84.l0 (x:(J0×(List J1))):Option ((J0×(List J1))):=lfp (λrec x=>z84.l0P rec some x) x
def z84.l4P (a:List J1) {R:Type} (rec done:(Int×J0)->Option R):(Int×J0)->Option R:=λx=>match x with
 |(b,d)=>(bif (decide (b>=0)) then (if 0<=b/\b<(a.length:Int) then (if (b).toNat<a.length then (if ((d).length+(((a.getD (b).toNat []).map λc=>(c.toNat:Int))).length)*1<=140737488355328 then (rec ((wr .i64 (b-1)),(d++((a.getD (b).toNat []).map λc=>(c.toNat:Int))))) else none) else none) else none) else (done (b,d)))
def z84.l4 (a:List J1) (x:(Int×J0)):Option ((Int×J0)):=lfp (λrec x=>z84.l4P a rec some x) x
def z84.F (a0:J0):Option (J1):=
 ((z23.F a0).bind λr1=>(bif r1 then (some ([48]:J1)) else ((z84.l0 (a0,[])).bind λo2=>(bif (decide ((wr .i64 ((((o2.2).length:Nat):Int)-1))>=0)) then (if 0<=(wr .i64 ((((o2.2).length:Nat):Int)-1))/\(wr .i64 ((((o2.2).length:Nat):Int)-1))<(o2.2.length:Int) then (if ((wr .i64 ((((o2.2).length:Nat):Int)-1))).toNat<o2.2.length then (if (([]:J0).length+(((o2.2.getD ((wr .i64 ((((o2.2).length:Nat):Int)-1))).toNat []).map λc=>(c.toNat:Int))).length)*1<=140737488355328 then ((z84.l4 o2.2 ((wr .i64 ((wr .i64 ((((o2.2).length:Nat):Int)-1))-1)),([]++((o2.2.getD ((wr .i64 ((((o2.2).length:Nat):Int)-1))).toNat []).map λc=>(c.toNat:Int))))).bind λo3=>(if 0<(o3.2).length then (if (((o3.2).length:Nat):Int)=(o3.2.length:Int)/\0<o3.2.length/\o3.2.all Qcf=true then (some (o3.2.map λn=>UInt8.ofNat n.toNat)) else none) else none)) else none) else none) else none) else (if ((([]:J0).length:Nat):Int)=0 then (some ([]:J1)) else none)))))
def z84.pack:List V->Option Pack
 |[(.agg [(.ints _ .u64 a0)])]=>some ⟨J1,z84.F a0,z5.enc⟩
 |_=>none
def z85.F (a0:J0) (a1:Bool):Option (J1):=
 (bif a1 then ((z84.F a0).bind λr1=>(if ([45]:J1).length+r1.length<=9223372036854775807 then (some (([45]:J1)++r1)) else none)) else ((z84.F a0).bind λr2=>(some r2)))
def z85.pack:List V->Option Pack
 |[(.agg [(.ints _ .u64 a0),(.bool a1)])]=>some ⟨J1,z85.F a0 a1,z5.enc⟩
 |_=>none
def z86.F (a0:J0) (a1:Bool) (a2 a3:J0) (a4:Bool) (a5:J0):Option (J0×Bool×J0):=
 ((z51.F a0 a1 a3 a4).bind λr1=>((z53.F a0 a1 a2).bind λr2=>((z53.F a3 a4 a5).bind λr3=>((z50.F r2 r3).bind λr4=>((z48.F r1.1 r1.2 r4).bind λr5=>(some (r5.1,r5.2.1,r5.2.2)))))))
def z86.pack:List V->Option Pack
 |[(.agg [(.ints _ .u64 a0),(.bool a1),(.ints _ .u64 a2)]),(.agg [(.ints _ .u64 a3),(.bool a4),(.ints _ .u64 a5)])]=>some ⟨J0×Bool×J0,z86.F a0 a1 a2 a3 a4 a5,z29.enc⟩
 |_=>none
def z87.j2 (a1:Int) (r1:J0×Bool×J0×Int):Option (J0×Bool×J0×Int):=
 ((z28.F a1).bind λr3=>((z28.F 12).bind λr4=>((z49.F r3.1 r3.2 r4.1 r4.2).bind λr5=>((z86.F r1.1 r1.2.1 r1.2.2.1 r5.1 r5.2.1 r5.2.2.1).bind λr6=>(some (r6.1,r6.2.1,r6.2.2,(0:Int)))))))
def z87.F (a0:J1) (a1:Int):Option (J0×Bool×J0×Int):=
 ((z75.F a0).bind λr1=>(bif (!decide (r1.2.2.2=0)) then (some ([],false,[],r1.2.2.2)) else (bif (decide (a1<1)) then (some ([],false,[],(2:Int))) else (bif (decide (a1>12)) then (some ([],false,[],(2:Int))) else (z87.j2 a1 r1)))))
def z87.pack:List V->Option Pack
 |[(.str a0),(.int .i64 a1)]=>some ⟨J0×Bool×J0×Int,z87.F a0 a1,z49.enc⟩
 |_=>none
def z88.F (a0:J0) (a1:Bool) (a2:J0):Option (Int):=
 ((z24.F a0 a1).bind λr1=>(some r1))
def z88.pack:List V->Option Pack
 |[(.agg [(.ints _ .u64 a0),(.bool a1),(.ints _ .u64 a2)])]=>some ⟨Int,z88.F a0 a1 a2,z8.enc⟩
 |_=>none
def z89.F (a0:J0) (a1:Bool) (a2:J0):Option (J0×Bool):=
 (some (a0,a1))
def z89.pack:List V->Option Pack
 |[(.agg [(.ints _ .u64 a0),(.bool a1),(.ints _ .u64 a2)])]=>some ⟨J0×Bool,z89.F a0 a1 a2,z25.enc⟩
 |_=>none
def z90.F (a0:J0):Option (Int):=
 ((z23.F a0).bind λr1=>(bif r1 then (some 0) else (if 0<=(wr .i64 ((((a0).length:Nat):Int)-1))/\(wr .i64 ((((a0).length:Nat):Int)-1))<(a0.length:Int) then ((z38.F (a0.getD ((wr .i64 ((((a0).length:Nat):Int)-1))).toNat 0)).bind λr2=>(some (wr .i64 ((wr .i64 ((64:Int)*(wr .i64 ((((a0).length:Nat):Int)-1))))+r2)))) else none)))
def z90.pack:List V->Option Pack
 |[(.agg [(.ints _ .u64 a0)])]=>some ⟨Int,z90.F a0,z8.enc⟩
 |_=>none
def z91.F (a0:J0) (a1:Int):Option (J0×Int):=
 (bif (decide (a1<0)) then (some ([],(2:Int))) else (bif (decide (a1>1200)) then (some ([],(6:Int))) else ((z90.F a0).bind λr1=>(bif (decide ((wr .i64 (r1*a1))>262144)) then (some ([],(6:Int))) else ((z68.F a0 a1).bind λr5=>(some (r5,(0:Int))))))))
def z91.pack:List V->Option Pack
 |[(.agg [(.ints _ .u64 a0)]),(.int .i64 a1)]=>some ⟨J0×Int,z91.F a0 a1,z43.enc⟩
 |_=>none
def z92.F (a0:J0):Option (J0×Bool):=
 ((z25.F a0 false).bind λr1=>(some (r1.1,r1.2)))
def z92.pack:List V->Option Pack
 |[(.agg [(.ints _ .u64 a0)])]=>some ⟨J0×Bool,z92.F a0,z25.enc⟩
 |_=>none
def z93.j13 (r11 r12:J0×Int) (a0:J0) (a1:Bool) (a2 a3:J0) (a4:Bool) (a5 r7:J0):Option (J0×Bool×J0×Int):=
 ((z36.F r11.1 r12.1).bind λr14=>((z89.F a0 a1 a2).bind λr15=>((z89.F a3 a4 a5).bind λr16=>((z51.F r15.1 r15.2 r16.1 r16.2).bind λr17=>((z92.F r11.1).bind λr18=>((z51.F r17.1 r17.2 r18.1 r18.2).bind λr19=>((z53.F a0 a1 a2).bind λr20=>((z50.F r20 r7).bind λr21=>((z50.F r21 r14.1).bind λr22=>((z92.F r22).bind λr23=>((z49.F r19.1 r19.2 r23.1 r23.2).bind λr24=>(some (r24.1,r24.2.1,r24.2.2.1,r24.2.2.2)))))))))))))
def z93.j1 (j1:Bool) (a3:J0) (a4:Bool) (a5:J0) (a6:Int) (a0:J0) (a1:Bool) (a2:J0):Option (J0×Bool×J0×Int):=
 (bif j1 then (some ([],false,[],(2:Int))) else ((z88.F a3 a4 a5).bind λr2=>(bif (decide (r2<0)) then (some ([],false,[],(18:Int))) else ((z88.F a3 a4 a5).bind λr3=>(bif (decide (r3=0)) then ((z28.F a6).bind λr4=>((z29.F r4.1 r4.2).bind λr5=>((z55.F a0 a1 a2 r5.1 r5.2.1 r5.2.2).bind λr6=>(some (r6.1,r6.2.1,r6.2.2.1,r6.2.2.2))))) else ((z53.F a3 a4 a5).bind λr7=>((z89.F a3 a4 a5).bind λr8=>((z31.F r8.1 r8.2).bind λr9=>((z52.F r9 r7).bind λr10=>((z91.F r10 a6).bind λr11=>((z91.F r7 a6).bind λr12=>(bif (!decide (r11.2=0)) then (some ([],false,[],(6:Int))) else (bif (!decide (r12.2=0)) then (some ([],false,[],(6:Int))) else (z93.j13 r11 r12 a0 a1 a2 a3 a4 a5 r7))))))))))))))
def z93.F (a0:J0) (a1:Bool) (a2 a3:J0) (a4:Bool) (a5:J0) (a6:Int):Option (J0×Bool×J0×Int):=
 (bif (decide (a6<1)) then (z93.j1 true a3 a4 a5 a6 a0 a1 a2) else (z93.j1 (decide (a6>1200)) a3 a4 a5 a6 a0 a1 a2))
def z93.pack:List V->Option Pack
 |[(.agg [(.ints _ .u64 a0),(.bool a1),(.ints _ .u64 a2)]),(.agg [(.ints _ .u64 a3),(.bool a4),(.ints _ .u64 a5)]),(.int .i64 a6)]=>some ⟨J0×Bool×J0×Int,z93.F a0 a1 a2 a3 a4 a5 a6,z49.enc⟩
 |_=>none
def z94.F (a0:Int):Option (Bool):=
 (bif (decide (a0>=0)) then (some (decide (a0<5))) else (some false))
def z94.pack:List V->Option Pack
 |[(.int .i64 a0)]=>some ⟨Bool,z94.F a0,z7.enc⟩
 |_=>none
def z95.F (a0:Int) (a1 a2 a3:J0):Option (Bool):=
 ((z52.F a2 a2).bind λr1=>((z35.F r1 a3).bind λr2=>(bif (decide (a0=1)) then (some true) else (bif (decide (a0=2)) then (some (decide (r2>=0))) else (bif (decide (a0=3)) then (some (decide (r2>0))) else (bif (decide (a0=4)) then ((z37.F a1).bind λr3=>(bif (decide ((((r3).length:Nat):Int)>0)) then ((z37.F a1).bind λr4=>(if (0:Int)<=(0:Int)/\(0:Int)<(r4.length:Int) then (bif (decide (r2>0)) then (some true) else (bif (decide (r2=0)) then (some (decide ((wr .u64 ((BitVec.ofInt (IntKind.bits .u64) (r4.getD 0 0) &&& BitVec.ofInt (IntKind.bits .u64) 1).toNat:Int))=1))) else (some false))) else none)) else (bif (decide (r2>0)) then (some true) else (bif (decide (r2=0)) then (some false) else (some false))))) else (some false)))))))
def z95.pack:List V->Option Pack
 |[(.int .i64 a0),(.agg [(.ints _ .u64 a1)]),(.agg [(.ints _ .u64 a2)]),(.agg [(.ints _ .u64 a3)])]=>some ⟨Bool,z95.F a0 a1 a2 a3,z7.enc⟩
 |_=>none
def z96.j14 (a0:J0) (a1:Bool) (a2 j14:J0):Option (J0×Bool×Int):=
 ((z88.F a0 a1 a2).bind λr15=>((z25.F j14 (decide (r15<0))).bind λr16=>(some (r16.1,r16.2,(0:Int)))))
def z96.F (a0:J0) (a1:Bool) (a2:J0) (a3:Int):Option (J0×Bool×Int):=
 ((z94.F a3).bind λr1=>(bif (!r1) then (some ([],false,(2:Int))) else ((z89.F a0 a1 a2).bind λr2=>((z31.F r2.1 r2.2).bind λr3=>((z53.F a0 a1 a2).bind λr4=>((z46.F r3 r4).bind λr5=>((z23.F r5.2.1).bind λr6=>(bif (!r6) then ((z53.F a0 a1 a2).bind λr7=>((z95.F a3 r5.1 r5.2.1 r7).bind λr8=>(bif r8 then ((z27.F [(1:Int)]).bind λr12=>((z52.F r5.1 r12).bind λr13=>(z96.j14 a0 a1 a2 r13))) else (z96.j14 a0 a1 a2 r5.1)))) else (z96.j14 a0 a1 a2 r5.1)))))))))
def z96.pack:List V->Option Pack
 |[(.agg [(.ints _ .u64 a0),(.bool a1),(.ints _ .u64 a2)]),(.int .i64 a3)]=>some ⟨J0×Bool×Int,z96.F a0 a1 a2 a3,z76.enc⟩
 |_=>none
def z97.F (a0:J0) (a1:Bool) (a2:J1) (a3 a4 a5:Int):Option (J0×Bool×Int):=
 ((z87.F a2 a3).bind λr1=>(bif (!decide (r1.2.2.2=0)) then (some ([],false,r1.2.2.2)) else ((z24.F a0 a1).bind λr2=>(bif (decide (r2<0)) then (some ([],false,(19:Int))) else ((z29.F a0 a1).bind λr3=>((z93.F r3.1 r3.2.1 r3.2.2 r1.1 r1.2.1 r1.2.2.1 a4).bind λr4=>(bif (!decide (r4.2.2.2=0)) then (some ([],false,r4.2.2.2)) else ((z96.F r4.1 r4.2.1 r4.2.2.1 a5).bind λr5=>(some (r5.1,r5.2.1,r5.2.2))))))))))
def z97.pack:List V->Option Pack
 |[(.agg [(.ints _ .u64 a0),(.bool a1)]),(.str a2),(.int .i64 a3),(.int .i64 a4),(.int .i64 a5)]=>some ⟨J0×Bool×Int,z97.F a0 a1 a2 a3 a4 a5,z76.enc⟩
 |_=>none
def z98.j2 (a2:Int) (a0:J0) (a1:Bool) (a3:Int):Option (J0×Bool×Int):=
 ((z28.F a2).bind λr3=>((z49.F a0 a1 r3.1 r3.2).bind λr4=>((z96.F r4.1 r4.2.1 r4.2.2.1 a3).bind λr5=>(some (r5.1,r5.2.1,r5.2.2)))))
def z98.F (a0:J0) (a1:Bool) (a2 a3:Int):Option (J0×Bool×Int):=
 ((z24.F a0 a1).bind λr1=>(bif (decide (r1<0)) then (some ([],false,(19:Int))) else (bif (decide (a2<1)) then (some ([],false,(2:Int))) else (bif (decide (a2>1200)) then (some ([],false,(2:Int))) else (z98.j2 a2 a0 a1 a3)))))
def z98.pack:List V->Option Pack
 |[(.agg [(.ints _ .u64 a0),(.bool a1)]),(.int .i64 a2),(.int .i64 a3)]=>some ⟨J0×Bool×Int,z98.F a0 a1 a2 a3,z76.enc⟩
 |_=>none
def z99.F (a0 a1:J1) (a2 a3 a4 a5 a6 a7 a8 a9:Int) (a10:J0) (a11:Bool) (a12:J1) (a13:Int):Option (J0×Bool×Int):=
 (bif (decide (a2=0)) then ((z97.F a10 a11 a12 a8 a13 a4).bind λr1=>(some (r1.1,r1.2.1,r1.2.2))) else (bif (decide (a2=1)) then ((z98.F a10 a11 a13 a4).bind λr2=>(some (r2.1,r2.2.1,r2.2.2))) else (bif (decide (a2=2)) then (some ([],false,(0:Int))) else (some ([],false,(2:Int))))))
def z99.pack:List V->Option Pack
 |[(.agg [(.str a0),(.str a1),(.int .i64 a2),(.int .i64 a3),(.int .i64 a4),(.int .i64 a5),(.int .i64 a6),(.int .i64 a7),(.int .i64 a8),(.int .i64 a9)]),(.agg [(.ints _ .u64 a10),(.bool a11)]),(.str a12),(.int .i64 a13)]=>some ⟨J0×Bool×Int,z99.F a0 a1 a2 a3 a4 a5 a6 a7 a8 a9 a10 a11 a12 a13,z76.enc⟩
 |_=>none
def z100.F (a0:J2) (a1 a2 a3:Int) (a4 a5:J1):Option (J2):=
 (if (a0).length*80<=140737488355328 then (if 0<=(wr .i64 ((((a0).length:Nat):Int)-1))/\(wr .i64 ((((a0).length:Nat):Int)-1))<(a0.length:Int) then (if ((wr .i64 ((((a0).length:Nat):Int)-1))).toNat<a0.length then (V.asInt .i64 (((a0.getD ((wr .i64 ((((a0).length:Nat):Int)-1))).toNat [])).getD 0 .undef) λc1=>(V.asInt .i64 (((a0.getD ((wr .i64 ((((a0).length:Nat):Int)-1))).toNat [])).getD 1 .undef) λc2=>(V.asInt .i64 (((a0.getD ((wr .i64 ((((a0).length:Nat):Int)-1))).toNat [])).getD 2 .undef) λc3=>(bif (decide (c1=a1)&&(decide (c2=a2)&&decide (c3=a3))) then (if ((wr .i64 ((((a0).length:Nat):Int)-1))).toNat<a0.length then (if ((wr .i64 ((((a0).length:Nat):Int)-1))).toNat<(a0.set ((wr .i64 ((((a0).length:Nat):Int)-1))).toNat ((a0.getD ((wr .i64 ((((a0).length:Nat):Int)-1))).toNat []).set 6 (.str a4))).length then (some ((a0.set ((wr .i64 ((((a0).length:Nat):Int)-1))).toNat ((a0.getD ((wr .i64 ((((a0).length:Nat):Int)-1))).toNat []).set 6 (.str a4))).set ((wr .i64 ((((a0).length:Nat):Int)-1))).toNat (((a0.set ((wr .i64 ((((a0).length:Nat):Int)-1))).toNat ((a0.getD ((wr .i64 ((((a0).length:Nat):Int)-1))).toNat []).set 6 (.str a4))).getD ((wr .i64 ((((a0).length:Nat):Int)-1))).toNat []).set 7 (.str a5)))) else none) else none) else (if ((wr .i64 ((((a0).length:Nat):Int)-1))).toNat<a0.length then (V.asInt .i64 (((a0.getD ((wr .i64 ((((a0).length:Nat):Int)-1))).toNat [])).getD 3 .undef) λc4=>(V.asInt .i64 (((a0.getD ((wr .i64 ((((a0).length:Nat):Int)-1))).toNat [])).getD 4 .undef) λc5=>(V.asInt .i64 (((a0.getD ((wr .i64 ((((a0).length:Nat):Int)-1))).toNat [])).getD 5 .undef) λc6=>(if ((wr .i64 ((((a0).length:Nat):Int)-1))).toNat<a0.length then (if (((a0.set ((wr .i64 ((((a0).length:Nat):Int)-1))).toNat ((((a0.getD ((wr .i64 ((((a0).length:Nat):Int)-1))).toNat []).set 3 (.int .i64 a1)).set 4 (.int .i64 a2)).set 5 (.int .i64 a3)))).length+(([[(.int .i64 a1),(.int .i64 a2),(.int .i64 a3),(.int .i64 c4),(.int .i64 c5),(.int .i64 c6),(.str a4),(.str a5)]]:J2)).length)*80<=140737488355328 then (some ((a0.set ((wr .i64 ((((a0).length:Nat):Int)-1))).toNat ((((a0.getD ((wr .i64 ((((a0).length:Nat):Int)-1))).toNat []).set 3 (.int .i64 a1)).set 4 (.int .i64 a2)).set 5 (.int .i64 a3)))++([[(.int .i64 a1),(.int .i64 a2),(.int .i64 a3),(.int .i64 c4),(.int .i64 c5),(.int .i64 c6),(.str a4),(.str a5)]]:J2))) else none) else none)))) else none))))) else none) else none) else none)
def z100.enc (r:J2):V:=(.recs false 8 r)
def z100.pack:List V->Option Pack
 |[(.recs _ 8 a0),(.agg [(.int .i64 a1),(.int .i64 a2),(.int .i64 a3)]),(.str a4),(.str a5)]=>some ⟨J2,z100.F a0 a1 a2 a3 a4 a5,z100.enc⟩
 |_=>none
def z101.F (a0 a1:J1) (a2 a3 a4 a5 a6 a7 a8 a9:Int) (a10:J0) (a11:Bool) (a12:J1) (a13:J0) (a14:Bool) (a15:J2) (a16 a17 a18 a19:Int) (a20:J1) (a21:J2) (a22:Int):Option (J2×Int×J1×J1×Int×Int×Int×Int×Int×Int×Int×Int×J0×Bool×J1×J0×Bool×J2):=
 (bif (decide (a16=2)) then ((z99.F a0 a1 a2 a3 a4 a5 a6 a7 a8 a9 a10 a11 a20 a22).bind λr4=>((z85.F a10 a11).bind λr5=>((z100.F a21 a17 a18 a19 r5 a20).bind λr6=>(some (r6,(0:Int),a0,a1,a2,a3,a4,a5,a6,a7,a8,a9,a10,a11,a20,r4.1,r4.2.1,a15))))) else ((z78.F a20).bind λr1=>((z67.F r1.1 r1.2.1 a10 a11).bind λr2=>(bif (decide (r2>0)) then (some ([],(16:Int),a0,a1,a2,a3,a4,a5,a6,a7,a8,a9,a10,a11,a12,a13,a14,a15)) else ((z66.F a10 a11 r1.1 r1.2.1).bind λr3=>((z99.F a0 a1 a2 a3 a4 a5 a6 a7 a8 a9 r3.1 r3.2 a12 a22).bind λr7=>((z85.F r3.1 r3.2).bind λr8=>((z100.F a21 a17 a18 a19 r8 a12).bind λr9=>(some (r9,(0:Int),a0,a1,a2,a3,a4,a5,a6,a7,a8,a9,r3.1,r3.2,a12,r7.1,r7.2.1,a15))))))))))
def z101.enc (r:J2×Int×J1×J1×Int×Int×Int×Int×Int×Int×Int×Int×J0×Bool×J1×J0×Bool×J2):V:=(.tup [(.recs false 8 r.1),(.int .i64 r.2.1)])
def z101.encC (r:J2×Int×J1×J1×Int×Int×Int×Int×Int×Int×Int×Int×J0×Bool×J1×J0×Bool×J2):List V:=[(.str r.2.2.1),(.str r.2.2.2.1),(.int .i64 r.2.2.2.2.1),(.int .i64 r.2.2.2.2.2.1),(.int .i64 r.2.2.2.2.2.2.1),(.int .i64 r.2.2.2.2.2.2.2.1),(.int .i64 r.2.2.2.2.2.2.2.2.1),(.int .i64 r.2.2.2.2.2.2.2.2.2.1),(.int .i64 r.2.2.2.2.2.2.2.2.2.2.1),(.int .i64 r.2.2.2.2.2.2.2.2.2.2.2.1),(.ints false .u64 r.2.2.2.2.2.2.2.2.2.2.2.2.1),(.bool r.2.2.2.2.2.2.2.2.2.2.2.2.2.1),(.str r.2.2.2.2.2.2.2.2.2.2.2.2.2.2.1),(.ints false .u64 r.2.2.2.2.2.2.2.2.2.2.2.2.2.2.2.1),(.bool r.2.2.2.2.2.2.2.2.2.2.2.2.2.2.2.2.1)]
def z101.encR (r:J2×Int×J1×J1×Int×Int×Int×Int×Int×Int×Int×Int×J0×Bool×J1×J0×Bool×J2):V:=(.recs false 8 r.2.2.2.2.2.2.2.2.2.2.2.2.2.2.2.2.2)
def z101.pk:List V->V->List V->Option Qct
 |[(.str a0),(.str a1),(.int .i64 a2),(.int .i64 a3),(.int .i64 a4),(.int .i64 a5),(.int .i64 a6),(.int .i64 a7),(.int .i64 a8),(.int .i64 a9),(.ints _ .u64 a10),(.bool a11),(.str a12),(.ints _ .u64 a13),(.bool a14)],(.recs _ 8 a15),[(.agg [(.int .i64 a16),(.int .i64 a17),(.int .i64 a18),(.int .i64 a19),(.str a20)]),(.recs _ 8 a21),(.int .i64 a22)]=>some ⟨J2×Int×J1×J1×Int×Int×Int×Int×Int×Int×Int×Int×J0×Bool×J1×J0×Bool×J2,z101.F a0 a1 a2 a3 a4 a5 a6 a7 a8 a9 a10 a11 a12 a13 a14 a15 a16 a17 a18 a19 a20 a21 a22,z101.enc,z101.encC,z101.encR⟩
 |_,_,_=>none
def z102.j8 (j8:Bool) (a10:J0) (a11:Bool) (a0 a1:J1) (a2 a3 a4 a5 a6 a7 a8 a9:Int) (a12:J1) (a13:J0) (a14:Bool) (a15:J2) (r1:J0×Bool):Option (J0×Bool×J1×J1×Int×Int×Int×Int×Int×Int×Int×Int×J0×Bool×J1×J0×Bool×J2):=
 (bif j8 then (some (a10,a11,a0,a1,a2,a3,a4,a5,a6,a7,a8,a9,a10,a11,a12,a13,a14,a15)) else ((z24.F r1.1 r1.2).bind λr9=>(bif (decide (r9<0)) then (some ([],false,a0,a1,a2,a3,a4,a5,a6,a7,a8,a9,a10,a11,a12,a13,a14,a15)) else (some (r1.1,r1.2,a0,a1,a2,a3,a4,a5,a6,a7,a8,a9,a10,a11,a12,a13,a14,a15)))))
def z102.j11 (j11:Bool) (a10:J0) (a11:Bool) (a0 a1:J1) (a2 a3 a4 a5 a6 a7 a8 a9:Int) (a12:J1) (a13:J0) (a14:Bool) (a15:J2):Option (J0×Bool×J1×J1×Int×Int×Int×Int×Int×Int×Int×Int×J0×Bool×J1×J0×Bool×J2):=
 (bif j11 then (some (a10,a11,a0,a1,a2,a3,a4,a5,a6,a7,a8,a9,a10,a11,a12,a13,a14,a15)) else ((z24.F a13 a14).bind λr12=>(bif (decide (r12<0)) then (some ([],false,a0,a1,a2,a3,a4,a5,a6,a7,a8,a9,a10,a11,a12,a13,a14,a15)) else (some (a13,a14,a0,a1,a2,a3,a4,a5,a6,a7,a8,a9,a10,a11,a12,a13,a14,a15)))))
def z102.F (a0 a1:J1) (a2 a3 a4 a5 a6 a7 a8 a9:Int) (a10:J0) (a11:Bool) (a12:J1) (a13:J0) (a14:Bool) (a15:J2) (a16:J0) (a17 a18:Bool):Option (J0×Bool×J1×J1×Int×Int×Int×Int×Int×Int×Int×Int×J0×Bool×J1×J0×Bool×J2):=
 (bif (decide (a2=0)) then ((z66.F a13 a14 a16 a17).bind λr1=>(bif a18 then (z102.j8 true a10 a11 a0 a1 a2 a3 a4 a5 a6 a7 a8 a9 a12 a13 a14 a15 r1) else ((z67.F r1.1 r1.2 a10 a11).bind λr7=>(z102.j8 (decide (r7>0)) a10 a11 a0 a1 a2 a3 a4 a5 a6 a7 a8 a9 a12 a13 a14 a15 r1)))) else (bif a18 then (z102.j11 true a10 a11 a0 a1 a2 a3 a4 a5 a6 a7 a8 a9 a12 a13 a14 a15) else ((z67.F a13 a14 a10 a11).bind λr10=>(z102.j11 (decide (r10>0)) a10 a11 a0 a1 a2 a3 a4 a5 a6 a7 a8 a9 a12 a13 a14 a15))))
def z102.enc (r:J0×Bool×J1×J1×Int×Int×Int×Int×Int×Int×Int×Int×J0×Bool×J1×J0×Bool×J2):V:=(.agg [(.ints false .u64 r.1),(.bool r.2.1)])
def z102.encC (r:J0×Bool×J1×J1×Int×Int×Int×Int×Int×Int×Int×Int×J0×Bool×J1×J0×Bool×J2):List V:=[(.str r.2.2.1),(.str r.2.2.2.1),(.int .i64 r.2.2.2.2.1),(.int .i64 r.2.2.2.2.2.1),(.int .i64 r.2.2.2.2.2.2.1),(.int .i64 r.2.2.2.2.2.2.2.1),(.int .i64 r.2.2.2.2.2.2.2.2.1),(.int .i64 r.2.2.2.2.2.2.2.2.2.1),(.int .i64 r.2.2.2.2.2.2.2.2.2.2.1),(.int .i64 r.2.2.2.2.2.2.2.2.2.2.2.1),(.ints false .u64 r.2.2.2.2.2.2.2.2.2.2.2.2.1),(.bool r.2.2.2.2.2.2.2.2.2.2.2.2.2.1),(.str r.2.2.2.2.2.2.2.2.2.2.2.2.2.2.1),(.ints false .u64 r.2.2.2.2.2.2.2.2.2.2.2.2.2.2.2.1),(.bool r.2.2.2.2.2.2.2.2.2.2.2.2.2.2.2.2.1)]
def z102.encR (r:J0×Bool×J1×J1×Int×Int×Int×Int×Int×Int×Int×Int×J0×Bool×J1×J0×Bool×J2):V:=(.recs false 8 r.2.2.2.2.2.2.2.2.2.2.2.2.2.2.2.2.2)
def z102.pk:List V->V->List V->Option Qct
 |[(.str a0),(.str a1),(.int .i64 a2),(.int .i64 a3),(.int .i64 a4),(.int .i64 a5),(.int .i64 a6),(.int .i64 a7),(.int .i64 a8),(.int .i64 a9),(.ints _ .u64 a10),(.bool a11),(.str a12),(.ints _ .u64 a13),(.bool a14)],(.recs _ 8 a15),[(.agg [(.ints _ .u64 a16),(.bool a17)]),(.bool a18)]=>some ⟨J0×Bool×J1×J1×Int×Int×Int×Int×Int×Int×Int×Int×J0×Bool×J1×J0×Bool×J2,z102.F a0 a1 a2 a3 a4 a5 a6 a7 a8 a9 a10 a11 a12 a13 a14 a15 a16 a17 a18,z102.enc,z102.encC,z102.encR⟩
 |_,_,_=>none
def z103.j1026a {R:Type} (rec:(Int×Int×Int×Int×Int×Int×J1×J1×Int)->Option R) (done:((Int×Int×Int×Int×Int×Int×J1×J1×Int)⊕(Int))->Option R) (a:J1) (b:Int) (c:J2) (d:J1):Option R:=
 ((z78.F a).bind λe=>(bif (!decide (e.2.2=0)) then (bif (!decide (e.2.2=0)) then (done (.inr e.2.2)) else (if 0<=b/\b<(c.length:Int) then (V.asInt .i64 (((c.getD (b).toNat [])).getD 0 .undef) λg=>(V.asInt .i64 (((c.getD (b).toNat [])).getD 1 .undef) λh=>(V.asInt .i64 (((c.getD (b).toNat [])).getD 2 .undef) λj=>(V.asInt .i64 (((c.getD (b).toNat [])).getD 3 .undef) λk=>(V.asInt .i64 (((c.getD (b).toNat [])).getD 4 .undef) λm=>(V.asInt .i64 (((c.getD (b).toNat [])).getD 5 .undef) λn=>(V.asStr (((c.getD (b).toNat [])).getD 6 .undef) λo=>(V.asStr (((c.getD (b).toNat [])).getD 7 .undef) λp=>(rec (g,h,j,k,m,n,o,p,(wr .i64 (b+1)))))))))))) else none)) else ((z75.F d).bind λq=>(bif (!decide (q.2.2.2=0)) then (done (.inr q.2.2.2)) else (if 0<=b/\b<(c.length:Int) then (V.asInt .i64 (((c.getD (b).toNat [])).getD 0 .undef) λr=>(V.asInt .i64 (((c.getD (b).toNat [])).getD 1 .undef) λs=>(V.asInt .i64 (((c.getD (b).toNat [])).getD 2 .undef) λt=>(V.asInt .i64 (((c.getD (b).toNat [])).getD 3 .undef) λu=>(V.asInt .i64 (((c.getD (b).toNat [])).getD 4 .undef) λv=>(V.asInt .i64 (((c.getD (b).toNat [])).getD 5 .undef) λw=>(V.asStr (((c.getD (b).toNat [])).getD 6 .undef) λx=>(V.asStr (((c.getD (b).toNat [])).getD 7 .undef) λy=>(rec (r,s,t,u,v,w,x,y,(wr .i64 (b+1)))))))))))) else none)))))
def z103.j1024a {R:Type} (rec:(Int×Int×Int×Int×Int×Int×J1×J1×Int)->Option R) (done:((Int×Int×Int×Int×Int×Int×J1×J1×Int)⊕(Int))->Option R) (a:Bool) (b c d e g h j k m:Int) (n:J1) (o:Int) (p:J2) (q:J1):Option R:=
 (bif a then (done (.inr 11)) else ((z18.F b c d e g h).bind λr=>(bif (decide (r>0)) then (done (.inr 12)) else (bif (!(decide (b=j)&&(decide (c=k)&&decide (d=m)))) then (done (.inr 12)) else (z103.j1026a rec done n o p q)))))
def z103.l0P (a b:J2) (c:Int) {R:Type} (rec:(Int×Int×Int×Int×Int×Int×J1×J1×Int)->Option R) (done:((Int×Int×Int×Int×Int×Int×J1×J1×Int)⊕(Int))->Option R):(Int×Int×Int×Int×Int×Int×J1×J1×Int)->Option R:=λx=>match x with
 |(d,e,g,h,j,k,m,n,o)=>(bif (decide (o<c)) then (if 0<=o/\o<(b.length:Int) then (V.asInt .i64 (((b.getD (o).toNat [])).getD 0 .undef) λp=>(V.asInt .i64 (((b.getD (o).toNat [])).getD 1 .undef) λq=>(V.asInt .i64 (((b.getD (o).toNat [])).getD 2 .undef) λr=>(V.asInt .i64 (((b.getD (o).toNat [])).getD 3 .undef) λs=>(V.asInt .i64 (((b.getD (o).toNat [])).getD 4 .undef) λt=>(V.asInt .i64 (((b.getD (o).toNat [])).getD 5 .undef) λu=>(V.asStr (((b.getD (o).toNat [])).getD 6 .undef) λv=>(V.asStr (((b.getD (o).toNat [])).getD 7 .undef) λw=>((z22.F p q r).bind λy=>(bif (!decide (y=0)) then (z103.j1024a rec done true p q r s t u h j k v o a w) else ((z22.F s t u).bind λz=>(z103.j1024a rec done (!decide (z=0)) p q r s t u h j k v o a w)))))))))))) else none) else (done (.inl (d,e,g,h,j,k,m,n,o))))
def z103.l0 (a b:J2) (c:Int) (x:(Int×Int×Int×Int×Int×Int×J1×J1×Int)):Option (((Int×Int×Int×Int×Int×Int×J1×J1×Int)⊕(Int))):=lfp (λrec x=>z103.l0P a b c rec some x) x
def z103.j2026a {R:Type} (rec:(Int×Int×Int×Int×Int×Int×J1×J1×Int)->Option R) (done:((Int×Int×Int×Int×Int×Int×J1×J1×Int)⊕(Int))->Option R) (a:J1) (b:Int) (c:J2) (d:J1):Option R:=
 ((z78.F a).bind λe=>(bif (!decide (e.2.2=0)) then (bif (!decide (e.2.2=0)) then (done (.inr e.2.2)) else (if 0<=b/\b<(c.length:Int) then (V.asInt .i64 (((c.getD (b).toNat [])).getD 0 .undef) λg=>(V.asInt .i64 (((c.getD (b).toNat [])).getD 1 .undef) λh=>(V.asInt .i64 (((c.getD (b).toNat [])).getD 2 .undef) λj=>(V.asInt .i64 (((c.getD (b).toNat [])).getD 3 .undef) λk=>(V.asInt .i64 (((c.getD (b).toNat [])).getD 4 .undef) λm=>(V.asInt .i64 (((c.getD (b).toNat [])).getD 5 .undef) λn=>(V.asStr (((c.getD (b).toNat [])).getD 6 .undef) λo=>(V.asStr (((c.getD (b).toNat [])).getD 7 .undef) λp=>(rec (g,h,j,k,m,n,o,p,(wr .i64 (b+1)))))))))))) else none)) else ((z75.F d).bind λq=>(bif (!decide (q.2.2.2=0)) then (done (.inr q.2.2.2)) else (if 0<=b/\b<(c.length:Int) then (V.asInt .i64 (((c.getD (b).toNat [])).getD 0 .undef) λr=>(V.asInt .i64 (((c.getD (b).toNat [])).getD 1 .undef) λs=>(V.asInt .i64 (((c.getD (b).toNat [])).getD 2 .undef) λt=>(V.asInt .i64 (((c.getD (b).toNat [])).getD 3 .undef) λu=>(V.asInt .i64 (((c.getD (b).toNat [])).getD 4 .undef) λv=>(V.asInt .i64 (((c.getD (b).toNat [])).getD 5 .undef) λw=>(V.asStr (((c.getD (b).toNat [])).getD 6 .undef) λx=>(V.asStr (((c.getD (b).toNat [])).getD 7 .undef) λy=>(rec (r,s,t,u,v,w,x,y,(wr .i64 (b+1)))))))))))) else none)))))
def z103.j2024a {R:Type} (rec:(Int×Int×Int×Int×Int×Int×J1×J1×Int)->Option R) (done:((Int×Int×Int×Int×Int×Int×J1×J1×Int)⊕(Int))->Option R) (a:Bool) (b c d e g h j k m:Int) (n:J1) (o:Int) (p:J2) (q:J1):Option R:=
 (bif a then (done (.inr 11)) else ((z18.F b c d e g h).bind λr=>(bif (decide (r>0)) then (done (.inr 12)) else (bif (!(decide (b=j)&&(decide (c=k)&&decide (d=m)))) then (done (.inr 12)) else (z103.j2026a rec done n o p q)))))
def z103.l0aP (a b:J2) (c:Int) {R:Type} (rec:(Int×Int×Int×Int×Int×Int×J1×J1×Int)->Option R) (done:((Int×Int×Int×Int×Int×Int×J1×J1×Int)⊕(Int))->Option R):(Int×Int×Int×Int×Int×Int×J1×J1×Int)->Option R:=λx=>match x with
 |(d,e,g,h,j,k,m,n,o)=>(bif (decide (o<c)) then (if 0<=o/\o<(b.length:Int) then (V.asInt .i64 (((b.getD (o).toNat [])).getD 0 .undef) λp=>(V.asInt .i64 (((b.getD (o).toNat [])).getD 1 .undef) λq=>(V.asInt .i64 (((b.getD (o).toNat [])).getD 2 .undef) λr=>(V.asInt .i64 (((b.getD (o).toNat [])).getD 3 .undef) λs=>(V.asInt .i64 (((b.getD (o).toNat [])).getD 4 .undef) λt=>(V.asInt .i64 (((b.getD (o).toNat [])).getD 5 .undef) λu=>(V.asStr (((b.getD (o).toNat [])).getD 6 .undef) λv=>(V.asStr (((b.getD (o).toNat [])).getD 7 .undef) λw=>((z22.F p q r).bind λy=>(bif (!decide (y=0)) then (z103.j2024a rec done true p q r s t u h j k v o a w) else ((z22.F s t u).bind λz=>(z103.j2024a rec done (!decide (z=0)) p q r s t u h j k v o a w)))))))))))) else none) else (done (.inl (d,e,g,h,j,k,m,n,o))))
def z103.l0a (a b:J2) (c:Int) (x:(Int×Int×Int×Int×Int×Int×J1×J1×Int)):Option (((Int×Int×Int×Int×Int×Int×J1×J1×Int)⊕(Int))):=lfp (λrec x=>z103.l0aP a b c rec some x) x
def z103.j13 (c7:J1) (a0:J2) (c8:J1):Option (Int):=
 ((z78.F c7).bind λr14=>(bif (!decide (r14.2.2=0)) then (bif (!decide (r14.2.2=0)) then (some r14.2.2) else (if (0:Int)<=(0:Int)/\(0:Int)<(a0.length:Int) then (V.asInt .i64 (((a0.getD 0 [])).getD 0 .undef) λc16=>(V.asInt .i64 (((a0.getD 0 [])).getD 1 .undef) λc17=>(V.asInt .i64 (((a0.getD 0 [])).getD 2 .undef) λc18=>(V.asInt .i64 (((a0.getD 0 [])).getD 3 .undef) λc19=>(V.asInt .i64 (((a0.getD 0 [])).getD 4 .undef) λc20=>(V.asInt .i64 (((a0.getD 0 [])).getD 5 .undef) λc21=>(V.asStr (((a0.getD 0 [])).getD 6 .undef) λc22=>(V.asStr (((a0.getD 0 [])).getD 7 .undef) λc23=>((z103.l0 a0 a0 (((a0).length:Nat):Int) (c16,c17,c18,c19,c20,c21,c22,c23,(1:Int))).bind λo32=>match o32 with | .inl p33=>(some 0) | .inr q34=>(some q34)))))))))) else none)) else ((z75.F c8).bind λr15=>(bif (!decide (r15.2.2.2=0)) then (some r15.2.2.2) else (if (0:Int)<=(0:Int)/\(0:Int)<(a0.length:Int) then (V.asInt .i64 (((a0.getD 0 [])).getD 0 .undef) λc24=>(V.asInt .i64 (((a0.getD 0 [])).getD 1 .undef) λc25=>(V.asInt .i64 (((a0.getD 0 [])).getD 2 .undef) λc26=>(V.asInt .i64 (((a0.getD 0 [])).getD 3 .undef) λc27=>(V.asInt .i64 (((a0.getD 0 [])).getD 4 .undef) λc28=>(V.asInt .i64 (((a0.getD 0 [])).getD 5 .undef) λc29=>(V.asStr (((a0.getD 0 [])).getD 6 .undef) λc30=>(V.asStr (((a0.getD 0 [])).getD 7 .undef) λc31=>((z103.l0a a0 a0 (((a0).length:Nat):Int) (c24,c25,c26,c27,c28,c29,c30,c31,(1:Int))).bind λo35=>match o35 with | .inl p36=>(some 0) | .inr q37=>(some q37)))))))))) else none)))))
def z103.j11 (j11:Bool) (c1 c2 c3 c4 c5 c6:Int) (c7:J1) (a0:J2) (c8:J1):Option (Int):=
 (bif j11 then (some 11) else ((z18.F c1 c2 c3 c4 c5 c6).bind λr12=>(bif (decide (r12>0)) then (some 12) else (z103.j13 c7 a0 c8))))
def z103.F (a0:J2):Option (Int):=
 (bif (decide ((0:Int)<(((a0).length:Nat):Int))) then (if (0:Int)<=(0:Int)/\(0:Int)<(a0.length:Int) then (V.asInt .i64 (((a0.getD 0 [])).getD 0 .undef) λc1=>(V.asInt .i64 (((a0.getD 0 [])).getD 1 .undef) λc2=>(V.asInt .i64 (((a0.getD 0 [])).getD 2 .undef) λc3=>(V.asInt .i64 (((a0.getD 0 [])).getD 3 .undef) λc4=>(V.asInt .i64 (((a0.getD 0 [])).getD 4 .undef) λc5=>(V.asInt .i64 (((a0.getD 0 [])).getD 5 .undef) λc6=>(V.asStr (((a0.getD 0 [])).getD 6 .undef) λc7=>(V.asStr (((a0.getD 0 [])).getD 7 .undef) λc8=>((z22.F c1 c2 c3).bind λr9=>(bif (!decide (r9=0)) then (z103.j11 true c1 c2 c3 c4 c5 c6 c7 a0 c8) else ((z22.F c4 c5 c6).bind λr10=>(z103.j11 (!decide (r10=0)) c1 c2 c3 c4 c5 c6 c7 a0 c8)))))))))))) else none) else (some 0))
def z103.pack:List V->Option Pack
 |[(.recs _ 8 a0)]=>some ⟨Int,z103.F a0,z8.enc⟩
 |_=>none
def z104.F (a0:Int):Option (Bool):=
 (bif (decide (a0>=0)) then (some (decide (a0<3))) else (some false))
def z104.pack:List V->Option Pack
 |[(.int .i64 a0)]=>some ⟨Bool,z104.F a0,z7.enc⟩
 |_=>none
def z105.F:Option ((List J1)):=
 (some [([116,104,105,114,116,121]:J1),([102,105,120,101,100]:J1),([97,99,116,117,97,108]:J1)])
def z105.enc (r:(List J1)):V:=(.strs false r)
def z105.pack:List V->Option Pack
 |[]=>some ⟨(List J1),z105.F,z105.enc⟩
 |_=>none
def z106.F (a0:Int):Option (J1):=
 ((z104.F a0).bind λr1=>(bif (!r1) then (some ([]:J1)) else (z105.F.bind λr2=>(if 0<=a0/\a0<(r2.length:Int) then (some (r2.getD (a0).toNat [])) else none))))
def z106.pack:List V->Option Pack
 |[(.int .i64 a0)]=>some ⟨J1,z106.F a0,z5.enc⟩
 |_=>none
def z107.F (a0:Int):Option (Bool):=
 ((z106.F a0).bind λr1=>(some (!decide (r1=([]:J1)))))
def z107.pack:List V->Option Pack
 |[(.int .i64 a0)]=>some ⟨Bool,z107.F a0,z7.enc⟩
 |_=>none
def z108.F (a0 a1:Int):Option (J0×Bool×J0):=
 ((z28.F a0).bind λr1=>((z28.F a1).bind λr2=>((z49.F r1.1 r1.2 r2.1 r2.2).bind λr3=>(some (r3.1,r3.2.1,r3.2.2.1)))))
def z108.pack:List V->Option Pack
 |[(.int .i64 a0),(.int .i64 a1)]=>some ⟨J0×Bool×J0,z108.F a0 a1,z29.enc⟩
 |_=>none
def z109.j6 (a3 a0 a4 a1 j6:Int):Option (J0×Bool×J0):=
 ((z108.F (wr .i64 ((wr .i64 ((wr .i64 ((wr .i64 ((360:Int)*(wr .i64 (a3-a0))))+(wr .i64 ((30:Int)*(wr .i64 (a4-a1))))))+j6))-30)) 360).bind λr7=>(some (r7.1,r7.2.1,r7.2.2)))
def z109.j9 (a3 a0 a4 a1 j9 a2:Int):Option (J0×Bool×J0):=
 ((z108.F (wr .i64 ((wr .i64 ((wr .i64 ((wr .i64 ((360:Int)*(wr .i64 (a3-a0))))+(wr .i64 ((30:Int)*(wr .i64 (a4-a1))))))+j9))-a2)) 360).bind λr10=>(some (r10.1,r10.2.1,r10.2.2)))
def z109.F (a0 a1 a2 a3 a4 a5:Int):Option (J0×Bool×J0):=
 (bif (decide (a2>30)) then (bif (decide (a5>30)) then (z109.j6 a3 a0 a4 a1 30) else (z109.j6 a3 a0 a4 a1 a5)) else (bif (decide (a5>30)) then (bif (decide (a2=30)) then (z109.j9 a3 a0 a4 a1 30 a2) else (z109.j9 a3 a0 a4 a1 a5 a2)) else (z109.j9 a3 a0 a4 a1 a5 a2)))
def z109.pack:List V->Option Pack
 |[(.agg [(.int .i64 a0),(.int .i64 a1),(.int .i64 a2)]),(.agg [(.int .i64 a3),(.int .i64 a4),(.int .i64 a5)])]=>some ⟨J0×Bool×J0,z109.F a0 a1 a2 a3 a4 a5,z29.enc⟩
 |_=>none
def z110.F (a0:Int):Option (Int):=
 (some (wr .i64 ((wr .i64 ((wr .i64 ((wr .i64 ((365:Int)*(wr .i64 (a0-1))))+(wr .i64 (Int.tdiv (wr .i64 (a0-1)) 4))))-(wr .i64 (Int.tdiv (wr .i64 (a0-1)) 100))))+(wr .i64 (Int.tdiv (wr .i64 (a0-1)) 400)))))
def z110.pack:List V->Option Pack
 |[(.int .i64 a0)]=>some ⟨Int,z110.F a0,z8.enc⟩
 |_=>none
def z111.l0P (a b:Int) {R:Type} (rec done:(Int×Int)->Option R):(Int×Int)->Option R:=λx=>match x with
 |(c,d)=>(bif (decide (d<b)) then ((z21.F a d).bind λe=>(rec ((wr .i64 (c+e)),(wr .i64 (d+1))))) else (done (c,d)))
def z111.l0 (a b:Int) (x:(Int×Int)):Option ((Int×Int)):=lfp (λrec x=>z111.l0P a b rec some x) x
def z111.F (a0 a1 a2:Int):Option (Int×Int):=
 ((z22.F a0 a1 a2).bind λr1=>(bif (!decide (r1=0)) then (some ((0:Int),r1)) else ((z110.F a0).bind λr2=>((z111.l0 a0 a1 (r2,(1:Int))).bind λo3=>(some ((wr .i64 (o3.1+a2)),(0:Int)))))))
def z111.pack:List V->Option Pack
 |[(.agg [(.int .i64 a0),(.int .i64 a1),(.int .i64 a2)])]=>some ⟨Int×Int,z111.F a0 a1 a2,z82.enc⟩
 |_=>none
def z112.F (a0 a1 a2 a3 a4 a5:Int):Option (Int×Int):=
 ((z111.F a0 a1 a2).bind λr1=>(bif (!decide (r1.2=0)) then (some ((0:Int),r1.2)) else ((z111.F a3 a4 a5).bind λr2=>(bif (!decide (r2.2=0)) then (some ((0:Int),r2.2)) else (some ((wr .i64 (r2.1-r1.1)),(0:Int)))))))
def z112.pack:List V->Option Pack
 |[(.agg [(.int .i64 a0),(.int .i64 a1),(.int .i64 a2)]),(.agg [(.int .i64 a3),(.int .i64 a4),(.int .i64 a5)])]=>some ⟨Int×Int,z112.F a0 a1 a2 a3 a4 a5,z82.enc⟩
 |_=>none
def z113.F (a0 a1 a2 a3 a4 a5:Int):Option (Int):=
 ((z112.F a0 a1 a2 a3 a4 a5).bind λr1=>(some r1.1))
def z113.pack:List V->Option Pack
 |[(.agg [(.int .i64 a0),(.int .i64 a1),(.int .i64 a2)]),(.agg [(.int .i64 a3),(.int .i64 a4),(.int .i64 a5)])]=>some ⟨Int,z113.F a0 a1 a2 a3 a4 a5,z8.enc⟩
 |_=>none
def z114.F (a0:Int):Option (Int):=
 ((z20.F a0).bind λr1=>(bif r1 then (some 366) else (some 365)))
def z114.pack:List V->Option Pack
 |[(.int .i64 a0)]=>some ⟨Int,z114.F a0,z8.enc⟩
 |_=>none
def z115.F (a0:J0) (a1:Bool) (a2 a3:J0) (a4:Bool) (a5:J0):Option (J0×Bool×J0):=
 ((z54.F a3 a4 a5).bind λr1=>((z51.F a0 a1 r1.1 r1.2).bind λr2=>((z54.F a0 a1 a2).bind λr3=>((z51.F a3 a4 r3.1 r3.2).bind λr4=>((z65.F r2.1 r2.2 r4.1 r4.2).bind λr5=>((z53.F a0 a1 a2).bind λr6=>((z53.F a3 a4 a5).bind λr7=>((z50.F r6 r7).bind λr8=>((z48.F r5.1 r5.2 r8).bind λr9=>(some (r9.1,r9.2.1,r9.2.2)))))))))))
def z115.pack:List V->Option Pack
 |[(.agg [(.ints _ .u64 a0),(.bool a1),(.ints _ .u64 a2)]),(.agg [(.ints _ .u64 a3),(.bool a4),(.ints _ .u64 a5)])]=>some ⟨J0×Bool×J0,z115.F a0 a1 a2 a3 a4 a5,z29.enc⟩
 |_=>none
def z116.F (a0 a1 a2 a3 a4 a5:Int):Option (J0×Bool×J0):=
 (bif (decide (a0=a3)) then ((z113.F a0 a1 a2 a3 a4 a5).bind λr1=>((z114.F a0).bind λr2=>((z108.F r1 r2).bind λr3=>(some (r3.1,r3.2.1,r3.2.2))))) else ((z113.F a0 a1 a2 a0 12 31).bind λr4=>((z113.F a3 1 1 a3 a4 a5).bind λr5=>((z114.F a0).bind λr6=>((z108.F (wr .i64 (r4+1)) r6).bind λr7=>((z108.F (wr .i64 ((wr .i64 (a3-a0))-1)) 1).bind λr8=>((z115.F r7.1 r7.2.1 r7.2.2 r8.1 r8.2.1 r8.2.2).bind λr9=>((z114.F a3).bind λr10=>((z108.F r5 r10).bind λr11=>((z115.F r9.1 r9.2.1 r9.2.2 r11.1 r11.2.1 r11.2.2).bind λr12=>(some (r12.1,r12.2.1,r12.2.2))))))))))))
def z116.pack:List V->Option Pack
 |[(.agg [(.int .i64 a0),(.int .i64 a1),(.int .i64 a2)]),(.agg [(.int .i64 a3),(.int .i64 a4),(.int .i64 a5)])]=>some ⟨J0×Bool×J0,z116.F a0 a1 a2 a3 a4 a5,z29.enc⟩
 |_=>none
def z117.j4 (j4:Bool) (a1 a2 a3 a4 a5 a6 a0:Int):Option (J0×Bool×J0×Int):=
 (bif j4 then (some ([],false,[],(11:Int))) else ((z18.F a1 a2 a3 a4 a5 a6).bind λr5=>(bif (decide (r5>0)) then (some ([],false,[],(12:Int))) else (bif (decide (a0=0)) then ((z109.F a1 a2 a3 a4 a5 a6).bind λr6=>(some (r6.1,r6.2.1,r6.2.2,(0:Int)))) else (bif (decide (a0=1)) then ((z113.F a1 a2 a3 a4 a5 a6).bind λr7=>((z108.F r7 365).bind λr8=>(some (r8.1,r8.2.1,r8.2.2,(0:Int))))) else ((z116.F a1 a2 a3 a4 a5 a6).bind λr9=>(some (r9.1,r9.2.1,r9.2.2,(0:Int)))))))))
def z117.F (a0 a1 a2 a3 a4 a5 a6:Int):Option (J0×Bool×J0×Int):=
 ((z104.F a0).bind λr1=>(bif (!r1) then (some ([],false,[],(2:Int))) else ((z22.F a1 a2 a3).bind λr2=>(bif (!decide (r2=0)) then (z117.j4 true a1 a2 a3 a4 a5 a6 a0) else ((z22.F a4 a5 a6).bind λr3=>(z117.j4 (!decide (r3=0)) a1 a2 a3 a4 a5 a6 a0))))))
def z117.pack:List V->Option Pack
 |[(.int .i64 a0),(.agg [(.int .i64 a1),(.int .i64 a2),(.int .i64 a3)]),(.agg [(.int .i64 a4),(.int .i64 a5),(.int .i64 a6)])]=>some ⟨J0×Bool×J0×Int,z117.F a0 a1 a2 a3 a4 a5 a6,z49.enc⟩
 |_=>none
def z118.F (a0 a1 a2 a3 a4 a5:Int):Option (Int×Int×Int):=
 ((z18.F a0 a1 a2 a3 a4 a5).bind λr1=>(bif (decide (r1<0)) then (some (a0,a1,a2)) else (some (a3,a4,a5))))
def z118.pack:List V->Option Pack
 |[(.agg [(.int .i64 a0),(.int .i64 a1),(.int .i64 a2)]),(.agg [(.int .i64 a3),(.int .i64 a4),(.int .i64 a5)])]=>some ⟨Int×Int×Int,z118.F a0 a1 a2 a3 a4 a5,z14.enc⟩
 |_=>none
def z119.l0P (a:Int) (b:J2) (c d e g:Int) {R:Type} (rec done:(Int×J0×Bool×J0)->Option R):(Int×J0×Bool×J0)->Option R:=λx=>match x with
 |(h,j,k,m)=>(bif (decide (h<c)) then (if 0<=h/\h<(b.length:Int) then (V.asInt .i64 (((b.getD (h).toNat [])).getD 0 .undef) λn=>(V.asInt .i64 (((b.getD (h).toNat [])).getD 1 .undef) λo=>(V.asInt .i64 (((b.getD (h).toNat [])).getD 2 .undef) λp=>(V.asInt .i64 (((b.getD (h).toNat [])).getD 3 .undef) λq=>(V.asInt .i64 (((b.getD (h).toNat [])).getD 4 .undef) λr=>(V.asInt .i64 (((b.getD (h).toNat [])).getD 5 .undef) λs=>(V.asStr (((b.getD (h).toNat [])).getD 6 .undef) λt=>(V.asStr (((b.getD (h).toNat [])).getD 7 .undef) λu=>((z18.F n o p d e g).bind λv=>(bif (decide (v>=0)) then (done (h,j,k,m)) else ((z78.F t).bind λw=>((z75.F u).bind λy=>((z118.F q r s d e g).bind λz=>((z117.F a n o p z.1 z.2.1 z.2.2).bind λA=>((z29.F w.1 w.2.1).bind λB=>((z86.F B.1 B.2.1 B.2.2 y.1 y.2.1 y.2.2.1).bind λC=>((z86.F C.1 C.2.1 C.2.2 A.1 A.2.1 A.2.2.1).bind λD=>((z115.F j k m D.1 D.2.1 D.2.2).bind λE=>(rec ((wr .i64 (h+1)),E.1,E.2.1,E.2.2)))))))))))))))))))) else none) else (done (h,j,k,m)))
def z119.l0 (a:Int) (b:J2) (c d e g:Int) (x:(Int×J0×Bool×J0)):Option ((Int×J0×Bool×J0)):=lfp (λrec x=>z119.l0P a b c d e g rec some x) x
def z119.F (a0:Int) (a1:J2) (a2 a3 a4:Int):Option (J0×Bool×J0):=
 ((z119.l0 a0 a1 (((a1).length:Nat):Int) a2 a3 a4 ((0:Int),[],false,[])).bind λo1=>(some (o1.2.1,o1.2.2.1,o1.2.2.2)))
def z119.pack:List V->Option Pack
 |[(.int .i64 a0),(.recs _ 8 a1),(.agg [(.int .i64 a2),(.int .i64 a3),(.int .i64 a4)])]=>some ⟨J0×Bool×J0,z119.F a0 a1 a2 a3 a4,z29.enc⟩
 |_=>none
def z120.F (a0:Int) (a1:J2) (a2 a3 a4:Int):Option (J0×Bool×J0×Int):=
 ((z103.F a1).bind λr1=>(bif (!decide (r1=0)) then (some ([],false,[],r1)) else ((z22.F a2 a3 a4).bind λr2=>(bif (!decide (r2=0)) then (some ([],false,[],(11:Int))) else ((z107.F a0).bind λr3=>(bif (!r3) then (some ([],false,[],(2:Int))) else ((z119.F a0 a1 a2 a3 a4).bind λr4=>(some (r4.1,r4.2.1,r4.2.2,(0:Int))))))))))
def z120.pack:List V->Option Pack
 |[(.int .i64 a0),(.recs _ 8 a1),(.agg [(.int .i64 a2),(.int .i64 a3),(.int .i64 a4)])]=>some ⟨J0×Bool×J0×Int,z120.F a0 a1 a2 a3 a4,z49.enc⟩
 |_=>none
def z121.F (a0 a1:Int) (a2:J2) (a3 a4 a5:Int):Option (J0×Bool×Int):=
 ((z120.F a0 a2 a3 a4 a5).bind λr1=>(bif (!decide (r1.2.2.2=0)) then (some ([],false,r1.2.2.2)) else ((z96.F r1.1 r1.2.1 r1.2.2.1 a1).bind λr2=>(some (r2.1,r2.2.1,r2.2.2)))))
def z121.pack:List V->Option Pack
 |[(.int .i64 a0),(.int .i64 a1),(.recs _ 8 a2),(.agg [(.int .i64 a3),(.int .i64 a4),(.int .i64 a5)])]=>some ⟨J0×Bool×Int,z121.F a0 a1 a2 a3 a4 a5,z76.enc⟩
 |_=>none
def z122.F (a0 a1:J1) (a2 a3 a4 a5 a6 a7 a8 a9:Int) (a10:J0) (a11:Bool) (a12:J1) (a13:J0) (a14:Bool) (a15:J2) (a16 a17 a18 a19 a20 a21:Int) (a22:J2) (a23:Bool):Option (J1×J1×Int×Int×Int×Int×Int×Int×Int×Int×J0×Bool×J1×J0×Bool×J2):=
 ((z121.F a3 a4 a22 a19 a20 a21).bind λr1=>((z102.F a0 a1 a2 a3 a4 a5 a6 a7 a8 a9 a10 a11 a12 a13 a14 a15 r1.1 r1.2.1 a23).bind λr2=>((z66.F r2.2.2.2.2.2.2.2.2.2.2.2.2.1 r2.2.2.2.2.2.2.2.2.2.2.2.2.2.1 r2.1 r2.2.1).bind λr3=>((z85.F r2.2.2.2.2.2.2.2.2.2.2.2.2.1 r2.2.2.2.2.2.2.2.2.2.2.2.2.2.1).bind λr4=>((z85.F r1.1 r1.2.1).bind λr5=>((z85.F r2.1 r2.2.1).bind λr6=>((z65.F r1.1 r1.2.1 r2.1 r2.2.1).bind λr7=>((z85.F r7.1 r7.2).bind λr8=>((z85.F r3.1 r3.2).bind λr9=>(if ((r2.2.2.2.2.2.2.2.2.2.2.2.2.2.2.2.2.2).length+(([[(.int .i64 a19),(.int .i64 a20),(.int .i64 a21),(.str r4),(.str r5),(.str r6),(.str r8),(.str r9)]]:J2)).length)*104<=140737488355328 then (some (r2.2.2.1,r2.2.2.2.1,r2.2.2.2.2.1,r2.2.2.2.2.2.1,r2.2.2.2.2.2.2.1,r2.2.2.2.2.2.2.2.1,r2.2.2.2.2.2.2.2.2.1,r2.2.2.2.2.2.2.2.2.2.1,r2.2.2.2.2.2.2.2.2.2.2.1,r2.2.2.2.2.2.2.2.2.2.2.2.1,r3.1,r3.2,r2.2.2.2.2.2.2.2.2.2.2.2.2.2.2.1,r2.2.2.2.2.2.2.2.2.2.2.2.2.2.2.2.1,r2.2.2.2.2.2.2.2.2.2.2.2.2.2.2.2.2.1,(r2.2.2.2.2.2.2.2.2.2.2.2.2.2.2.2.2.2++([[(.int .i64 a19),(.int .i64 a20),(.int .i64 a21),(.str r4),(.str r5),(.str r6),(.str r8),(.str r9)]]:J2)))) else none))))))))))
def z122.enc (r:J1×J1×Int×Int×Int×Int×Int×Int×Int×Int×J0×Bool×J1×J0×Bool×J2):V:=(.tup [])
def z122.encC (r:J1×J1×Int×Int×Int×Int×Int×Int×Int×Int×J0×Bool×J1×J0×Bool×J2):List V:=[(.str r.1),(.str r.2.1),(.int .i64 r.2.2.1),(.int .i64 r.2.2.2.1),(.int .i64 r.2.2.2.2.1),(.int .i64 r.2.2.2.2.2.1),(.int .i64 r.2.2.2.2.2.2.1),(.int .i64 r.2.2.2.2.2.2.2.1),(.int .i64 r.2.2.2.2.2.2.2.2.1),(.int .i64 r.2.2.2.2.2.2.2.2.2.1),(.ints false .u64 r.2.2.2.2.2.2.2.2.2.2.1),(.bool r.2.2.2.2.2.2.2.2.2.2.2.1),(.str r.2.2.2.2.2.2.2.2.2.2.2.2.1),(.ints false .u64 r.2.2.2.2.2.2.2.2.2.2.2.2.2.1),(.bool r.2.2.2.2.2.2.2.2.2.2.2.2.2.2.1)]
def z122.encR (r:J1×J1×Int×Int×Int×Int×Int×Int×Int×Int×J0×Bool×J1×J0×Bool×J2):V:=(.recs false 8 r.2.2.2.2.2.2.2.2.2.2.2.2.2.2.2)
def z122.pk:List V->V->List V->Option Qct
 |[(.str a0),(.str a1),(.int .i64 a2),(.int .i64 a3),(.int .i64 a4),(.int .i64 a5),(.int .i64 a6),(.int .i64 a7),(.int .i64 a8),(.int .i64 a9),(.ints _ .u64 a10),(.bool a11),(.str a12),(.ints _ .u64 a13),(.bool a14)],(.recs _ 8 a15),[(.agg [(.int .i64 a16),(.int .i64 a17),(.int .i64 a18),(.int .i64 a19),(.int .i64 a20),(.int .i64 a21)]),(.recs _ 8 a22),(.bool a23)]=>some ⟨J1×J1×Int×Int×Int×Int×Int×Int×Int×Int×J0×Bool×J1×J0×Bool×J2,z122.F a0 a1 a2 a3 a4 a5 a6 a7 a8 a9 a10 a11 a12 a13 a14 a15 a16 a17 a18 a19 a20 a21 a22 a23,z122.enc,z122.encC,z122.encR⟩
 |_,_,_=>none
def z123.F:Option ((List J1)):=
 (some [([97,110,110,117,105,116,121]:J1),([108,105,110,101,97,114]:J1),([98,117,108,108,101,116]:J1)])
def z123.pack:List V->Option Pack
 |[]=>some ⟨(List J1),z123.F,z105.enc⟩
 |_=>none
def z124.j1 (a0:Int):Option (J1):=
 (z123.F.bind λr2=>(if 0<=a0/\a0<(r2.length:Int) then (some (r2.getD (a0).toNat [])) else none))
def z124.F (a0:Int):Option (J1):=
 (bif (decide (a0<0)) then (some ([]:J1)) else (bif (decide (a0>=3)) then (some ([]:J1)) else (z124.j1 a0)))
def z124.pack:List V->Option Pack
 |[(.int .i64 a0)]=>some ⟨J1,z124.F a0,z5.enc⟩
 |_=>none
def z125.F:Option ((List J1)):=
 (some [([100,111,119,110]:J1),([117,112]:J1),([104,97,108,102,45,117,112]:J1),([104,97,108,102,45,100,111,119,110]:J1),([104,97,108,102,45,101,118,101,110]:J1)])
def z125.pack:List V->Option Pack
 |[]=>some ⟨(List J1),z125.F,z105.enc⟩
 |_=>none
def z126.F (a0:Int):Option (J1):=
 ((z94.F a0).bind λr1=>(bif (!r1) then (some ([]:J1)) else (z125.F.bind λr2=>(if 0<=a0/\a0<(r2.length:Int) then (some (r2.getD (a0).toNat [])) else none))))
def z126.pack:List V->Option Pack
 |[(.int .i64 a0)]=>some ⟨J1,z126.F a0,z5.enc⟩
 |_=>none
def z127.F (a0 a1:J1) (a2 a3 a4 a5 a6 a7 a8 a9:Int):Option (Bool):=
 ((z124.F a2).bind λr1=>(bif (decide (r1=([]:J1))) then (some true) else ((z106.F a3).bind λr2=>(bif (decide (r2=([]:J1))) then (some true) else ((z126.F a4).bind λr3=>(bif (decide (r3=([]:J1))) then (some true) else (bif (decide (a8<1)) then (some true) else (bif (decide (a8=5)) then (some true) else (if a8=0 then none else (some (!decide ((Int.tmod 12 a8)=0))))))))))))
def z127.pack:List V->Option Pack
 |[(.agg [(.str a0),(.str a1),(.int .i64 a2),(.int .i64 a3),(.int .i64 a4),(.int .i64 a5),(.int .i64 a6),(.int .i64 a7),(.int .i64 a8),(.int .i64 a9)])]=>some ⟨Bool,z127.F a0 a1 a2 a3 a4 a5 a6 a7 a8 a9,z7.enc⟩
 |_=>none
def z128.j3 (a0 a1 a3 a2:Int):Option (Int×Int×Int×Int):=
 ((z21.F (wr .i64 (Int.tdiv (wr .i64 ((wr .i64 ((wr .i64 ((wr .i64 ((12:Int)*a0))+a1))-1))+a3)) 12)) (wr .i64 ((Int.tmod (wr .i64 ((wr .i64 ((wr .i64 ((wr .i64 ((12:Int)*a0))+a1))-1))+a3)) 12)+1))).bind λr4=>(some ((wr .i64 (Int.tdiv (wr .i64 ((wr .i64 ((wr .i64 ((wr .i64 ((12:Int)*a0))+a1))-1))+a3)) 12)),(wr .i64 ((Int.tmod (wr .i64 ((wr .i64 ((wr .i64 ((wr .i64 ((12:Int)*a0))+a1))-1))+a3)) 12)+1)),(if r4<a2 then r4 else a2),(0:Int))))
def z128.j2 (a0 a1 a3 a2:Int):Option (Int×Int×Int×Int):=
 (bif (decide ((wr .i64 ((wr .i64 ((wr .i64 ((wr .i64 ((12:Int)*a0))+a1))-1))+a3))<12)) then (some ((0:Int),(0:Int),(0:Int),(11:Int))) else (bif (decide ((wr .i64 (Int.tdiv (wr .i64 ((wr .i64 ((wr .i64 ((wr .i64 ((12:Int)*a0))+a1))-1))+a3)) 12))>9999)) then (some ((0:Int),(0:Int),(0:Int),(11:Int))) else (z128.j3 a0 a1 a3 a2)))
def z128.F (a0 a1 a2 a3:Int):Option (Int×Int×Int×Int):=
 ((z22.F a0 a1 a2).bind λr1=>(bif (!decide (r1=0)) then (some ((0:Int),(0:Int),(0:Int),r1)) else (bif (decide (a3<(-119988:Int))) then (some ((0:Int),(0:Int),(0:Int),(11:Int))) else (bif (decide (a3>119988)) then (some ((0:Int),(0:Int),(0:Int),(11:Int))) else (z128.j2 a0 a1 a3 a2)))))
def z128.enc (r:Int×Int×Int×Int):V:=(.tup [(.agg [(.int .i64 r.1),(.int .i64 r.2.1),(.int .i64 r.2.2.1)]),(.int .i64 r.2.2.2)])
def z128.pack:List V->Option Pack
 |[(.agg [(.int .i64 a0),(.int .i64 a1),(.int .i64 a2)]),(.int .i64 a3)]=>some ⟨Int×Int×Int×Int,z128.F a0 a1 a2 a3,z128.enc⟩
 |_=>none
def z129.F (a0 a1:J1) (a2 a3 a4 a5 a6 a7 a8 a9:Int):Option (Int):=
 ((z78.F a0).bind λr1=>(bif (!decide (r1.2.2=0)) then (some r1.2.2) else ((z24.F r1.1 r1.2.1).bind λr2=>(bif (decide (r2=0)) then (some 19) else ((z75.F a1).bind λr3=>(bif (!decide (r3.2.2.2=0)) then (some r3.2.2.2) else ((z127.F a0 a1 a2 a3 a4 a5 a6 a7 a8 a9).bind λr4=>(bif r4 then (some 2) else (bif (decide (a9<1)) then (some 6) else (bif (decide (a9>1200)) then (some 6) else ((z128.F a5 a6 a7 (wr .i64 (a8*a9))).bind λr8=>(some r8.2.2.2))))))))))))
def z129.pack:List V->Option Pack
 |[(.agg [(.str a0),(.str a1),(.int .i64 a2),(.int .i64 a3),(.int .i64 a4),(.int .i64 a5),(.int .i64 a6),(.int .i64 a7),(.int .i64 a8),(.int .i64 a9)])]=>some ⟨Int,z129.F a0 a1 a2 a3 a4 a5 a6 a7 a8 a9,z8.enc⟩
 |_=>none
def z130.l0P (a b c d e:Int) {R:Type} (rec:(Int×J2)->Option R) (done:((Int×J2)⊕(J2×Int×J2))->Option R):(Int×J2)->Option R:=λx=>match x with
 |(g,h)=>(bif (decide (g<=b)) then ((z128.F c d e (wr .i64 (g*(if 119989<a then 119989 else a)))).bind λj=>(bif (!decide (j.2.2.2=0)) then (done (.inr ([],j.2.2.2,h))) else (if ((h).length+(([[(.int .i64 j.1),(.int .i64 j.2.1),(.int .i64 j.2.2.1)]]:J2)).length)*24<=140737488355328 then (rec ((wr .i64 (g+1)),(h++([[(.int .i64 j.1),(.int .i64 j.2.1),(.int .i64 j.2.2.1)]]:J2)))) else none))) else (done (.inl (g,h))))
def z130.l0 (a b c d e:Int) (x:(Int×J2)):Option (((Int×J2)⊕(J2×Int×J2))):=lfp (λrec x=>z130.l0P a b c d e rec some x) x
def z130.j1 (a0 a1 a2 a3 a4:Int):Option (J2×Int):=
 ((z22.F a0 a1 a2).bind λr2=>(bif (!decide (r2=0)) then (some ([],r2)) else ((z130.l0 a3 a4 a0 a1 a2 ((1:Int),[])).bind λo3=>match o3 with | .inl p4=>(some (p4.2,(0:Int))) | .inr q5=>(some (q5.1,q5.2.1)))))
def z130.F (a0 a1 a2 a3 a4:Int):Option (J2×Int):=
 (bif (decide (a3<1)) then (some ([],(2:Int))) else (bif (decide (a4<0)) then (some ([],(2:Int))) else (bif (decide (a4>1200)) then (some ([],(2:Int))) else (z130.j1 a0 a1 a2 a3 a4))))
def z130.enc (r:J2×Int):V:=(.tup [(.recs false 3 r.1),(.int .i64 r.2)])
def z130.pack:List V->Option Pack
 |[(.agg [(.int .i64 a0),(.int .i64 a1),(.int .i64 a2)]),(.int .i64 a3),(.int .i64 a4)]=>some ⟨J2×Int,z130.F a0 a1 a2 a3 a4,z130.enc⟩
 |_=>none
def z131.F (a0 a1:J1) (a2 a3 a4 a5 a6 a7 a8 a9:Int):Option (J2×Int):=
 ((z129.F a0 a1 a2 a3 a4 a5 a6 a7 a8 a9).bind λr1=>(bif (!decide (r1=0)) then (some ([],r1)) else ((z130.F a5 a6 a7 a8 a9).bind λr2=>(some (r2.1,r2.2)))))
def z131.pack:List V->Option Pack
 |[(.agg [(.str a0),(.str a1),(.int .i64 a2),(.int .i64 a3),(.int .i64 a4),(.int .i64 a5),(.int .i64 a6),(.int .i64 a7),(.int .i64 a8),(.int .i64 a9)])]=>some ⟨J2×Int,z131.F a0 a1 a2 a3 a4 a5 a6 a7 a8 a9,z130.enc⟩
 |_=>none
def z132.l0P (a:J2) (b:Int) {R:Type} (rec done:(Int×J2×Int×Int×Int)->Option R):(Int×J2×Int×Int×Int)->Option R:=λx=>match x with
 |(c,d,e,g,h)=>(bif (decide (c<b)) then (if 0<=c/\c<(a.length:Int) then (V.asInt .i64 (((a.getD (c).toNat [])).getD 0 .undef) λj=>(V.asInt .i64 (((a.getD (c).toNat [])).getD 1 .undef) λk=>(V.asInt .i64 (((a.getD (c).toNat [])).getD 2 .undef) λm=>(if ((d).length+(([[(.int .i64 e),(.int .i64 g),(.int .i64 h),(.int .i64 j),(.int .i64 k),(.int .i64 m)]]:J2)).length)*48<=140737488355328 then (rec ((wr .i64 (c+1)),(d++([[(.int .i64 e),(.int .i64 g),(.int .i64 h),(.int .i64 j),(.int .i64 k),(.int .i64 m)]]:J2)),j,k,m)) else none)))) else none) else (done (c,d,e,g,h)))
def z132.l0 (a:J2) (b:Int) (x:(Int×J2×Int×Int×Int)):Option ((Int×J2×Int×Int×Int)):=lfp (λrec x=>z132.l0P a b rec some x) x
def z132.F (a0 a1:J1) (a2 a3 a4 a5 a6 a7 a8 a9:Int):Option (J2×Int):=
 ((z131.F a0 a1 a2 a3 a4 a5 a6 a7 a8 a9).bind λr1=>(bif (!decide (r1.2=0)) then (some ([],r1.2)) else ((z132.l0 r1.1 (((r1.1).length:Nat):Int) ((0:Int),[],a5,a6,a7)).bind λo2=>(some (o2.2.1,(0:Int))))))
def z132.enc (r:J2×Int):V:=(.tup [(.recs false 6 r.1),(.int .i64 r.2)])
def z132.pack:List V->Option Pack
 |[(.agg [(.str a0),(.str a1),(.int .i64 a2),(.int .i64 a3),(.int .i64 a4),(.int .i64 a5),(.int .i64 a6),(.int .i64 a7),(.int .i64 a8),(.int .i64 a9)])]=>some ⟨J2×Int,z132.F a0 a1 a2 a3 a4 a5 a6 a7 a8 a9,z132.enc⟩
 |_=>none
def z133.l0P (a:J2) (b c d e g h j:Int) {R:Type} (rec:Int->Option R) (done:((Int)⊕(Int×Int))->Option R):Int->Option R:=λk=>(bif (decide (k<b)) then (if 0<=k/\k<(a.length:Int) then (V.asInt .i64 (((a.getD (k).toNat [])).getD 0 .undef) λm=>(V.asInt .i64 (((a.getD (k).toNat [])).getD 1 .undef) λn=>(V.asInt .i64 (((a.getD (k).toNat [])).getD 2 .undef) λo=>(V.asInt .i64 (((a.getD (k).toNat [])).getD 3 .undef) λp=>(V.asStr (((a.getD (k).toNat [])).getD 4 .undef) λq=>(bif (!decide (m=1)) then (bif (!decide (m=2)) then (done (.inr (k,(2:Int)))) else ((z18.F n o p c d e).bind λr=>(bif (decide (r<0)) then (done (.inr (k,(12:Int)))) else ((z18.F n o p g h j).bind λs=>(bif (decide (s>=0)) then (done (.inr (k,(17:Int)))) else (rec (wr .i64 (k+1)))))))) else ((z18.F n o p c d e).bind λt=>(bif (decide (t<0)) then (done (.inr (k,(12:Int)))) else ((z18.F n o p g h j).bind λu=>(bif (decide (u>=0)) then (done (.inr (k,(17:Int)))) else (rec (wr .i64 (k+1))))))))))))) else none) else (done (.inl k)))
def z133.l0 (a:J2) (b c d e g h j x:Int):Option (((Int)⊕(Int×Int))):=lfp (λrec x=>z133.l0P a b c d e g h j rec some x) x
def z133.F (a0 a1:J1) (a2 a3 a4 a5 a6 a7 a8 a9 a10 a11 a12:Int) (a13:J2):Option (Int×Int):=
 ((z133.l0 a13 (((a13).length:Nat):Int) a5 a6 a7 a10 a11 a12 0).bind λo1=>match o1 with | .inl p2=>(some ((0:Int),(0:Int))) | .inr q3=>(some (q3.1,q3.2)))
def z133.pack:List V->Option Pack
 |[(.agg [(.str a0),(.str a1),(.int .i64 a2),(.int .i64 a3),(.int .i64 a4),(.int .i64 a5),(.int .i64 a6),(.int .i64 a7),(.int .i64 a8),(.int .i64 a9)]),(.agg [(.int .i64 a10),(.int .i64 a11),(.int .i64 a12)]),(.recs _ 5 a13)]=>some ⟨Int×Int,z133.F a0 a1 a2 a3 a4 a5 a6 a7 a8 a9 a10 a11 a12 a13,z82.enc⟩
 |_=>none
def z134.l0aP (a:Int) (b:J2) (c d e g:Int) {R:Type} (rec:(J2×Int×Int×J2×J1×J1×Int×Int×Int×Int×Int×Int×Int×Int×J0×Bool×J1×J0×Bool)->Option R) (done:((J2×Int×Int×J2×J1×J1×Int×Int×Int×Int×Int×Int×Int×Int×J0×Bool×J1×J0×Bool)⊕(Int×Int×J2×J1×J1×Int×Int×Int×Int×Int×Int×Int×Int×J0×Bool×J1×J0×Bool))->Option R):(J2×Int×Int×J2×J1×J1×Int×Int×Int×Int×Int×Int×Int×Int×J0×Bool×J1×J0×Bool)->Option R:=λx=>match x with
 |(h,j,k,m,n,o,p,q,r,s,t,u,v,w,y,z,A,B,C)=>(bif (decide (k<c)) then (if 0<=k/\k<(b.length:Int) then (V.asInt .i64 (((b.getD (k).toNat [])).getD 0 .undef) λD=>(V.asInt .i64 (((b.getD (k).toNat [])).getD 1 .undef) λE=>(V.asInt .i64 (((b.getD (k).toNat [])).getD 2 .undef) λG=>(V.asInt .i64 (((b.getD (k).toNat [])).getD 3 .undef) λH=>(V.asStr (((b.getD (k).toNat [])).getD 4 .undef) λI=>((z18.F E G H d e g).bind λJ=>(bif (decide (J>=0)) then (done (.inl (h,j,k,m,n,o,p,q,r,s,t,u,v,w,y,z,A,B,C))) else ((z101.F n o p q r s t u v w y z A B C m D E G H I h a).bind λK=>(bif (!decide (K.2.1=0)) then (done (.inr (j,K.2.1,K.2.2.2.2.2.2.2.2.2.2.2.2.2.2.2.2.2,K.2.2.1,K.2.2.2.1,K.2.2.2.2.1,K.2.2.2.2.2.1,K.2.2.2.2.2.2.1,K.2.2.2.2.2.2.2.1,K.2.2.2.2.2.2.2.2.1,K.2.2.2.2.2.2.2.2.2.1,K.2.2.2.2.2.2.2.2.2.2.1,K.2.2.2.2.2.2.2.2.2.2.2.1,K.2.2.2.2.2.2.2.2.2.2.2.2.1,K.2.2.2.2.2.2.2.2.2.2.2.2.2.1,K.2.2.2.2.2.2.2.2.2.2.2.2.2.2.1,K.2.2.2.2.2.2.2.2.2.2.2.2.2.2.2.1,K.2.2.2.2.2.2.2.2.2.2.2.2.2.2.2.2.1))) else (rec (K.1,(wr .i64 (j+1)),(wr .i64 (k+1)),K.2.2.2.2.2.2.2.2.2.2.2.2.2.2.2.2.2,K.2.2.1,K.2.2.2.1,K.2.2.2.2.1,K.2.2.2.2.2.1,K.2.2.2.2.2.2.1,K.2.2.2.2.2.2.2.1,K.2.2.2.2.2.2.2.2.1,K.2.2.2.2.2.2.2.2.2.1,K.2.2.2.2.2.2.2.2.2.2.1,K.2.2.2.2.2.2.2.2.2.2.2.1,K.2.2.2.2.2.2.2.2.2.2.2.2.1,K.2.2.2.2.2.2.2.2.2.2.2.2.2.1,K.2.2.2.2.2.2.2.2.2.2.2.2.2.2.1,K.2.2.2.2.2.2.2.2.2.2.2.2.2.2.2.1,K.2.2.2.2.2.2.2.2.2.2.2.2.2.2.2.2.1))))))))))) else none) else (done (.inl (h,j,k,m,n,o,p,q,r,s,t,u,v,w,y,z,A,B,C))))
def z134.l0a (a:Int) (b:J2) (c d e g:Int) (x:(J2×Int×Int×J2×J1×J1×Int×Int×Int×Int×Int×Int×Int×Int×J0×Bool×J1×J0×Bool)):Option (((J2×Int×Int×J2×J1×J1×Int×Int×Int×Int×Int×Int×Int×Int×J0×Bool×J1×J0×Bool)⊕(Int×Int×J2×J1×J1×Int×Int×Int×Int×Int×Int×Int×Int×J0×Bool×J1×J0×Bool))):=lfp (λrec x=>z134.l0aP a b c d e g rec some x) x
def z134.l0P (a b c:J2) (d:Int) {R:Type} (rec:(Int×Int×J2×J1×J1×Int×Int×Int×Int×Int×Int×Int×Int×J0×Bool×J1×J0×Bool)->Option R) (done:((Int×Int×J2×J1×J1×Int×Int×Int×Int×Int×Int×Int×Int×J0×Bool×J1×J0×Bool)⊕(J2×Int×Int×J2×J1×J1×Int×Int×Int×Int×Int×Int×Int×Int×J0×Bool×J1×J0×Bool))->Option R):(Int×Int×J2×J1×J1×Int×Int×Int×Int×Int×Int×Int×Int×J0×Bool×J1×J0×Bool)->Option R:=λx=>match x with
 |(e,g,h,j,k,m,n,o,p,q,r,s,t,u,v,w,y,z)=>(bif (decide (g<d)) then (if 0<=g/\g<(c.length:Int) then (V.asInt .i64 (((c.getD (g).toNat [])).getD 0 .undef) λA=>(V.asInt .i64 (((c.getD (g).toNat [])).getD 1 .undef) λB=>(V.asInt .i64 (((c.getD (g).toNat [])).getD 2 .undef) λC=>(V.asInt .i64 (((c.getD (g).toNat [])).getD 3 .undef) λD=>(V.asInt .i64 (((c.getD (g).toNat [])).getD 4 .undef) λE=>(V.asInt .i64 (((c.getD (g).toNat [])).getD 5 .undef) λG=>(if 0<=e/\e<=(a.length:Int) then ((z85.F u v).bind λH=>((z134.l0a (wr .i64 ((((b).length:Nat):Int)-g)) (a.drop (e).toNat) ((((a.drop (e).toNat)).length:Nat):Int) D E G (([[(.int .i64 A),(.int .i64 B),(.int .i64 C),(.int .i64 D),(.int .i64 E),(.int .i64 G),(.str H),(.str w)]]:J2),(0:Int),(0:Int),h,j,k,m,n,o,p,q,r,s,t,u,v,w,y,z)).bind λI=>match I with | .inl J=>((z122.F J.2.2.2.2.1 J.2.2.2.2.2.1 J.2.2.2.2.2.2.1 J.2.2.2.2.2.2.2.1 J.2.2.2.2.2.2.2.2.1 J.2.2.2.2.2.2.2.2.2.1 J.2.2.2.2.2.2.2.2.2.2.1 J.2.2.2.2.2.2.2.2.2.2.2.1 J.2.2.2.2.2.2.2.2.2.2.2.2.1 J.2.2.2.2.2.2.2.2.2.2.2.2.2.1 J.2.2.2.2.2.2.2.2.2.2.2.2.2.2.1 J.2.2.2.2.2.2.2.2.2.2.2.2.2.2.2.1 J.2.2.2.2.2.2.2.2.2.2.2.2.2.2.2.2.1 J.2.2.2.2.2.2.2.2.2.2.2.2.2.2.2.2.2.1 J.2.2.2.2.2.2.2.2.2.2.2.2.2.2.2.2.2.2 J.2.2.2.1 A B C D E G J.1 (decide ((wr .i64 ((((b).length:Nat):Int)-g))=1))).bind λK=>(rec ((wr .i64 (e+J.2.1)),(wr .i64 (g+1)),K.2.2.2.2.2.2.2.2.2.2.2.2.2.2.2,K.1,K.2.1,K.2.2.1,K.2.2.2.1,K.2.2.2.2.1,K.2.2.2.2.2.1,K.2.2.2.2.2.2.1,K.2.2.2.2.2.2.2.1,K.2.2.2.2.2.2.2.2.1,K.2.2.2.2.2.2.2.2.2.1,K.2.2.2.2.2.2.2.2.2.2.1,K.2.2.2.2.2.2.2.2.2.2.2.1,K.2.2.2.2.2.2.2.2.2.2.2.2.1,K.2.2.2.2.2.2.2.2.2.2.2.2.2.1,K.2.2.2.2.2.2.2.2.2.2.2.2.2.2.1))) | .inr L=>(bif (!decide (L.2.1=0)) then (done (.inr ([],(wr .i64 (e+L.1)),L.2.1,L.2.2.1,L.2.2.2.1,L.2.2.2.2.1,L.2.2.2.2.2.1,L.2.2.2.2.2.2.1,L.2.2.2.2.2.2.2.1,L.2.2.2.2.2.2.2.2.1,L.2.2.2.2.2.2.2.2.2.1,L.2.2.2.2.2.2.2.2.2.2.1,L.2.2.2.2.2.2.2.2.2.2.2.1,L.2.2.2.2.2.2.2.2.2.2.2.2.1,L.2.2.2.2.2.2.2.2.2.2.2.2.2.1,L.2.2.2.2.2.2.2.2.2.2.2.2.2.2.1,L.2.2.2.2.2.2.2.2.2.2.2.2.2.2.2.1,L.2.2.2.2.2.2.2.2.2.2.2.2.2.2.2.2.1,L.2.2.2.2.2.2.2.2.2.2.2.2.2.2.2.2.2))) else (rec ((wr .i64 (e+L.1)),(wr .i64 (g+1)),L.2.2.1,L.2.2.2.1,L.2.2.2.2.1,L.2.2.2.2.2.1,L.2.2.2.2.2.2.1,L.2.2.2.2.2.2.2.1,L.2.2.2.2.2.2.2.2.1,L.2.2.2.2.2.2.2.2.2.1,L.2.2.2.2.2.2.2.2.2.2.1,L.2.2.2.2.2.2.2.2.2.2.2.1,L.2.2.2.2.2.2.2.2.2.2.2.2.1,L.2.2.2.2.2.2.2.2.2.2.2.2.2.1,L.2.2.2.2.2.2.2.2.2.2.2.2.2.2.1,L.2.2.2.2.2.2.2.2.2.2.2.2.2.2.2.1,L.2.2.2.2.2.2.2.2.2.2.2.2.2.2.2.2.1,L.2.2.2.2.2.2.2.2.2.2.2.2.2.2.2.2.2))))) else none))))))) else none) else (done (.inl (e,g,h,j,k,m,n,o,p,q,r,s,t,u,v,w,y,z))))
def z134.l0 (a b c:J2) (d:Int) (x:(Int×Int×J2×J1×J1×Int×Int×Int×Int×Int×Int×Int×Int×J0×Bool×J1×J0×Bool)):Option (((Int×Int×J2×J1×J1×Int×Int×Int×Int×Int×Int×Int×Int×J0×Bool×J1×J0×Bool)⊕(J2×Int×Int×J2×J1×J1×Int×Int×Int×Int×Int×Int×Int×Int×J0×Bool×J1×J0×Bool))):=lfp (λrec x=>z134.l0P a b c d rec some x) x
def z134.F (a0 a1:J1) (a2 a3 a4 a5 a6 a7 a8 a9:Int) (a10:J2):Option (J2×Int×Int):=
 ((z132.F a0 a1 a2 a3 a4 a5 a6 a7 a8 a9).bind λr1=>(bif (!decide (r1.2=0)) then (some ([],(0:Int),r1.2)) else ((z82.F a10).bind λr2=>(bif (!decide (r2.2=0)) then (some ([],r2.1,r2.2)) else (if 0<=(wr .i64 ((((r1.1).length:Nat):Int)-1))/\(wr .i64 ((((r1.1).length:Nat):Int)-1))<(r1.1.length:Int) then (V.asInt .i64 (((r1.1.getD ((wr .i64 ((((r1.1).length:Nat):Int)-1))).toNat [])).getD 0 .undef) λc3=>(V.asInt .i64 (((r1.1.getD ((wr .i64 ((((r1.1).length:Nat):Int)-1))).toNat [])).getD 1 .undef) λc4=>(V.asInt .i64 (((r1.1.getD ((wr .i64 ((((r1.1).length:Nat):Int)-1))).toNat [])).getD 2 .undef) λc5=>(V.asInt .i64 (((r1.1.getD ((wr .i64 ((((r1.1).length:Nat):Int)-1))).toNat [])).getD 3 .undef) λc6=>(V.asInt .i64 (((r1.1.getD ((wr .i64 ((((r1.1).length:Nat):Int)-1))).toNat [])).getD 4 .undef) λc7=>(V.asInt .i64 (((r1.1.getD ((wr .i64 ((((r1.1).length:Nat):Int)-1))).toNat [])).getD 5 .undef) λc8=>((z133.F a0 a1 a2 a3 a4 a5 a6 a7 a8 a9 c6 c7 c8 a10).bind λr9=>(bif (!decide (r9.2=0)) then (some ([],r9.1,r9.2)) else ((z78.F a0).bind λr10=>((z99.F a0 a1 a2 a3 a4 a5 a6 a7 a8 a9 r10.1 r10.2.1 a1 a9).bind λr11=>((z134.l0 a10 r1.1 r1.1 (((r1.1).length:Nat):Int) ((0:Int),(0:Int),[],a0,a1,a2,a3,a4,a5,a6,a7,a8,a9,r10.1,r10.2.1,a1,r11.1,r11.2.1)).bind λo12=>match o12 with | .inl p13=>(some (p13.2.2.1,(0:Int),(0:Int))) | .inr q14=>(some (q14.1,q14.2.1,q14.2.2.1))))))))))))) else none)))))
def z134.enc (r:J2×Int×Int):V:=(.tup [(.recs false 8 r.1),(.int .i64 r.2.1),(.int .i64 r.2.2)])
def z134.pack:List V->Option Pack
 |[(.agg [(.str a0),(.str a1),(.int .i64 a2),(.int .i64 a3),(.int .i64 a4),(.int .i64 a5),(.int .i64 a6),(.int .i64 a7),(.int .i64 a8),(.int .i64 a9)]),(.recs _ 5 a10)]=>some ⟨J2×Int×Int,z134.F a0 a1 a2 a3 a4 a5 a6 a7 a8 a9 a10,z134.enc⟩
 |_=>none
def z135.F:Option (J1×J1×Int×Int×Int×Int×Int×Int×Int×Int):=
 (some (([49,48,48,48,48,48]:J1),([48]:J1),(1:Int),(0:Int),(2:Int),(2024:Int),(1:Int),(1:Int),(1:Int),(2:Int)))
def z135.enc (r:J1×J1×Int×Int×Int×Int×Int×Int×Int×Int):V:=(.agg [(.str r.1),(.str r.2.1),(.int .i64 r.2.2.1),(.int .i64 r.2.2.2.1),(.int .i64 r.2.2.2.2.1),(.int .i64 r.2.2.2.2.2.1),(.int .i64 r.2.2.2.2.2.2.1),(.int .i64 r.2.2.2.2.2.2.2.1),(.int .i64 r.2.2.2.2.2.2.2.2.1),(.int .i64 r.2.2.2.2.2.2.2.2.2)])
def z135.pack:List V->Option Pack
 |[]=>some ⟨J1×J1×Int×Int×Int×Int×Int×Int×Int×Int,z135.F,z135.enc⟩
 |_=>none
def z136.F:Option (Bool):=
 (z135.F.bind λr1=>((z134.F r1.1 r1.2.1 r1.2.2.1 r1.2.2.2.1 r1.2.2.2.2.1 r1.2.2.2.2.2.1 r1.2.2.2.2.2.2.1 r1.2.2.2.2.2.2.2.1 r1.2.2.2.2.2.2.2.2.1 r1.2.2.2.2.2.2.2.2.2 ([[(.int .i64 1),(.int .i64 2024),(.int .i64 1),(.int .i64 9),(.str ([53,48,48,48,48]:J1))]]:J2)).bind λr2=>(z135.F.bind λr3=>((z134.F r3.1 r3.2.1 r3.2.2.1 r3.2.2.2.1 r3.2.2.2.2.1 r3.2.2.2.2.2.1 r3.2.2.2.2.2.2.1 r3.2.2.2.2.2.2.2.1 r3.2.2.2.2.2.2.2.2.1 r3.2.2.2.2.2.2.2.2.2 ([[(.int .i64 1),(.int .i64 2024),(.int .i64 1),(.int .i64 9),(.str ([49,48,48,48,48,49]:J1))]]:J2)).bind λr4=>(z135.F.bind λr5=>((z28.F 100).bind λr6=>((z99.F r5.1 r5.2.1 r5.2.2.1 r5.2.2.2.1 r5.2.2.2.2.1 r5.2.2.2.2.2.1 r5.2.2.2.2.2.2.1 r5.2.2.2.2.2.2.2.1 r5.2.2.2.2.2.2.2.2.1 r5.2.2.2.2.2.2.2.2.2 r6.1 r6.2 ([48]:J1) 4).bind λr7=>(bif (decide (r2.2.2=0)) then (bif (decide ((((r2.1).length:Nat):Int)=2)) then (if (0:Int)<=(0:Int)/\(0:Int)<(r2.1.length:Int) then (V.asInt .i64 (((r2.1.getD 0 [])).getD 0 .undef) λc8=>(V.asInt .i64 (((r2.1.getD 0 [])).getD 1 .undef) λc9=>(V.asInt .i64 (((r2.1.getD 0 [])).getD 2 .undef) λc10=>(V.asStr (((r2.1.getD 0 [])).getD 3 .undef) λc11=>(V.asStr (((r2.1.getD 0 [])).getD 4 .undef) λc12=>(V.asStr (((r2.1.getD 0 [])).getD 5 .undef) λc13=>(V.asStr (((r2.1.getD 0 [])).getD 6 .undef) λc14=>(V.asStr (((r2.1.getD 0 [])).getD 7 .undef) λc15=>(bif (decide (c13=([50,53,48,48,48]:J1))) then (if (0:Int)<=(1:Int)/\(1:Int)<(r2.1.length:Int) then (V.asInt .i64 (((r2.1.getD 1 [])).getD 0 .undef) λc16=>(V.asInt .i64 (((r2.1.getD 1 [])).getD 1 .undef) λc17=>(V.asInt .i64 (((r2.1.getD 1 [])).getD 2 .undef) λc18=>(V.asStr (((r2.1.getD 1 [])).getD 3 .undef) λc19=>(V.asStr (((r2.1.getD 1 [])).getD 4 .undef) λc20=>(V.asStr (((r2.1.getD 1 [])).getD 5 .undef) λc21=>(V.asStr (((r2.1.getD 1 [])).getD 6 .undef) λc22=>(V.asStr (((r2.1.getD 1 [])).getD 7 .undef) λc23=>(bif (decide (c21=([50,53,48,48,48]:J1))) then (bif (decide (r4.2.1=0)) then (bif (decide (r4.2.2=16)) then ((z85.F r7.1 r7.2.1).bind λr24=>(bif (decide (r24=([50,53]:J1))) then (some (decide (r7.2.2=0))) else (some false))) else (some false)) else (some false)) else (some false)))))))))) else none) else (some false)))))))))) else none) else (some false)) else (some false)))))))))
def z136.pack:List V->Option Pack
 |[]=>some ⟨Bool,z136.F,z7.enc⟩
 |_=>none
def z137.F (a0:J0) (a1:Int):Option (Int):=
 (bif (decide (a1>=(((a0).length:Nat):Int))) then (some 0) else (if 0<=a1/\a1<(a0.length:Int) then (some (a0.getD (a1).toNat 0)) else none))
def z137.pack:List V->Option Pack
 |[(.ints _ .i64 a0),(.int .i64 a1)]=>some ⟨Int,z137.F a0 a1,z8.enc⟩
 |_=>none
def z138.l0P (a:J0) {R:Type} (rec:Int->Option R) (done:(Int)->Option R):Int->Option R:=λb=>(bif (decide (b>0)) then (if 0<=(wr .i64 (b-1))/\(wr .i64 (b-1))<(a.length:Int) then (bif (decide ((a.getD ((wr .i64 (b-1))).toNat 0)=0)) then (rec (wr .i64 (b-1))) else (done b)) else none) else (done b))
def z138.l0 (a:J0) (x:Int):Option ((Int)):=lfp (λrec x=>z138.l0P a rec some x) x
def z138.F (a0:J0):Option (J0):=
 ((z138.l0 a0 (((a0).length:Nat):Int)).bind λo1=>(if 0<=o1/\o1<=(a0.length:Int) then (some (a0.take (o1).toNat)) else none))
def z138.pack:List V->Option Pack
 |[(.ints _ .i64 a0)]=>some ⟨J0,z138.F a0,z11.enc⟩
 |_=>none
def z139.l2P (a b:J0) (c:Int) {R:Type} (rec done:(Int×Int×J0)->Option R):(Int×Int×J0)->Option R:=λx=>match x with
 |(d,e,g)=>(bif (decide (e<(((b).length:Nat):Int))) then ((z137.F b e).bind λh=>(if 0<=(wr .i64 (c+e))/\(wr .i64 (c+e))<(g.length:Int) then (if ((wr .i64 (c+e))).toNat<g.length then (if 0<=c/\c<(a.length:Int) then (if 0<=(wr .i64 (c+e))/\(wr .i64 (c+e))<(g.length:Int) then (if ((wr .i64 (c+e))).toNat<g.length then (rec ((wr .i64 (Int.tdiv (wr .i64 ((wr .i64 ((g.getD ((wr .i64 (c+e))).toNat 0)+(wr .i64 ((a.getD (c).toNat 0)*h))))+d)) 10000)),(wr .i64 (e+1)),(g.set ((wr .i64 (c+e))).toNat (Int.tmod (wr .i64 ((wr .i64 ((g.getD ((wr .i64 (c+e))).toNat 0)+(wr .i64 ((a.getD (c).toNat 0)*h))))+d)) 10000)))) else none) else none) else none) else none) else none)) else (bif (decide (d>0)) then ((z137.F b e).bind λj=>(if 0<=(wr .i64 (c+e))/\(wr .i64 (c+e))<(g.length:Int) then (if ((wr .i64 (c+e))).toNat<g.length then (if 0<=c/\c<(a.length:Int) then (if 0<=(wr .i64 (c+e))/\(wr .i64 (c+e))<(g.length:Int) then (if ((wr .i64 (c+e))).toNat<g.length then (rec ((wr .i64 (Int.tdiv (wr .i64 ((wr .i64 ((g.getD ((wr .i64 (c+e))).toNat 0)+(wr .i64 ((a.getD (c).toNat 0)*j))))+d)) 10000)),(wr .i64 (e+1)),(g.set ((wr .i64 (c+e))).toNat (Int.tmod (wr .i64 ((wr .i64 ((g.getD ((wr .i64 (c+e))).toNat 0)+(wr .i64 ((a.getD (c).toNat 0)*j))))+d)) 10000)))) else none) else none) else none) else none) else none)) else (done (d,e,g))))
def z139.l2 (a b:J0) (c:Int) (x:(Int×Int×J0)):Option ((Int×Int×J0)):=lfp (λrec x=>z139.l2P a b c rec some x) x
def z139.l0P (a b:J0) {R:Type} (rec done:(Int×J0)->Option R):(Int×J0)->Option R:=λx=>match x with
 |(c,d)=>(bif (decide (c<(((a).length:Nat):Int))) then ((z139.l2 a b c ((0:Int),(0:Int),d)).bind λe=>(rec ((wr .i64 (c+1)),e.2.2))) else (done (c,d)))
def z139.l0 (a b:J0) (x:(Int×J0)):Option ((Int×J0)):=lfp (λrec x=>z139.l0P a b rec some x) x
def z139.F (a0 a1:J0):Option (J0):=
 (if 0<=(wr .i64 ((wr .i64 ((((a0).length:Nat):Int)+(((a1).length:Nat):Int)))+1))/\(wr .i64 ((wr .i64 ((((a0).length:Nat):Int)+(((a1).length:Nat):Int)))+1))*8<=140737488355328 then ((z139.l0 a0 a1 ((0:Int),(List.replicate ((wr .i64 ((wr .i64 ((((a0).length:Nat):Int)+(((a1).length:Nat):Int)))+1))).toNat (0:Int)))).bind λo1=>((z138.F o1.2).bind λr2=>(some r2))) else none)
def z139.pack:List V->Option Pack
 |[(.ints _ .i64 a0),(.ints _ .i64 a1)]=>some ⟨J0,z139.F a0 a1,z11.enc⟩
 |_=>none
def z140.F (a0:J0) (a1:Bool) (a2:J0) (a3:Bool):Option (J0×Bool):=
 ((z139.F a0 a2).bind λr1=>((z10.F r1 (!decide (a1=a3))).bind λr2=>(some (r2.1,r2.2))))
def z140.pack:List V->Option Pack
 |[(.agg [(.ints _ .i64 a0),(.bool a1)]),(.agg [(.ints _ .i64 a2),(.bool a3)])]=>some ⟨J0×Bool,z140.F a0 a1 a2 a3,z10.enc⟩
 |_=>none
def z141.l0P (a:Int) {R:Type} (rec done:(J1)->Option R):(J1)->Option R:=λb=>(bif (decide ((b.length:Int)<=a)) then (if ([48]:J1).length+b.length<=9223372036854775807 then (rec (([48]:J1)++b)) else none) else (done b))
def z141.l0 (a:Int) (x:(J1)):Option ((J1)):=lfp (λrec x=>z141.l0P a rec some x) x
def z141.j3 (a1:Bool) (j3:J1):Option (J1):=
 (bif a1 then (if ([45]:J1).length+j3.length<=9223372036854775807 then (some (([45]:J1)++j3)) else none) else (some j3))
def z141.F (a0:J0) (a1:Bool) (a2:Int):Option (J1):=
 ((z5.F a0).bind λr1=>((z141.l0 a2 r1).bind λo2=>(bif (decide (a2>0)) then (if 0<=(wr .i64 ((o2.length:Int)-a2))/\(wr .i64 ((o2.length:Int)-a2))<=((o2).length:Int) then (if (o2.take ((wr .i64 ((o2.length:Int)-a2))).toNat).length+([46]:J1).length<=9223372036854775807 then (if 0<=(wr .i64 ((o2.length:Int)-a2))/\(wr .i64 ((o2.length:Int)-a2))<=((o2).length:Int) then (if ((o2.take ((wr .i64 ((o2.length:Int)-a2))).toNat)++([46]:J1)).length+(o2.drop ((wr .i64 ((o2.length:Int)-a2))).toNat).length<=9223372036854775807 then (z141.j3 a1 (((o2.take ((wr .i64 ((o2.length:Int)-a2))).toNat)++([46]:J1))++(o2.drop ((wr .i64 ((o2.length:Int)-a2))).toNat))) else none) else none) else none) else none) else (z141.j3 a1 o2))))
def z141.pack:List V->Option Pack
 |[(.agg [(.ints _ .i64 a0),(.bool a1),(.int .i64 a2)])]=>some ⟨J1,z141.F a0 a1 a2,z5.enc⟩
 |_=>none
def z142.F (a0 a1 a2 a3 a4 a5 a6 a7 a8 a9 a10 a11 a12:Int):Option (J1×J1×Int×Int×Int×Int×Int×Int×Int×Int):=
 (if 0<=(Int.tmod (wr .i64 a8) 7)/\(Int.tmod (wr .i64 a8) 7)<([(1:Int),(1:Int),(2:Int),(3:Int),(4:Int),(6:Int),(12:Int)].length:Int) then (if a12=0 then none else ((z14.F a9 a10 a11 9000).bind λr1=>((z12.F (wr .i64 ((wr .i64 (Int.fdiv a0 (2^(min 2 (64:Nat)))))+1))).bind λr2=>(bif (decide (a1>60000)) then ((z12.F 100000000000).bind λr3=>((z12.F (wr .i64 ((wr .i64 (Int.fdiv a0 (2^(min 4 (64:Nat)))))+1))).bind λr4=>((z140.F r4.1 r4.2 r3.1 r3.2).bind λr5=>((z6.F r5.1 r5.2).bind λr6=>((z12.F (Int.tmod (wr .i64 a2) 100000)).bind λr7=>((z141.F r7.1 r7.2 (wr .i64 ((Int.tmod (wr .i64 a3) 7)+2))).bind λr8=>(some (r6,r8,(Int.tmod (wr .i64 a4) 3),(Int.tmod (wr .i64 a5) 3),(Int.tmod (wr .i64 a6) 5),r1.1,r1.2.1,r1.2.2,([(1:Int),(1:Int),(2:Int),(3:Int),(4:Int),(6:Int),(12:Int)].getD ((Int.tmod (wr .i64 a8) 7)).toNat 0),(wr .i64 ((1:Int)+(Int.tmod (wr .i64 a7) a12))))))))))) else ((z6.F r2.1 r2.2).bind λr9=>((z12.F (Int.tmod (wr .i64 a2) 100000)).bind λr10=>((z141.F r10.1 r10.2 (wr .i64 ((Int.tmod (wr .i64 a3) 7)+2))).bind λr11=>(some (r9,r11,(Int.tmod (wr .i64 a4) 3),(Int.tmod (wr .i64 a5) 3),(Int.tmod (wr .i64 a6) 5),r1.1,r1.2.1,r1.2.2,([(1:Int),(1:Int),(2:Int),(3:Int),(4:Int),(6:Int),(12:Int)].getD ((Int.tmod (wr .i64 a8) 7)).toNat 0),(wr .i64 ((1:Int)+(Int.tmod (wr .i64 a7) a12)))))))))))) else none)
def z142.pack:List V->Option Pack
 |[(.agg [(.int .u64 a0),(.int .u16 a1),(.int .u32 a2),(.int .u8 a3),(.int .u8 a4),(.int .u8 a5),(.int .u8 a6),(.int .u8 a7),(.int .u8 a8),(.int .i64 a9),(.int .i64 a10),(.int .i64 a11)]),(.int .i64 a12)]=>some ⟨J1×J1×Int×Int×Int×Int×Int×Int×Int×Int,z142.F a0 a1 a2 a3 a4 a5 a6 a7 a8 a9 a10 a11 a12,z135.enc⟩
 |_=>none
def z143.F (a0 a1 a2 a3:Int) (a4:J1):Option (Bool):=
 (bif (!decide (a0=1)) then (some (!decide (a0=2))) else (some false))
def z143.pack:List V->Option Pack
 |[(.agg [(.int .i64 a0),(.int .i64 a1),(.int .i64 a2),(.int .i64 a3),(.str a4)])]=>some ⟨Bool,z143.F a0 a1 a2 a3 a4,z7.enc⟩
 |_=>none
def z144.l0P (a:Int) (b:J2) {R:Type} (rec:Int->Option R) (done:((Int)⊕(Int))->Option R):Int->Option R:=λc=>(bif (decide (c<a)) then (if 0<=c/\c<(b.length:Int) then (if (c).toNat<b.length then (V.asInt .i64 (((b.getD (c).toNat [])).getD 0 .undef) λd=>(V.asInt .i64 (((b.getD (c).toNat [])).getD 1 .undef) λe=>(V.asInt .i64 (((b.getD (c).toNat [])).getD 2 .undef) λg=>(V.asInt .i64 (((b.getD (c).toNat [])).getD 3 .undef) λh=>(V.asStr (((b.getD (c).toNat [])).getD 4 .undef) λj=>((z143.F d e g h j).bind λk=>(bif k then (done (.inr c)) else (rec (wr .i64 (c+1)))))))))) else none) else none) else (done (.inl c)))
def z144.l0 (a:Int) (b:J2) (x:Int):Option (((Int)⊕(Int))):=lfp (λrec x=>z144.l0P a b rec some x) x
def z144.l0aP {R:Type} (rec done:(Int×Int×J2)->Option R):(Int×Int×J2)->Option R:=λx=>match x with
 |(a,b,c)=>(bif (decide (b<(((c).length:Nat):Int))) then (if 0<=b/\b<(c.length:Int) then (if (b).toNat<c.length then (V.asInt .i64 (((c.getD (b).toNat [])).getD 0 .undef) λd=>(V.asInt .i64 (((c.getD (b).toNat [])).getD 1 .undef) λe=>(V.asInt .i64 (((c.getD (b).toNat [])).getD 2 .undef) λg=>(V.asInt .i64 (((c.getD (b).toNat [])).getD 3 .undef) λh=>(V.asStr (((c.getD (b).toNat [])).getD 4 .undef) λj=>((z143.F d e g h j).bind λk=>(bif (!k) then (if 0<=a/\a<(c.length:Int) then (if (a).toNat<c.length then (rec ((wr .i64 (a+1)),(wr .i64 (b+1)),(c.set (a).toNat ((((((c.getD (a).toNat []).set 0 (.int .i64 d)).set 1 (.int .i64 e)).set 2 (.int .i64 g)).set 3 (.int .i64 h)).set 4 (.str j))))) else none) else none) else (rec (a,(wr .i64 (b+1)),c))))))))) else none) else none) else (done (a,b,c)))
def z144.l0a (x:(Int×Int×J2)):Option ((Int×Int×J2)):=lfp (λrec x=>z144.l0aP rec some x) x
def z144.F (a0 a1 a2 a3 a4 a5 a6 a7 a8 a9 a10 a11 a12 a13 a14:Int) (a15 a16 a17:J0) (a18:Bool):Option (J1×J1×Int×Int×Int×Int×Int×Int×Int×Int×J2):=
 ((z142.F a0 a1 a2 a3 a4 a5 a6 a7 a8 a9 a10 a11 8).bind λr1=>((z13.F a12 a13 a14 a15 a16 a17 r1.2.2.2.2.2.1 r1.2.2.2.2.2.2.1 r1.2.2.2.2.2.2.2.1).bind λr2=>(bif (!a18) then (some (r1.1,r1.2.1,r1.2.2.1,r1.2.2.2.1,r1.2.2.2.2.1,r1.2.2.2.2.2.1,r1.2.2.2.2.2.2.1,r1.2.2.2.2.2.2.2.1,r1.2.2.2.2.2.2.2.2.1,r1.2.2.2.2.2.2.2.2.2,r2)) else ((z144.l0 (((r2).length:Nat):Int) r2 0).bind λo3=>match o3 with | .inl p4=>(some (r1.1,r1.2.1,r1.2.2.1,r1.2.2.2.1,r1.2.2.2.2.1,r1.2.2.2.2.2.1,r1.2.2.2.2.2.2.1,r1.2.2.2.2.2.2.2.1,r1.2.2.2.2.2.2.2.2.1,r1.2.2.2.2.2.2.2.2.2,r2)) | .inr q5=>(bif (decide (q5=(-1:Int))) then (some (r1.1,r1.2.1,r1.2.2.1,r1.2.2.2.1,r1.2.2.2.2.1,r1.2.2.2.2.2.1,r1.2.2.2.2.2.2.1,r1.2.2.2.2.2.2.2.1,r1.2.2.2.2.2.2.2.2.1,r1.2.2.2.2.2.2.2.2.2,r2)) else ((z144.l0a (q5,(wr .i64 (q5+1)),r2)).bind λo6=>(if 0<=o6.1/\o6.1<=((o6.2.2).length:Int) then (if 0<((o6.2.2).length-(o6.1).toNat) then (if 0<=o6.1/\o6.1<=((((o6.2.2.take (o6.1).toNat++(List.replicate ((o6.2.2).length-(o6.1).toNat) ([(.int .i64 0),(.int .i64 0),(.int .i64 0),(.int .i64 0),(.str ([]:J1))]:List V)).take ((o6.2.2).length-(o6.1).toNat))++o6.2.2.drop ((o6.1).toNat+((o6.2.2).length-(o6.1).toNat)))).length:Int) then (some (r1.1,r1.2.1,r1.2.2.1,r1.2.2.2.1,r1.2.2.2.2.1,r1.2.2.2.2.2.1,r1.2.2.2.2.2.2.1,r1.2.2.2.2.2.2.2.1,r1.2.2.2.2.2.2.2.2.1,r1.2.2.2.2.2.2.2.2.2,((((o6.2.2.take (o6.1).toNat++(List.replicate ((o6.2.2).length-(o6.1).toNat) ([(.int .i64 0),(.int .i64 0),(.int .i64 0),(.int .i64 0),(.str ([]:J1))]:List V)).take ((o6.2.2).length-(o6.1).toNat))++o6.2.2.drop ((o6.1).toNat+((o6.2.2).length-(o6.1).toNat))).drop 0).take (o6.1).toNat))) else none) else none) else none)))))))
def z144.enc (r:J1×J1×Int×Int×Int×Int×Int×Int×Int×Int×J2):V:=(.tup [(.agg [(.str r.1),(.str r.2.1),(.int .i64 r.2.2.1),(.int .i64 r.2.2.2.1),(.int .i64 r.2.2.2.2.1),(.int .i64 r.2.2.2.2.2.1),(.int .i64 r.2.2.2.2.2.2.1),(.int .i64 r.2.2.2.2.2.2.2.1),(.int .i64 r.2.2.2.2.2.2.2.2.1),(.int .i64 r.2.2.2.2.2.2.2.2.2.1)]),(.recs false 5 r.2.2.2.2.2.2.2.2.2.2)])
def z144.pack:List V->Option Pack
 |[(.agg [(.int .u64 a0),(.int .u16 a1),(.int .u32 a2),(.int .u8 a3),(.int .u8 a4),(.int .u8 a5),(.int .u8 a6),(.int .u8 a7),(.int .u8 a8),(.int .i64 a9),(.int .i64 a10),(.int .i64 a11),(.int .i64 a12),(.int .i64 a13),(.int .i64 a14),(.ints _ .u8 a15),(.ints _ .u8 a16),(.ints _ .u32 a17),(.bool a18)])]=>some ⟨J1×J1×Int×Int×Int×Int×Int×Int×Int×Int×J2,z144.F a0 a1 a2 a3 a4 a5 a6 a7 a8 a9 a10 a11 a12 a13 a14 a15 a16 a17 a18,z144.enc⟩
 |_=>none
def z145.l0P (a:J2) (b:Int) {R:Type} (rec:(Int×J0×Bool)->Option R) (done:((Int×J0×Bool)⊕(Bool×J0×Bool))->Option R):(Int×J0×Bool)->Option R:=λx=>match x with
 |(c,d,e)=>(bif (decide (c<b)) then (if 0<=c/\c<(a.length:Int) then (V.asInt .i64 (((a.getD (c).toNat [])).getD 0 .undef) λg=>(V.asInt .i64 (((a.getD (c).toNat [])).getD 1 .undef) λh=>(V.asInt .i64 (((a.getD (c).toNat [])).getD 2 .undef) λj=>(V.asStr (((a.getD (c).toNat [])).getD 3 .undef) λk=>(V.asStr (((a.getD (c).toNat [])).getD 4 .undef) λm=>(V.asStr (((a.getD (c).toNat [])).getD 5 .undef) λn=>(V.asStr (((a.getD (c).toNat [])).getD 6 .undef) λo=>(V.asStr (((a.getD (c).toNat [])).getD 7 .undef) λp=>((z76.F n).bind λq=>((z76.F m).bind λr=>(bif (!decide (q.2.2=0)) then (done (.inr (false,d,e))) else (bif (!decide (r.2.2=0)) then (done (.inr (false,d,e))) else ((z24.F q.1 q.2.1).bind λs=>(bif (decide (s<0)) then (done (.inr (false,d,e))) else ((z24.F r.1 r.2.1).bind λt=>(bif (decide (t<0)) then (done (.inr (false,d,e))) else ((z65.F d e q.1 q.2.1).bind λu=>(rec ((wr .i64 (c+1)),u.1,u.2))))))))))))))))))) else none) else (done (.inl (c,d,e))))
def z145.l0 (a:J2) (b:Int) (x:(Int×J0×Bool)):Option (((Int×J0×Bool)⊕(Bool×J0×Bool))):=lfp (λrec x=>z145.l0P a b rec some x) x
def z145.l2P (a:J2) (b:Int) {R:Type} (rec done:(Int×J0×Bool)->Option R):(Int×J0×Bool)->Option R:=λx=>match x with
 |(c,d,e)=>(bif (decide (c<b)) then (if 0<=c/\c<(a.length:Int) then (V.asInt .i64 (((a.getD (c).toNat [])).getD 0 .undef) λg=>(V.asInt .i64 (((a.getD (c).toNat [])).getD 1 .undef) λh=>(V.asInt .i64 (((a.getD (c).toNat [])).getD 2 .undef) λj=>(V.asInt .i64 (((a.getD (c).toNat [])).getD 3 .undef) λk=>(V.asStr (((a.getD (c).toNat [])).getD 4 .undef) λm=>(bif (decide (g=1)) then ((z76.F m).bind λn=>((z65.F d e n.1 n.2.1).bind λo=>(rec ((wr .i64 (c+1)),o.1,o.2)))) else (rec ((wr .i64 (c+1)),d,e)))))))) else none) else (done (c,d,e)))
def z145.l2 (a:J2) (b:Int) (x:(Int×J0×Bool)):Option ((Int×J0×Bool)):=lfp (λrec x=>z145.l2P a b rec some x) x
def z145.j7 (r2:J2×Int×Int) (r1:J1×J1×Int×Int×Int×Int×Int×Int×Int×Int×J2):Option (Bool):=
 ((z145.l0 r2.1 (((r2.1).length:Nat):Int) ((0:Int),[],false)).bind λo8=>match o8 with | .inl p9=>((z145.l2 r1.2.2.2.2.2.2.2.2.2.2 (((r1.2.2.2.2.2.2.2.2.2.2).length:Nat):Int) ((0:Int),p9.2.1,p9.2.2)).bind λo11=>(bif (decide ((((r2.1).length:Nat):Int)=r1.2.2.2.2.2.2.2.2.2.1)) then ((z85.F o11.2.1 o11.2.2).bind λr12=>(bif (decide (r12=r1.1)) then (if 0<=(wr .i64 ((((r2.1).length:Nat):Int)-1))/\(wr .i64 ((((r2.1).length:Nat):Int)-1))<(r2.1.length:Int) then (V.asInt .i64 (((r2.1.getD ((wr .i64 ((((r2.1).length:Nat):Int)-1))).toNat [])).getD 0 .undef) λc13=>(V.asInt .i64 (((r2.1.getD ((wr .i64 ((((r2.1).length:Nat):Int)-1))).toNat [])).getD 1 .undef) λc14=>(V.asInt .i64 (((r2.1.getD ((wr .i64 ((((r2.1).length:Nat):Int)-1))).toNat [])).getD 2 .undef) λc15=>(V.asStr (((r2.1.getD ((wr .i64 ((((r2.1).length:Nat):Int)-1))).toNat [])).getD 3 .undef) λc16=>(V.asStr (((r2.1.getD ((wr .i64 ((((r2.1).length:Nat):Int)-1))).toNat [])).getD 4 .undef) λc17=>(V.asStr (((r2.1.getD ((wr .i64 ((((r2.1).length:Nat):Int)-1))).toNat [])).getD 5 .undef) λc18=>(V.asStr (((r2.1.getD ((wr .i64 ((((r2.1).length:Nat):Int)-1))).toNat [])).getD 6 .undef) λc19=>(V.asStr (((r2.1.getD ((wr .i64 ((((r2.1).length:Nat):Int)-1))).toNat [])).getD 7 .undef) λc20=>(some (decide (c20=([48]:J1)))))))))))) else none) else (some false))) else (some false))) | .inr q10=>(some q10.1))
def z145.F (a0 a1 a2 a3 a4 a5 a6 a7 a8 a9 a10 a11 a12 a13 a14:Int) (a15 a16 a17:J0) (a18:Bool):Option (Bool):=
 ((z144.F a0 a1 a2 a3 a4 a5 a6 a7 a8 a9 a10 a11 a12 a13 a14 a15 a16 a17 true).bind λr1=>((z134.F r1.1 r1.2.1 r1.2.2.1 r1.2.2.2.1 r1.2.2.2.2.1 r1.2.2.2.2.2.1 r1.2.2.2.2.2.2.1 r1.2.2.2.2.2.2.2.1 r1.2.2.2.2.2.2.2.2.1 r1.2.2.2.2.2.2.2.2.2.1 r1.2.2.2.2.2.2.2.2.2.2).bind λr2=>(z136.F.bind λr3=>(bif (!r3) then (z136.F.bind λr6=>(some r6)) else (bif (!decide (r2.2.2=0)) then (z136.F.bind λr7=>(some r7)) else (z145.j7 r2 r1))))))
def z145.pack:List V->Option Pack
 |[(.agg [(.int .u64 a0),(.int .u16 a1),(.int .u32 a2),(.int .u8 a3),(.int .u8 a4),(.int .u8 a5),(.int .u8 a6),(.int .u8 a7),(.int .u8 a8),(.int .i64 a9),(.int .i64 a10),(.int .i64 a11),(.int .i64 a12),(.int .i64 a13),(.int .i64 a14),(.ints _ .u8 a15),(.ints _ .u8 a16),(.ints _ .u32 a17),(.bool a18)])]=>some ⟨Bool,z145.F a0 a1 a2 a3 a4 a5 a6 a7 a8 a9 a10 a11 a12 a13 a14 a15 a16 a17 a18,z7.enc⟩
 |_=>none
end
end Go.Proofs.YtihfdjkjpncjfaaGreatDoor.A
end
