/- Part 2 of the proof of ScriptCuts.card. -/
import Derived.Test.YtihfdjkjpncjfaaGreatDoorCw1
import Derived.WalkSpells
import Derived.Shelf.Strings.SlTrimAscii
import Derived.Shelf.Strings.Repeat
import Derived.Shelf.Strings.OnBuilder
import Derived.Test.YtihfdjkjpncjfaaGreatDoorProg
import Derived.Shelf.RegionOpenPlain
import Derived.Lib.Strings
import Derived.Lib.Walk
import Derived.Lib.Builder
import Derived.WalkKit
import Derived.Laws.Externs
import Derived.Lib.Bytealg
set_option linter.unusedVariables false
set_option linter.unusedSimpArgs false
section
namespace Go.Proofs.YtihfdjkjpncjfaaGreatDoor.A
open Go Go.RowKit
def cloneP (x0:V) (e bytes:Nat):Qcb:=λ_ args S K=>match args with
 |
  [x]=>match We x0 (immOf S x),lenOf S x with
  |some c,some n=>if n*bytes<=140737488355328 then K (.sref S.length 0) (S++[.arr 0 true e c]) else none
  |_,_=>none
 |_=>none
def Qn0 (t tb:Nat) (p0 p1 p2 p3 p4 p5 p6 p7:String) (a0 a1 a2 a3 a4 a5 a6 a7:Array Edge) (i0 i1 i2 i3:Nat):Code:=
 .seq (.region i0 #[⟨some 2,.assign (.const (.slice none 0 0)),t,p0,a0,none⟩] false)
  (.seq (.seq (.region i1 #[⟨some 3,.move (.tmp 0),t,p1,a1,none⟩,⟨some 4,.binOp .eql t (.tmp 3) (.const (.slice none 0 0)) t,tb,p2,a2,none⟩] false)
    (.cond (.tmp 4) (.seq (.region i2 #[⟨some 2,.assign (.const (.slice none 0 0)),t,p3,a3,none⟩] false) .ret) .skip))
   (.seq (.region i3 #[⟨some 5,.buildSlice t 0 #[],t,p4,a4,none⟩,⟨some 6,.move (.tmp 0),t,p5,a5,none⟩,
     ⟨some 7,.call {callee:=.builtin .append,args:=#[.tmp 5,.tmp 6],argTypes:=#[t,t]},t,p6,a6,none⟩,⟨some 2,.assign (.tmp 7),t,p7,a7,none⟩] false) .ret))
section
variable {P:Program} {C:Ctx}
theorem Jr {ops:Array Oper} {Q:Exit->Act->World->Prop} {i:Nat} {rest:List Nat} {a:Act} {w:World} {o:Oper} (ho:ops[i]? = some o) (hg:o.guard=none) (h:o.wp P a w (wpOps P ops Q rest) Q):wpOps P ops Q (i::rest) a w:=by
 simp only [wpOps,ho]
 rw [if_pos (by simp [Region.wanted,hg])]
 exact .inl h
theorem Jm {a:Act} {dst:Option Tmp} {v:Value}:(a.put dst v).tmps.size=a.tmps.size:=by cases dst<;>simp [Act.put]
theorem eval_put {a:Act} {d:Nat} {v:Value} (h:d<a.tmps.size):(a.put (some d) v).eval (.tmp d)=v:=by simp [Act.put,Act.eval,h]
theorem Qa8 {a:Act} {d t:Nat} {v:Value} (h:d≠t):(a.put (some d) v).eval (.tmp t)=a.eval (.tmp t):=Act.eval_put λd' hd=>by simp only [Zs] at hd;subst hd;exact λe=>h (by cases e;rfl)
theorem Qop {t e:Nat} {x0 x c:V} {S:Store} {n:Nat} (hd:(C.ty t).d=.slice e) (hbad:C.bad e=false) (hb0:(C.ty e).bytes≠0) (h1:isExact x0=true) (h2:isNil x0=true) (h3:zOf x0=(C.ty e).size)
  (happ:We x0 (immOf S x)=some c) (hn:lenOf S x=some n) (hle:n*(C.ty e).bytes<=140737488355328):C.appendV t S x0 x K0=some (.sref S.length 0,S++[.arr 0 true e c]):=by
 have hl0:lenOf S x0=some 0:=by
  unfold isNil at h2
  split at h2<;>first|rfl|simp at h2
 unfold Ctx.appendV
 simp only [hd,hbad,hl0,hn,Z20,if_false,hb0,Z24,if_pos hle]
 cases x0<;>simp [isExact] at h1<;>subst h1<;>simp only [isExact,h2,h3,happ,and_self,if_true,Zd]
theorem Qfv (hT:C.T.check P=true) {g:Nat} {f:Func} {t tb e:Nat} {p0 p1 p2 p3 p4 p5 p6 p7:String} {a0 a1 a2 a3 a4 a5 a6 a7:Array Edge} {i0 i1 i2 i3:Nat}
  (hf:FunOK P g f (Qn0 t tb p0 p1 p2 p3 p4 p5 p6 p7 a0 a1 a2 a3 a4 a5 a6 a7 i0 i1 i2 i3)) (hres:f.results = #[.tmp 2]) (hnt:8<=f.ntmps)
  (hd:(C.ty t).d=.slice e) (hbad:C.bad e=false) {bytes:Nat} (hby:(C.ty e).bytes=bytes) (hb0:bytes≠0) {x0:V} (hb:C.buildSliceV t 0 []=some x0) (h1:isExact x0=true) (h2:isNil x0=true) (h3:zOf x0=(C.ty e).size):SoundP P g (cloneP x0 e bytes):=by
 subst hby
 refine ⟨λR args S K=>?_,λargs S v S' M cargs h hN hsz hr=>?_⟩
 ·unfold cloneP
  repeat' split
  all_goals rfl
 simp only [cloneP,K0] at h
 split at h
 case h_2=>simp at h
 rename_i x
 split at h
 case h_2=>simp at h
 rename_i c n happ hn
 split at h
 case isFalse=>simp at h
 rename_i hle
 simp only [Zs,Z2] at h
 obtain ⟨rfl,rfl⟩:=h
 obtain ⟨cx,rfl⟩:∃cx,cargs = #[cx]:=⟨cargs.getD 0 Go.undef,by
  apply Array.ext
  ·simpa using hsz
  ·intro i hi hi'
   have:i=0:=by simp at hi';exact hi'
   subst this;simp [Z0,hi]⟩
 have hx:Rep M cx x:=by simpa using hr 0 (by simp)
 obtain ⟨A,cap,rfl⟩:=Qmr hN.ok (λid _=>hN.is id) hn hx
 have hu:=(Q1 hT hd).1
 have hq:=hN.fresh S.length (Z3 _)
 have hev:=Qop hd hbad hb0 h1 h2 h3 happ hn hle
 unfold CallR
 rw [hf.enters]
 simp only
 refine calls_of_wp hf.get hf.body ?_
 generalize hact:(⟨#[.slice A n cap]++Array.replicate (f.ntmps-(#[Value.slice A n cap]:Array Value).size) Go.undef,[]⟩:Act)=act
 have hs0:8<=act.tmps.size:=by rw [<-hact];simp;omega
 have he0:act.eval (.tmp 0)=.slice A n cap:=by
  rw [<-hact]
  show (#[Value.slice A n cap]++Array.replicate _ Go.undef).getD 0 Go.undef=_
  rw [Z0,Z37 (by simp)];rfl
 have hdf:act.defers=[]:=by rw [<-hact]
 clear hact
 refine wp_seq (wp_region ?_)
 show wpOps P _ _ [0] _ _
 refine Jr (o:=⟨some 2,.assign (.const (.slice none 0 0)),t,p0,a0,none⟩) rfl rfl (W6 (cv:=.slice none 0 0) (w':=M.w) (by simp [execOp,Act.eval]) ?_)
 show (Code.seq _ _).wp P _ (act.put (some 2) (.slice none 0 0)) M.w
 refine wp_seq (wp_seq (wp_region ?_))
 show wpOps P _ _ [0,1] _ _
 refine Jr (o:=⟨some 3,.move (.tmp 0),t,p1,a1,none⟩) rfl rfl (W6 (cv:=.slice A n cap) (w':=M.w) (by simp only [execOp,Qa8 (show (2:Nat)≠0 by decide),he0];rfl) ?_)
 refine Jr (o:=⟨some 4,.binOp .eql t (.tmp 3) (.const (.slice none 0 0)) t,tb,p2,a2,none⟩) rfl rfl (W6 (cv:=.bool A.isNone) (w':=M.w) (by
  have e3:((act.put (some 2) (.slice none 0 0)).put (some 3) (.slice A n cap)).eval (.tmp 3)=.slice A n cap:=eval_put (by simp only [Jm];omega)
  have ec:((act.put (some 2) (.slice none 0 0)).put (some 3) (.slice A n cap)).eval (.const (.slice none 0 0))=.slice none 0 0:=rfl
  simp only [execOp,e3,ec]
  have:=Lib.run_eql_slice_nil (P:=P) M.w t e A n cap 0 0 hu
  simp [eqGuard,this]) ?_)
 generalize hact2:(((act.put (some 2) (.slice none 0 0)).put (some 3) (.slice A n cap)).put (some 4) (.bool A.isNone))=act2
 have hs2:8<=act2.tmps.size:=by rw [<-hact2];simp only [Jm];exact hs0
 have he2:act2.eval (.tmp 0)=.slice A n cap:=by rw [<-hact2,Qa8 (by decide),Qa8 (by decide),Qa8 (by decide)];exact he0
 have he4:act2.eval (.tmp 4)=.bool A.isNone:=by rw [<-hact2];exact eval_put (by simp only [Jm];omega)
 have hdf2:act2.defers=[]:=by rw [<-hact2];simp only [Qat,hdf]
 clear hact2
 show (Code.cond _ _ _).wp P _ act2 M.w
 refine wp_cond he4 ?_
 have fin:∀(act3:Act) (cv:Value) (M':Mem),8<=act3.tmps.size->act3.defers=[]->act3.eval (.tmp 2)=cv->Rep M' cv (.sref S.length 0)->Post M M' S (S++[.arr 0 true e c]) [S.length] ->
   bodyPost P f (fun | .returned cv,w''=>(∃M':Mem,M'.w=w''/\Step M M'/\Now M' (S++[.arr 0 true e c])/\Rep M' cv (.sref S.length 0)/\S.length<=(S++[Blk.arr 0 true e c]).length)|_,_=>False) .ret act3 M'.w:=by
  intro act3 cv M' hs3 hd3 he3 hrep hp
  refine ⟨hd3,cv,?_,M',rfl,hp.step,hp.now hN,hrep,hp.len⟩
  have:act3.tmps.getD 2 Go.undef=cv:=by rw [<-he3];simp [Act.eval,Z0]
  rw [Z0] at this
  simp [results,hres,this]
 cases A with
 |
  none=>
  have hn0:n=0:=by
   obtain ⟨A',n',cap',fl,cf,e1,hfl,hz,hle',hm,_⟩:=Yl hN.ok (λid _=>hN.is id) hx (y:=x) (by
    unfold We at happ
    split at happ<;>first|(simp at happ;done)|(rename_i hh;rw [hh];rfl))
   simp only [Value.slice.injEq] at e1
   obtain ⟨e1,e2,e3⟩:=e1
   have:=hm e1.symm
   omega
  subst hn0
  simp only [Option.isNone_none,if_true]
  refine wp_seq (wp_region ?_)
  show wpOps P _ _ [0] _ _
  refine Jr (o:=⟨some 2,.assign (.const (.slice none 0 0)),t,p3,a3,none⟩) rfl rfl (W6 (cv:=.slice none 0 0) (w':=M.w) (by simp [execOp,Act.eval]) ?_)
  show Code.ret.wp P _ _ _
  refine wp_ret ?_
  have hfc:flatV c=some (0,[]):=by
   have hle2:lenV (immOf S x)=some 0:=by
    obtain ⟨A',n',cap',fl,cf,e1,hfl,_⟩:=Yl hN.ok (λid _=>hN.is id) hx (y:=x) (by
     unfold We at happ
     split at happ<;>first|(simp at happ;done)|(rename_i hh;rw [hh];rfl))
    simp only [Value.slice.injEq] at e1
    obtain ⟨_,rfl,_⟩:=e1
    exact (Qk hfl).2
   obtain ⟨A',n',cap',fl,cf,e1,hfl,_⟩:=Yl hN.ok (λid _=>hN.is id) hx (y:=x) (by
    unfold We at happ
    split at happ<;>first|(simp at happ;done)|(rename_i hh;rw [hh];rfl))
   simp only [Value.slice.injEq] at e1
   obtain ⟨_,rfl,_⟩:=e1
   have hl:=Qk hfl
   have hfl0:fl=[]:=Z5 (by rw [hl.1];simp)
   subst hfl0
   have hx0:flatV x0=some (0,[]):=by
    unfold isNil at h2
    split at h2<;>first|(simp at h2;done)|rfl|skip
    rename_i xx z
    have hz0:0<z:=by
     simp only [zOf] at h3
     obtain ⟨_,_,_,_,_⟩:=Wm hT (t:=e) (by unfold Ctx.bad at hbad;intro hh;rw [hh] at hbad;simp at hbad)
     unfold Ctx.buildSliceV at hb
     rw [hd] at hb
     simp only [hbad,Z20,if_false] at hb
     split at hb
     ·split at hb
      ·rename_i hh;rw [h3];exact Nat.pos_of_ne_zero hh.2
      ·simp at hb
     ·simp at hb
    simp [flatV,hz0]
   exact (J7 happ hx0 hfl).1
  obtain ⟨hrep,hp⟩:=Qjt hN.ok hq hfc (e:=e)
  exact fin _ (.slice none 0 0) (M.push S.length (.arr 0 true e c) (.nil none) M.w) (by simp only [Jm];exact hs2) (by rw [Qat];exact hdf2) (eval_put (by omega)) hrep hp
 |
  some ad=>
  simp only [Option.isNone_some,Z20,if_false]
  refine wp_skip ?_
  refine wp_seq (wp_region ?_)
  show wpOps P _ _ [0,1,2,3] _ _
  obtain ⟨cb,w1,hrunb,hgb,hrb,_⟩:=Qfk (M:=M) hT hN.ok (qs:=#[]) hb (by simp) (λj hj=>by simp at hj)
  have hpb:=post_world hN.ok S hgb
  refine Jr (o:=⟨some 5,.buildSlice t 0 #[],t,p4,a4,none⟩) rfl rfl (W6 (cv:=cb) (w':=w1) (by simp only [execOp,Sem.run_bind,Array.map_empty] at hrunb ⊢;rw [hrunb];rfl) ?_)
  refine Jr (o:=⟨some 6,.move (.tmp 0),t,p5,a5,none⟩) rfl rfl (W6 (cv:=.slice (some ad) n cap) (w':=w1) (by simp only [execOp,Qa8 (show (5:Nat)≠0 by decide),he2];rfl) ?_)
  obtain ⟨cv,v',M',S'',wr,hruna,hK,hra,hpa,hwa⟩:=Qhs (M:={M with w:=w1}) (tx:=t) (ty:=t) hT hpb.ok (λ_=>hq) (x:=x0) (y:=x) (cx:=cb) (cy:=.slice (some ad) n cap) (λid hid=>by
    exfalso
    cases x0<;>simp [isExact] at h1<;>simp [refs1] at hid) (λid _=>hN.is id) hev (.imm hrb) (hpb.step.rep hN.ok hx) hu
  simp only [K0,Zs,Z2] at hK
  obtain ⟨rfl,rfl⟩:=hK
  refine Jr (o:=⟨some 7,.call {callee:=.builtin .append,args:=#[.tmp 5,.tmp 6],argTypes:=#[t,t]},t,p6,a6,none⟩) rfl rfl (W6 (cv:=cv) (w':=M'.w) (by
   have e5:((act2.put (some 5) cb).put (some 6) (.slice (some ad) n cap)).eval (.tmp 5)=cb:=by rw [Qa8 (by decide)];exact eval_put (by omega)
   have e6:((act2.put (some 5) cb).put (some 6) (.slice (some ad) n cap)).eval (.tmp 6)=.slice (some ad) n cap:=eval_put (by simp only [Jm];omega)
   simp only [execOp,resolve,invoke,Sem.run_bind,Sem.run_pure,Result.andThen_ok,List.map_toArray,List.map_cons,List.map_nil,e5,e6,builtin,hruna]) ?_)
  refine Jr (o:=⟨some 2,.assign (.tmp 7),t,p7,a7,none⟩) rfl rfl (W6 (cv:=cv) (w':=M'.w) (by
   simp only [execOp,Sem.run_pure]
   rw [eval_put (by simp only [Jm];omega)]) ?_)
  show Code.ret.wp P _ _ _
  refine wp_ret ?_
  have hqr:S.length∈wr:=by
   by_cases hq':S.length∈wr
   ·exact hq'
   ·have:=hpa.keepS _ hq'
    simp [Zl] at this
  have hwr:wr ⊆ [S.length]:=λi hi=>by
   have:=hwa hi
   simp only [Z22] at this
   rcases this with h4|h4
   ·exfalso;cases x0<;>simp [isExact] at h1<;>simp [refs1] at h4
   ·exact h4
  refine fin _ cv M' (by simp only [Jm];exact hs2) (by simp only [Qat];exact hdf2) (eval_put (by simp only [Jm];omega)) hra ⟨hpb.step.trans hpa.step,hpa.ok,λid hid=>?_,λid hid=>?_,λid hid=>?_,λid hid=>?_,hpa.μ',hpa.len,hpa.len'⟩
  ·have:id=S.length:=by simpa using hid
   subst this;exact hpa.wrS _ hqr
  ·exact hpa.keepM id λh4=>hid (hwr h4)
  ·exact hpa.keepS id λh4=>hid (hwr h4)
  ·exact hpa.μ id hid
end
end Go.Proofs.YtihfdjkjpncjfaaGreatDoor.A
end
section
namespace Go.Proofs
open Go.Shelf
def Tryz.lays160_ren:Go.Shelf.Ren:=⟨fun|160=>160|232=>217|231=>216|227=>218|234=>220|233=>219|236=>222|235=>221|228=>295|271=>296|151=>268|197=>259|120=>328|152=>316|260=>315|137=>261|119=>332|224=>274|225=>273|217=>272|266=>317|n=>n,fun|9=>9|4=>4|3=>3|5=>5|117=>332|116=>331|0=>0|124=>335|21=>21|105=>365|46=>197|119=>408|139=>411|138=>410|n=>n,fun|3=>3|4=>4|n=>n⟩
theorem Tryz.lays160:Go.Proofs.Lays.n160 Tryz.prog Tryz.lays160_ren:={
 mixed:=by kernel_rfl
 f119:=Tryz.func332.trans (congrArg some (by kernel_rfl))
 f120:=Tryz.func328.trans (congrArg some (by kernel_rfl))
 f137:=Tryz.func261.trans (congrArg some (by kernel_rfl))
 f151:=Tryz.func268.trans (congrArg some (by kernel_rfl))
 f152:=Tryz.func316.trans (congrArg some (by kernel_rfl))
 f160:=Tryz.func160.trans (congrArg some (by kernel_rfl))
 f197:=Tryz.func259.trans (congrArg some (by kernel_rfl))
 f217:=Tryz.func272.trans (congrArg some (by kernel_rfl))
 f224:=Tryz.func274.trans (congrArg some (by kernel_rfl))
 f225:=Tryz.func273.trans (congrArg some (by kernel_rfl))
 f227:=Tryz.func218.trans (congrArg some (by kernel_rfl))
 f228:=Tryz.func295.trans (congrArg some (by kernel_rfl))
 f231:=Tryz.func216.trans (congrArg some (by kernel_rfl))
 f232:=Tryz.func217.trans (congrArg some (by kernel_rfl))
 f233:=Tryz.func219.trans (congrArg some (by kernel_rfl))
 f234:=Tryz.func220.trans (congrArg some (by kernel_rfl))
 f235:=Tryz.func221.trans (congrArg some (by kernel_rfl))
 f236:=Tryz.func222.trans (congrArg some (by kernel_rfl))
 f260:=Tryz.func315.trans (congrArg some (by kernel_rfl))
 f266:=Tryz.func317.trans (congrArg some (by kernel_rfl))
 f271:=Tryz.func296.trans (congrArg some (by kernel_rfl))
 t0:=Tryz.underlying0
 a0:=Tryz.isAgg0
 z0:=Tryz.sizeOf0
 v0:=Tryz.zeroValue0
 t3:=Tryz.underlying3
 a3:=Tryz.isAgg3
 z3:=Tryz.sizeOf3
 v3:=Tryz.zeroValue3
 t4:=Tryz.underlying4
 a4:=Tryz.isAgg4
 z4:=Tryz.sizeOf4
 v4:=Tryz.zeroValue4
 t5:=Tryz.underlying5
 a5:=Tryz.isAgg5
 z5:=Tryz.sizeOf5
 v5:=Tryz.zeroValue5
 t9:=Tryz.underlying9
 a9:=Tryz.isAgg9
 z9:=Tryz.sizeOf9
 v9:=Tryz.zeroValue9
 t21:=Tryz.underlying21
 a21:=Tryz.isAgg21
 z21:=Tryz.sizeOf21
 v21:=Tryz.zeroValue21
 t46:=Tryz.underlying197
 a46:=Tryz.isAgg197
 z46:=Tryz.sizeOf197
 v46:=Tryz.zeroValue197
 t105:=Tryz.underlying365
 a105:=Tryz.isAgg365
 z105:=Tryz.sizeOf365
 v105:=Tryz.zeroValue365
 t116:=Tryz.underlying331
 a116:=Tryz.isAgg331
 z116:=Tryz.sizeOf331
 t117:=Tryz.underlying332
 a117:=Tryz.isAgg332
 z117:=Tryz.sizeOf332
 v117:=Tryz.zeroValue332
 t119:=Tryz.underlying408
 a119:=Tryz.isAgg408
 z119:=Tryz.sizeOf408
 t124:=Tryz.underlying335
 a124:=Tryz.isAgg335
 z124:=Tryz.sizeOf335
 v124:=Tryz.zeroValue335
 t138:=Tryz.underlying410
 a138:=Tryz.isAgg410
 z138:=Tryz.sizeOf410
 v138:=Tryz.zeroValue410
 t139:=Tryz.underlying411
 a139:=Tryz.isAgg411
 z139:=Tryz.sizeOf411
 v139:=Tryz.zeroValue411
 g3:=by kernel_rfl
 g4:=by kernel_rfl}
def Tryz.lays161_ren:Go.Shelf.Ren:=⟨fun|161=>260|231=>216|227=>218|233=>219|235=>221|228=>295|197=>259|151=>268|260=>315|152=>316|137=>261|119=>332|224=>274|225=>273|217=>272|266=>317|n=>n,fun|9=>9|4=>4|3=>3|5=>5|117=>332|116=>331|0=>0|124=>335|105=>365|21=>21|119=>408|46=>197|139=>411|138=>410|n=>n,fun|3=>3|4=>4|n=>n⟩
theorem Tryz.lays161:Go.Proofs.Lays.n161 Tryz.prog Tryz.lays161_ren:={
 mixed:=by kernel_rfl
 f119:=Tryz.func332.trans (congrArg some (by kernel_rfl))
 f137:=Tryz.func261.trans (congrArg some (by kernel_rfl))
 f151:=Tryz.func268.trans (congrArg some (by kernel_rfl))
 f152:=Tryz.func316.trans (congrArg some (by kernel_rfl))
 f161:=Tryz.func260.trans (congrArg some (by kernel_rfl))
 f197:=Tryz.func259.trans (congrArg some (by kernel_rfl))
 f217:=Tryz.func272.trans (congrArg some (by kernel_rfl))
 f224:=Tryz.func274.trans (congrArg some (by kernel_rfl))
 f225:=Tryz.func273.trans (congrArg some (by kernel_rfl))
 f227:=Tryz.func218.trans (congrArg some (by kernel_rfl))
 f228:=Tryz.func295.trans (congrArg some (by kernel_rfl))
 f231:=Tryz.func216.trans (congrArg some (by kernel_rfl))
 f233:=Tryz.func219.trans (congrArg some (by kernel_rfl))
 f235:=Tryz.func221.trans (congrArg some (by kernel_rfl))
 f260:=Tryz.func315.trans (congrArg some (by kernel_rfl))
 f266:=Tryz.func317.trans (congrArg some (by kernel_rfl))
 t0:=Tryz.underlying0
 a0:=Tryz.isAgg0
 z0:=Tryz.sizeOf0
 v0:=Tryz.zeroValue0
 t3:=Tryz.underlying3
 a3:=Tryz.isAgg3
 z3:=Tryz.sizeOf3
 v3:=Tryz.zeroValue3
 t4:=Tryz.underlying4
 a4:=Tryz.isAgg4
 z4:=Tryz.sizeOf4
 v4:=Tryz.zeroValue4
 t5:=Tryz.underlying5
 a5:=Tryz.isAgg5
 z5:=Tryz.sizeOf5
 v5:=Tryz.zeroValue5
 t9:=Tryz.underlying9
 a9:=Tryz.isAgg9
 z9:=Tryz.sizeOf9
 v9:=Tryz.zeroValue9
 t21:=Tryz.underlying21
 a21:=Tryz.isAgg21
 z21:=Tryz.sizeOf21
 v21:=Tryz.zeroValue21
 t46:=Tryz.underlying197
 a46:=Tryz.isAgg197
 z46:=Tryz.sizeOf197
 v46:=Tryz.zeroValue197
 t105:=Tryz.underlying365
 a105:=Tryz.isAgg365
 z105:=Tryz.sizeOf365
 v105:=Tryz.zeroValue365
 t116:=Tryz.underlying331
 a116:=Tryz.isAgg331
 z116:=Tryz.sizeOf331
 t117:=Tryz.underlying332
 a117:=Tryz.isAgg332
 z117:=Tryz.sizeOf332
 v117:=Tryz.zeroValue332
 t119:=Tryz.underlying408
 a119:=Tryz.isAgg408
 z119:=Tryz.sizeOf408
 t124:=Tryz.underlying335
 a124:=Tryz.isAgg335
 z124:=Tryz.sizeOf335
 v124:=Tryz.zeroValue335
 t138:=Tryz.underlying410
 a138:=Tryz.isAgg410
 z138:=Tryz.sizeOf410
 v138:=Tryz.zeroValue410
 t139:=Tryz.underlying411
 a139:=Tryz.isAgg411
 z139:=Tryz.sizeOf411
 v139:=Tryz.zeroValue411
 g3:=by kernel_rfl
 g4:=by kernel_rfl}
def Tryz.lays105_ren:Go.Shelf.Ren:=⟨fun|105=>314|212=>330|99=>58|165=>123|166=>117|170=>331|169=>119|263=>337|264=>297|206=>124|240=>185|241=>196|276=>256|277=>271|n=>n,fun|9=>9|3=>3|4=>4|20=>20|0=>0|46=>197|109=>406|5=>5|72=>215|76=>218|51=>65|146=>403|53=>63|148=>245|70=>213|37=>23|75=>217|127=>302|164=>362|80=>43|n=>n,fun|n=>n⟩
theorem Tryz.lays105:Go.Proofs.Lays.n105 Tryz.prog Tryz.lays105_ren:={
 mixed:=by kernel_rfl
 f99:=Tryz.func58.trans (congrArg some (by kernel_rfl))
 f105:=Tryz.func314.trans (congrArg some (by kernel_rfl))
 f165:=Tryz.func123.trans (congrArg some (by kernel_rfl))
 f166:=Tryz.func117.trans (congrArg some (by kernel_rfl))
 f169:=Tryz.func119.trans (congrArg some (by kernel_rfl))
 f170:=Tryz.func331.trans (congrArg some (by kernel_rfl))
 f206:=Tryz.func124.trans (congrArg some (by kernel_rfl))
 f212:=Tryz.func330.trans (congrArg some (by kernel_rfl))
 f240:=Tryz.func185.trans (congrArg some (by kernel_rfl))
 f241:=Tryz.func196.trans (congrArg some (by kernel_rfl))
 f263:=Tryz.func337.trans (congrArg some (by kernel_rfl))
 f264:=Tryz.func297.trans (congrArg some (by kernel_rfl))
 f276:=Tryz.func256.trans (congrArg some (by kernel_rfl))
 f277:=Tryz.func271.trans (congrArg some (by kernel_rfl))
 t0:=Tryz.underlying0
 a0:=Tryz.isAgg0
 z0:=Tryz.sizeOf0
 v0:=Tryz.zeroValue0
 t3:=Tryz.underlying3
 a3:=Tryz.isAgg3
 z3:=Tryz.sizeOf3
 v3:=Tryz.zeroValue3
 t4:=Tryz.underlying4
 a4:=Tryz.isAgg4
 z4:=Tryz.sizeOf4
 v4:=Tryz.zeroValue4
 t5:=Tryz.underlying5
 a5:=Tryz.isAgg5
 z5:=Tryz.sizeOf5
 v5:=Tryz.zeroValue5
 t9:=Tryz.underlying9
 a9:=Tryz.isAgg9
 z9:=Tryz.sizeOf9
 v9:=Tryz.zeroValue9
 t20:=Tryz.underlying20
 a20:=Tryz.isAgg20
 z20:=Tryz.sizeOf20
 v20:=Tryz.zeroValue20
 t37:=Tryz.underlying23
 a37:=Tryz.isAgg23
 z37:=Tryz.sizeOf23
 v37:=Tryz.zeroValue23
 t46:=Tryz.underlying197
 a46:=Tryz.isAgg197
 z46:=Tryz.sizeOf197
 v46:=Tryz.zeroValue197
 t51:=Tryz.underlying65
 a51:=Tryz.isAgg65
 z51:=Tryz.sizeOf65
 v51:=Tryz.zeroValue65
 t53:=Tryz.underlying63
 a53:=Tryz.isAgg63
 z53:=Tryz.sizeOf63
 v53:=Tryz.zeroValue63
 t70:=Tryz.underlying213
 a70:=Tryz.isAgg213
 z70:=Tryz.sizeOf213
 v70:=Tryz.zeroValue213
 t72:=Tryz.underlying215
 a72:=Tryz.isAgg215
 z72:=Tryz.sizeOf215
 v72:=Tryz.zeroValue215
 t75:=Tryz.underlying217
 a75:=Tryz.isAgg217
 z75:=Tryz.sizeOf217
 v75:=Tryz.zeroValue217
 t76:=Tryz.underlying218
 a76:=Tryz.isAgg218
 z76:=Tryz.sizeOf218
 v76:=Tryz.zeroValue218
 t109:=Tryz.underlying406
 a109:=Tryz.isAgg406
 z109:=Tryz.sizeOf406
 v109:=Tryz.zeroValue406
 t127:=Tryz.underlying302
 a127:=Tryz.isAgg302
 z127:=Tryz.sizeOf302
 v127:=Tryz.zeroValue302
 t146:=Tryz.underlying403
 a146:=Tryz.isAgg403
 z146:=Tryz.sizeOf403
 v146:=Tryz.zeroValue403
 t148:=Tryz.underlying245
 a148:=Tryz.isAgg245
 z148:=Tryz.sizeOf245
 v148:=Tryz.zeroValue245
 t164:=Tryz.underlying362
 a164:=Tryz.isAgg362
 z164:=Tryz.sizeOf362
 v164:=Tryz.zeroValue362}
def Tryz.lays156_ren:Go.Shelf.Ren:=⟨fun|156=>52|165=>123|166=>117|169=>119|240=>185|241=>196|276=>256|277=>271|n=>n,fun|31=>121|9=>9|3=>3|4=>4|0=>0|20=>20|72=>215|76=>218|70=>213|37=>23|75=>217|127=>302|164=>362|5=>5|80=>43|n=>n,fun|n=>n⟩
theorem Tryz.lays156:Go.Proofs.Lays.n156 Tryz.prog Tryz.lays156_ren:={
 mixed:=by kernel_rfl
 f156:=Tryz.func52.trans (congrArg some (by kernel_rfl))
 f165:=Tryz.func123.trans (congrArg some (by kernel_rfl))
 f166:=Tryz.func117.trans (congrArg some (by kernel_rfl))
 f169:=Tryz.func119.trans (congrArg some (by kernel_rfl))
 f240:=Tryz.func185.trans (congrArg some (by kernel_rfl))
 f241:=Tryz.func196.trans (congrArg some (by kernel_rfl))
 f276:=Tryz.func256.trans (congrArg some (by kernel_rfl))
 f277:=Tryz.func271.trans (congrArg some (by kernel_rfl))
 t0:=Tryz.underlying0
 a0:=Tryz.isAgg0
 z0:=Tryz.sizeOf0
 v0:=Tryz.zeroValue0
 t3:=Tryz.underlying3
 a3:=Tryz.isAgg3
 z3:=Tryz.sizeOf3
 v3:=Tryz.zeroValue3
 t4:=Tryz.underlying4
 a4:=Tryz.isAgg4
 z4:=Tryz.sizeOf4
 v4:=Tryz.zeroValue4
 t9:=Tryz.underlying9
 a9:=Tryz.isAgg9
 z9:=Tryz.sizeOf9
 v9:=Tryz.zeroValue9
 t20:=Tryz.underlying20
 a20:=Tryz.isAgg20
 z20:=Tryz.sizeOf20
 v20:=Tryz.zeroValue20
 t31:=Tryz.underlying121
 a31:=Tryz.isAgg121
 z31:=Tryz.sizeOf121
 v31:=Tryz.zeroValue121
 t37:=Tryz.underlying23
 a37:=Tryz.isAgg23
 z37:=Tryz.sizeOf23
 v37:=Tryz.zeroValue23
 t70:=Tryz.underlying213
 a70:=Tryz.isAgg213
 z70:=Tryz.sizeOf213
 v70:=Tryz.zeroValue213
 t72:=Tryz.underlying215
 a72:=Tryz.isAgg215
 z72:=Tryz.sizeOf215
 v72:=Tryz.zeroValue215
 t75:=Tryz.underlying217
 a75:=Tryz.isAgg217
 z75:=Tryz.sizeOf217
 v75:=Tryz.zeroValue217
 t76:=Tryz.underlying218
 a76:=Tryz.isAgg218
 z76:=Tryz.sizeOf218
 v76:=Tryz.zeroValue218
 t127:=Tryz.underlying302
 a127:=Tryz.isAgg302
 z127:=Tryz.sizeOf302
 v127:=Tryz.zeroValue302
 t164:=Tryz.underlying362
 a164:=Tryz.isAgg362
 z164:=Tryz.sizeOf362
 v164:=Tryz.zeroValue362}
theorem Tryz.Builder_Extra_105:Builder.Extra Tryz.prog Tryz.lays105_ren:={
 sizeBuilder:=by kernel_rfl
 liesBuilder:=by kernel_rfl
 t5:=Tryz.underlying5
 a5:=Tryz.isAgg5
 z5:=Tryz.sizeOf5
 v5:=Tryz.zeroValue5
 infoByte:=by kernel_rfl
 cellsByte:=by kernel_rfl
 sizeByte:=by kernel_rfl
 neB5:=by decide}
theorem Tryz.Builder_Extra_156:Builder.Extra Tryz.prog Tryz.lays156_ren:={
 sizeBuilder:=by kernel_rfl
 liesBuilder:=by kernel_rfl
 t5:=Tryz.underlying5
 a5:=Tryz.isAgg5
 z5:=Tryz.sizeOf5
 v5:=Tryz.zeroValue5
 infoByte:=by kernel_rfl
 cellsByte:=by kernel_rfl
 sizeByte:=by kernel_rfl
 neB5:=by decide}
end Go.Proofs
end
section
namespace Go.Proofs.YtihfdjkjpncjfaaGreatDoor.A
open Go Go.RowKit
def copyP (T:Nat):Qcb:=λ_ args S K=>match args with
 |
  [.ptr id 0]=>match S.getD id .dead with
  |
   .cells t (p::r)=>if t=T/\r.length=1 then (match p with
   |.nilp=>K (.tup []) (S.set id (.cells t (.ptr id 0::r)))
   |.ptr id' 0=>if id'=id then K (.tup []) S else none
   |_=>none) else none
  |_=>none
 |_=>none
theorem Qve {P:Program} {g:Nat} {T:Nat} (hE:∀args w,(callFunc g args).run P w=.ok (.enter g args) w)
  (hF:∀(b:Nat) (w:World),w.cell? ⟨b,0,none⟩=some (.pointer none)->w.shape? b=some (T,2)->w.frozen? ⟨b,0,none⟩=false ->
   Calls P g #[.pointer (some ⟨b,0,none⟩)] w λe w'=>e=.returned (.tuple #[])/\w'=w.setCell ⟨b,0,none⟩ (.pointer (some ⟨b,0,none⟩)))
  (hU:∀(b:Nat) (w:World),w.cell? ⟨b,0,none⟩=some (.pointer (some ⟨b,0,none⟩)) ->
   Calls P g #[.pointer (some ⟨b,0,none⟩)] w λe w'=>e=.returned (.tuple #[])/\w'=w):SoundP P g (copyP T):=by
 refine ⟨λR args S K=>?_,λargs S v S' M cargs h hN hsz hr=>?_⟩
 ·unfold copyP
  repeat' split
  all_goals rfl
 simp only [copyP,K0] at h
 split at h
 case h_2=>simp at h
 rename_i bid
 split at h
 case h_2=>simp at h
 rename_i t p r hk
 split at h
 case isFalse=>simp at h
 rename_i hc
 obtain ⟨rfl,hrl⟩:=hc
 obtain ⟨cx,rfl⟩:∃cx,cargs = #[cx]:=⟨cargs.getD 0 Go.undef,by
  apply Array.ext
  ·simpa using hsz
  ·intro i hi hi'
   have:i=0:=by simp at hi';exact hi'
   subst this;simp [Z0,hi]⟩
 have hx:Rep M cx (.ptr bid 0):=by simpa using hr 0 (by simp)
 have hk':M.S bid=.cells t (p::r):=(hN.is bid).trans hk
 have hR:=Wz hx
 obtain ⟨_,_,hp⟩:=hR
 obtain ⟨b,o,cap,hμ,rfl⟩:=hp (by rw [hk'];rfl)
 have hB:=hN.ok.blk bid _ hμ
 rw [hk'] at hB
 obtain ⟨_,_,_,he,hO,hlt,⟨ho,hsh⟩,hcell⟩:=hB
 cases he
 subst ho
 simp only [Z8,hrl] at hsh
 obtain ⟨cv,hcv,_,hrp,hfz⟩:=hcell 0 (by simp)
 simp only [Z34,Z71] at hcv hrp hfz
 have hend:∀{R:Value->World->Prop},(Calls P g #[.pointer (some ⟨b,0,none⟩)] M.w fun | .returned cv,w''=>R cv w''|_,_=>False)->CallR P g #[.pointer (some ⟨b,0,none⟩)] M.w R:=λ{R} h=>by
  unfold CallR;rw [hE];exact h
 show CallR P g #[.pointer (some ⟨b,0+0,none⟩)] M.w _
 refine hend ?_
 split at h
 ·simp only [Zs,Z2] at h
  obtain ⟨rfl,rfl⟩:=h
  obtain rfl:=Qai hrp
  refine (hF b M.w hcv hsh hfz).mono λe w' he=>?_
  obtain ⟨rfl,rfl⟩:=he
  obtain ⟨_,hW,hB'⟩:=Qkt hN.ok hk' hμ (off:=0) hx rfl (by simp [cellsOf])
  have hpw:=post_write hN.ok hW hB' (Wb hk (by simp))
  exact ⟨_,rfl,hpw.step,hpw.now hN,.imm (.tup #[] [] rfl (λj hj=>by simp at hj)),hpw.len⟩
 ·rename_i id'
  split at h
  case isFalse=>simp at h
  rename_i hid
  subst hid
  simp only [Zs,Z2] at h
  obtain ⟨rfl,rfl⟩:=h
  obtain ⟨_,_,hp2⟩:=Wz hrp
  obtain ⟨b2,o2,cap2,hμ2,rfl⟩:=hp2 (by rw [hk'];rfl)
  rw [hμ] at hμ2
  cases hμ2
  refine (hU b M.w hcv).mono λe w' he=>?_
  obtain ⟨rfl,rfl⟩:=he
  exact ⟨M,rfl,.refl M,hN,.imm (.tup #[] [] rfl (λj hj=>by simp at hj)),Z3 _⟩
 ·simp at h
theorem Qkn:Tryz.f185.ntmps=20:=by kernel_rfl
set_option maxHeartbeats 1000000 in
set_option maxRecDepth 100000 in
theorem Qsa (b:Nat) (w:World) (h0:w.cell? ⟨b,0,none⟩=some (.pointer (some ⟨b,0,none⟩))) :
  Calls Tryz.prog 185 #[.pointer (some ⟨b,0,none⟩)] w λe w'=>e=.returned (.tuple #[])/\w'=w:=by
 have hz:(Tryz.prog.info? 215).map (·.size)=some 2:=by kernel_rfl
 obtain ⟨j,hj,_⟩:=Z19.1 hz
 have mixed:Tryz.prog.follows .mixedOrders=true:=by kernel_rfl
 have t72:=Tryz.underlying215;have a72:=Tryz.isAgg215;have z72:=Tryz.sizeOf215;have v72:=Tryz.zeroValue215;have u72:=run_underlying Tryz.underlying215
 have t70:=Tryz.underlying213;have a70:=Tryz.isAgg213;have z70:=Tryz.sizeOf213;have v70:=Tryz.zeroValue213;have u70:=run_underlying Tryz.underlying213
 have t4:=Tryz.underlying4;have a4:=Tryz.isAgg4;have z4:=Tryz.sizeOf4;have v4:=Tryz.zeroValue4;have u4:=run_underlying Tryz.underlying4
 have t164:=Tryz.underlying362;have a164:=Tryz.isAgg362;have z164:=Tryz.sizeOf362;have v164:=Tryz.zeroValue362;have u164:=run_underlying Tryz.underlying362
 go_enter Tryz.func185,Qkn
 go_wp2
 rw [Lib.run_neq_ptr_same w _ Tryz.underlying213 hj]
 go_wp2
 go_end0
 exact ⟨rfl,rfl⟩
set_option maxHeartbeats 1000000 in
set_option maxRecDepth 100000 in
theorem Qrh (b:Nat) (w:World) (h0:w.cell? ⟨b,0,none⟩=some (.pointer none)) (hsh:w.shape? b=some (215,2)) (hfz:w.frozen? ⟨b,0,none⟩=false) :
  Calls Tryz.prog 185 #[.pointer (some ⟨b,0,none⟩)] w λe w'=>e=.returned (.tuple #[])/\w'=w.setCell ⟨b,0,none⟩ (.pointer (some ⟨b,0,none⟩)):=by
 have hz:(Tryz.prog.info? 215).map (·.size)=some 2:=by kernel_rfl
 have hl:liesAt Tryz.prog Tryz.prog.depth 215 (2/Tryz.prog.cellsOf 215) 0 215 1=true:=by kernel_rfl
 obtain ⟨j,hj,hjs⟩:=Z19.1 hz
 have mixed:Tryz.prog.follows .mixedOrders=true:=by kernel_rfl
 have t72:=Tryz.underlying215;have a72:=Tryz.isAgg215;have z72:=Tryz.sizeOf215;have v72:=Tryz.zeroValue215;have u72:=run_underlying Tryz.underlying215
 have t70:=Tryz.underlying213;have a70:=Tryz.isAgg213;have z70:=Tryz.sizeOf213;have v70:=Tryz.zeroValue213;have u70:=run_underlying Tryz.underlying213
 have t4:=Tryz.underlying4;have a4:=Tryz.isAgg4;have z4:=Tryz.sizeOf4;have v4:=Tryz.zeroValue4;have u4:=run_underlying Tryz.underlying4
 have t164:=Tryz.underlying362;have a164:=Tryz.isAgg362;have z164:=Tryz.sizeOf362;have v164:=Tryz.zeroValue362;have u164:=run_underlying Tryz.underlying362
 go_enter Tryz.func185,Qkn
 go_wp2
 rw [Lib.run_to_unsafe w ⟨b,0,none⟩ Tryz.underlying213 Tryz.underlying362 hj (by rw [hjs];decide) hsh (Nat.zero_lt_succ 1)]
 simp only [Result.andThen]
 rw [Oper.upon_value]
 go_wp2
 rw [run_callFunc_extern Tryz.func256 (by kernel_rfl) (by kernel_rfl) (by kernel_rfl) (e:=Extern.AbiNoEscape.same) (by kernel_rfl)]
 rw [Lib.run_noEscape]
 simp only [Result.andThen]
 rw [Oper.upon_value]
 go_wp2
 rw [Lib.run_from_unsafe w ⟨b,0,none⟩ Tryz.underlying362 Tryz.underlying213 hj hsh hl]
 simp only [Result.andThen]
 rw [Oper.upon_value]
 go_wp2
 go_end0
 exact ⟨rfl,rfl⟩
end Go.Proofs.YtihfdjkjpncjfaaGreatDoor.A
end
section
set_option maxRecDepth 100000
namespace Go.Proofs.YtihfdjkjpncjfaaGreatDoor.A
open Go Go.RowKit
section
variable {P:Program}
theorem Y0 {O:Nat->Prop} {w:World} {cv:Value} {k:IntKind} {n:Int} (h:Rep0 O w cv (.int k n)):cv=.int k n:=by
 cases h with
 |int=>rfl
 |slice A n' cap v fl cf hf=>simp [flatV] at hf
theorem Jf {O:Nat->Prop} {w:World} {cv:Value} {l:J1} (h:Rep0 O w cv (.str l)):∃s:ByteArray,cv=.string s/\s.data.toList=l:=by
 cases h with
 |str s l h=>exact ⟨s,rfl,h⟩
 |slice A n' cap v fl cf hf=>simp [flatV] at hf
theorem Qmw {args:Array Value} (h:args.size=3):args = #[args.getD 0 Go.undef,args.getD 1 Go.undef,args.getD 2 Go.undef]:=by
 apply Array.ext
 ·simp [h]
 ·intro i hi hi'
  have:i=0\/i=1\/i=2:=by simp at hi';omega
  rcases this with rfl|rfl|rfl<;>simp [Z0,h]
theorem Qbe {args:Array Value} (h:args.size=2):args = #[args.getD 0 Go.undef,args.getD 1 Go.undef]:=by
 apply Array.ext
 ·simp [h]
 ·intro i hi hi'
  have:i=0\/i=1:=by simp at hi';omega
  rcases this with rfl|rfl<;>simp [Z0,h]
theorem grown_refl (w:World):w.grownBy w none:=⟨rfl,rfl,rfl,Z3 _,λ_ _ _=>rfl⟩
theorem Qc8 {w w':World} (h:Below w.heap.size w w'):w.grownBy w' none:=⟨h.os,h.tape,h.output,h.size,λk hk _=>h.block k hk⟩
theorem Qej {f:FuncId} {fn:Func} {e:Array Value->Sem Value} (hf:P.funcs[f]? = some fn) (hname:(fn.name == "runtime.NumGoroutine")=false) (hb:fn.body.isNone=true) (hn:Extern.findNext fn=none) (he:Extern.find fn=some e)
  {args:Array Value} {w:World} {cv:Value} {R:Value->World->Prop} (hr:(e args).run P w=.ok cv w) (h:R cv w):CallR P f args w R:=by
 unfold CallR
 rw [run_callFunc_extern hf hname hb hn he,hr]
 exact h
end
def z0.F (x y c:Int):Option (Int×Int):=if 0<=x/\0<=y/\0<=c/\c<=1 then some ((x+y+c)%18446744073709551616,(x+y+c)/18446744073709551616) else none
def z0.enc (r:Int×Int):V:=.tup [.int .u64 r.1,.int .u64 r.2]
def z0.pack:List V->Option Pack
 |[.int .u64 x,.int .u64 y,.int .u64 c]=>some ⟨Int×Int,z0.F x y c,z0.enc⟩
 |_=>none
theorem Qio {O:Nat->Prop} {w:World} {a b:Int}:Rep0 O w (.tuple #[.int .u64 a,.int .u64 b]) (.tup [.int .u64 a,.int .u64 b]):=by
 refine .tup _ _ (by simp) λj hj=>?_
 have:j=0\/j=1:=by simp at hj;omega
 rcases this with rfl|rfl
 ·exact .int _ _
 ·exact .int _ _
theorem z0.sound (vs:List V) (p:Pack) (h:z0.pack vs=some p):SoundC Tryz.prog 138 vs p:=by
 unfold z0.pack at h
 split at h
 case h_2=>simp at h
 rename_i x y c
 simp only [Zs] at h
 subst h
 intro O w args r hm hs hr hO
 simp only [z0.F] at hm
 split at hm
 case isFalse=>simp at hm
 rename_i hc
 simp only [Zs] at hm
 subst hm
 have h0:=Y0 (hr 0 (by simp));have h1:=Y0 (hr 1 (by simp));have h2:=Y0 (hr 2 (by simp))
 rw [Qmw (show args.size=3 by simpa using hs),h0,h1,h2]
 exact Qej Tryz.func138 (by kernel_rfl) (by kernel_rfl) (by kernel_rfl) (e:=add64Entry) (by kernel_rfl) (run_add64 x y c hc.1 hc.2.1 hc.2.2.1 hc.2.2.2 w) ⟨grown_refl w,Qio⟩
def z1.F (x y b:Int):Option (Int×Int):=if 0<=x/\0<=y/\y<18446744073709551616/\0<=b/\b<=1 then some ((x-y-b)%18446744073709551616,if x<y+b then 1 else 0) else none
def z1.enc (r:Int×Int):V:=.tup [.int .u64 r.1,.int .u64 r.2]
def z1.pack:List V->Option Pack
 |[.int .u64 x,.int .u64 y,.int .u64 c]=>some ⟨Int×Int,z1.F x y c,z1.enc⟩
 |_=>none
def Qih:Array Value->Sem Value:=λargs=>do
 let (x,y,b) <-Extern.MathBitsCarry.three "Sub64" args
 pure (Extern.MathBitsCarry.pair ((x+Extern.MathBitsCarry.m64-y-b)%Extern.MathBitsCarry.m64) (if x<y+b then 1 else 0))
theorem Qn6 {P:Program} (x y b:Nat) (hb:b<=1) (w:World) :
  (Qih #[.int .u64 x,.int .u64 y,.int .u64 b]).run P w =
   .ok (.tuple #[.int .u64 (((x+18446744073709551616-y-b)%18446744073709551616:Nat):Int),.int .u64 ((if x<y+b then 1 else 0:Nat):Int)]) w:=by
 have:b=0\/b=1:=by omega
 rcases this with rfl|rfl<;>rfl
theorem z1.sound (vs:List V) (p:Pack) (h:z1.pack vs=some p):SoundC Tryz.prog 141 vs p:=by
 unfold z1.pack at h
 split at h
 case h_2=>simp at h
 rename_i x y b
 simp only [Zs] at h
 subst h
 intro O w args r hm hs hr hO
 simp only [z1.F] at hm
 split at hm
 case isFalse=>simp at hm
 rename_i hc
 obtain ⟨hx,hy,hy2,hb,hb1⟩:=hc
 simp only [Zs] at hm
 subst hm
 have h0:=Y0 (hr 0 (by simp));have h1:=Y0 (hr 1 (by simp));have h2:=Y0 (hr 2 (by simp))
 rw [Qmw (show args.size=3 by simpa using hs),h0,h1,h2]
 obtain ⟨x,rfl⟩:=Int.eq_ofNat_of_zero_le hx
 obtain ⟨y,rfl⟩:=Int.eq_ofNat_of_zero_le hy
 obtain ⟨b,rfl⟩:=Int.eq_ofNat_of_zero_le hb
 refine Qej Tryz.func141 (by kernel_rfl) (by kernel_rfl) (by kernel_rfl) (e:=Qih) (by kernel_rfl) (Qn6 x y b (by omega) w) ⟨grown_refl w,?_⟩
 have e1:(((x+18446744073709551616-y-b)%18446744073709551616:Nat):Int)=((x:Int)-y-b)%18446744073709551616:=by omega
 have e2:((if x<y+b then 1 else 0:Nat):Int)=if (x:Int)<y+b then 1 else 0:=by
  by_cases hlt:x<y+b
  ·rw [if_pos hlt,if_pos (by omega)];rfl
  ·rw [if_neg hlt,if_neg (by omega)];rfl
 rw [e1,e2]
 exact Qio
def byteIdx (s:J1) (c:UInt8):Int:=
 match (List.range s.length).find? λi=>s.getD i 0 == c with
 |some i=>i
 |none=>-1
def z2.F (s:J1) (c:Int):Option Int:=some (byteIdx s c.toNat.toUInt8)
def z2.enc (r:Int):V:=.int .i64 r
def z2.pack:List V->Option Pack
 |[.str s,.int .u8 c]=>some ⟨Int,z2.F s c,z2.enc⟩
 |_=>none
theorem Qnv {l:List Nat} {p q:Nat->Bool} (h:∀i∈l,p i=q i):l.find? p=l.find? q:=by
 induction l with
 |nil=>rfl
 |
  cons a l ih=>
  simp only [List.find?_cons]
  rw [h a (by simp),ih λi hi=>h i (by simp [hi])]
theorem Qqy (s:ByteArray) (c:UInt8):firstIdx s c=byteIdx s.data.toList c:=by
 unfold firstIdx byteIdx
 have hz:s.size=s.data.toList.length:=by rw [Z23];rfl
 have e:((List.range s.data.toList.length).find? λi=>s[i]! == c)=(List.range s.data.toList.length).find? λi=>s.data.toList.getD i 0 == c:=Qnv λi hi=>by
  have hi':i<s.data.toList.length:=by simpa using hi
  have hs:i<s.size:=by rw [hz];exact hi'
  have:s[i]! = s.data.toList.getD i 0:=by
   rw [getElem!_pos s i hs]
   simp only [Zl,Z1 hi',Z40]
   rfl
  rw [this]
 rw [hz,e]
 cases (List.range s.data.toList.length).find? λi=>s.data.toList.getD i 0 == c<;>rfl
theorem z2.sound (vs:List V) (p:Pack) (h:z2.pack vs=some p):SoundC Tryz.prog 317 vs p:=by
 unfold z2.pack at h
 split at h
 case h_2=>simp at h
 rename_i s c
 simp only [Zs] at h
 subst h
 intro O w args r hm hs hr hO
 simp only [z2.F,Zs] at hm
 subst hm
 obtain ⟨s',h0,rfl⟩:=Jf (hr 0 (by simp));have h1:=Y0 (hr 1 (by simp))
 rw [Qbe (show args.size=2 by simpa using hs),h0,h1]
 refine Qej Tryz.func317 (by kernel_rfl) (by kernel_rfl) (by kernel_rfl) (e:=Extern.BytealgIndexByte.indexByte) (by kernel_rfl) (run_indexByte_string s' c w) ⟨grown_refl w,?_⟩
 rw [Qqy];exact .int _ _
def z3.F (s:J1) (c:Int):Option Int:=some ((Lib.countByte s c.toNat.toUInt8:Nat):Int)
def z3.enc (r:Int):V:=.int .i64 r
def z3.pack:List V->Option Pack
 |[.str s,.int .u8 c]=>some ⟨Int,z3.F s c,z3.enc⟩
 |_=>none
theorem z3.sound (vs:List V) (p:Pack) (h:z3.pack vs=some p):SoundC Tryz.prog 127 vs p:=by
 unfold z3.pack at h
 split at h
 case h_2=>simp at h
 rename_i s c
 simp only [Zs] at h
 subst h
 intro O w args r hm hs hr hO
 simp only [z3.F,Zs] at hm
 subst hm
 obtain ⟨s',h0,rfl⟩:=Jf (hr 0 (by simp));have h1:=Y0 (hr 1 (by simp))
 rw [Qbe (show args.size=2 by simpa using hs),h0,h1]
 exact Qej Tryz.func127 (by kernel_rfl) (by kernel_rfl) (by kernel_rfl) (e:=Extern.BytealgCount.count) (by kernel_rfl) (Lib.run_countString s' c w) ⟨grown_refl w,.int _ _⟩
def trimL (l cs:J1):J1:=l.dropWhile (cs.contains ·)
def Qez (l:J1):Bool:=l.all λc=>decide (c.toNat<128)
theorem Qk0 {l:J1} (h:Qez l=true) (j:Nat) (b:UInt8) (hb:l[j]? = some b):b.toNat<128:=by
 have:=Z14.1 h b (List.mem_of_getElem? hb)
 simpa using this
def z4.F (s cs:J1):Option J1:=if s.length<=9223372036854775807/\cs.length<4294967281/\Qez cs=true then some (Lib.trimS s cs) else none
def z4.enc (r:J1):V:=.str r
def z4.pack:List V->Option Pack
 |[.str s,.str c]=>some ⟨J1,z4.F s c,z4.enc⟩
 |_=>none
theorem Qd1 {P:Program} {g:FuncId} {f:Func} {args:Array Value} {w:World} {R:Value->World->Prop} (hf:P.funcs[g]? = some f) (hb:f.body.isNone=false) (hname:(f.name == "runtime.NumGoroutine")=false)
  (h:Calls P g args w λe w'=>∃cv,e=.returned cv/\R cv w'):CallR P g args w R:=by
 have h1:f.name≠"runtime.NumGoroutine":=by simpa using hname
 have h2:f.body.isSome=true:=by cases hh:f.body<;>simp [hh] at hb ⊢
 unfold CallR
 have:(callFunc g args).run P w=.ok (.enter g args) w:=by
  obtain ⟨c,hc⟩:=Z51.1 h2
  simp [callFunc,go_sem,hf,h1,hc]
 rw [this]
 exact h.mono λe w' ⟨cv,he,hr⟩=>by subst he;exact hr
theorem z4.sound (vs:List V) (p:Pack) (h:z4.pack vs=some p):SoundC Tryz.prog 160 vs p:=by
 unfold z4.pack at h
 split at h
 case h_2=>simp at h
 rename_i s c
 simp only [Zs] at h
 subst h
 intro O w args r hm hs hr hO
 simp only [z4.F] at hm
 split at hm
 case isFalse=>simp at hm
 rename_i hc
 simp only [Zs] at hm
 subst hm
 obtain ⟨s',h0,rfl⟩:=Jf (hr 0 (by simp));obtain ⟨c',h1,rfl⟩:=Jf (hr 1 (by simp))
 rw [Qbe (show args.size=2 by simpa using hs),h0,h1]
 have hz:∀s:ByteArray,s.size=s.data.toList.length:=λs=>by rw [Z23];rfl
 refine Qd1 Tryz.func160 (by kernel_rfl) (by kernel_rfl) ?_
 exact (Any.strings_Trim_laid Tryz.lays160 (by kernel_rfl) s' c' w (by rw [hz];exact hc.1) (by rw [hz];exact hc.2.1) (λj b hb=>Qk0 hc.2.2 j b hb)).mono λe w' ⟨he,hb⟩=>⟨_,he,Qc8 hb,.str _ _ rfl⟩
def z5.F (s cs:J1):Option J1:=if cs.length<4294967281/\Qez cs=true then some (trimL s cs) else none
def z5.enc (r:J1):V:=.str r
def z5.pack:List V->Option Pack
 |[.str s,.str c]=>some ⟨J1,z5.F s c,z5.enc⟩
 |_=>none
theorem z5.sound (vs:List V) (p:Pack) (h:z5.pack vs=some p):SoundC Tryz.prog 260 vs p:=by
 unfold z5.pack at h
 split at h
 case h_2=>simp at h
 rename_i s c
 simp only [Zs] at h
 subst h
 intro O w args r hm hs hr hO
 simp only [z5.F] at hm
 split at hm
 case isFalse=>simp at hm
 rename_i hc
 simp only [Zs] at hm
 subst hm
 obtain ⟨s',h0,rfl⟩:=Jf (hr 0 (by simp));obtain ⟨c',h1,rfl⟩:=Jf (hr 1 (by simp))
 rw [Qbe (show args.size=2 by simpa using hs),h0,h1]
 have hz:∀s:ByteArray,s.size=s.data.toList.length:=λs=>by rw [Z23];rfl
 refine Qd1 Tryz.func260 (by kernel_rfl) (by kernel_rfl) ?_
 exact (Any.strings_TrimLeft_laid Tryz.lays161 (by kernel_rfl) s' c' w (by rw [hz];exact hc.1) (λj b hb=>Qk0 hc.2 j b hb)).mono λe w' ⟨he,hb⟩=>⟨_,he,Qc8 hb,.str _ _ rfl⟩
def z6.F (s:J1) (c:Int):Option J1:=if 0<=c/\c<=9223372036854775807/\(s.length:Int)*c<=140737488355328 then some (Lib.repeatL s c.toNat) else none
def z6.enc (r:J1):V:=.str r
def z6.pack:List V->Option Pack
 |[.str s,.int .i64 c]=>some ⟨J1,z6.F s c,z6.enc⟩
 |_=>none
theorem z6.sound (vs:List V) (p:Pack) (h:z6.pack vs=some p):SoundC Tryz.prog 314 vs p:=by
 unfold z6.pack at h
 split at h
 case h_2=>simp at h
 rename_i s c
 simp only [Zs] at h
 subst h
 intro O w args r hm hs hr hO
 simp only [z6.F] at hm
 split at hm
 case isFalse=>simp at hm
 rename_i hc
 simp only [Zs] at hm
 subst hm
 obtain ⟨s',h0,rfl⟩:=Jf (hr 0 (by simp));have h1:=Y0 (hr 1 (by simp))
 rw [Qbe (show args.size=2 by simpa using hs),h0,h1]
 obtain ⟨k,rfl⟩:=Int.eq_ofNat_of_zero_le hc.1
 have hz:s'.size=s'.data.toList.length:=by rw [Z23];rfl
 refine Qd1 Tryz.func314 (by kernel_rfl) (by kernel_rfl) ?_
 exact (Any.strings_Repeat Tryz.lays105 Tryz.Builder_Extra_105 s' k w (by omega) (by rw [hz];exact Int.ofNat_le.1 (by rw [Z43];exact hc.2.2))).mono λe w' ⟨he,hb⟩=>⟨_,he,Qc8 hb,.str _ _ rfl⟩
def z7.F (l:List J1) (sep:J1):Option J1:=if l.length<=140737488355328/\(Lib.join l sep).length<=140737488355328 then some (Lib.join l sep) else none
def z7.enc (r:J1):V:=.str r
def z7.pack:List V->Option Pack
 |[.strs _ l,.str c]=>some ⟨J1,z7.F l c,z7.enc⟩
 |_=>none
theorem Qqz {O:Nat->Prop} {w:World} {cv:Value} {x:Bool} {l:List J1} (h:Rep0 O w cv (.strs x l)) :
  ∃(A:Option Addr) (cap:Nat),cv=.slice A l.length cap/\l.length<=cap/\((l=[]/\True)\/∃b o,A=some ⟨b,o,none⟩/\b<w.heap.size/\∀(j:Nat) s,l[j]? = some s->w.cell? ⟨b,o+j,none⟩=some (.string ⟨s.toArray⟩)):=by
 cases h with
 |
  slice A n cap v fl cf hf hx hle hm hc ho hr=>
  simp only [flatV,Zs,Z2] at hf
  obtain ⟨rfl,rfl⟩:=hf
  refine ⟨A,cap,rfl,hle,?_⟩
  cases l with
  |nil=>exact .inl ⟨rfl,trivial⟩
  |
   cons x0 l=>
   right
   obtain ⟨a,rfl,_,h0⟩:=hc 0 (by simp)
   have hsp:a.spot=none:=by
    have:a.add 0=a:=rfl
    rw [this] at h0
    unfold World.cell? at h0
    split at h0
    ·cases hsp:a.spot with
     |none=>rfl
     |some q=>simp [hsp] at h0
    ·simp at h0
   have hb:=World.block_lt_of_cell? w _ h0
   obtain ⟨b,o,sp⟩:=a
   simp only at hsp;subst hsp
   refine ⟨b,o,rfl,hb,λj s hj=>?_⟩
   have hjl:j<(x0::l).length:=by
    rcases Z65 j (x0::l).length with h|h
    ·exact h
    ·rw [Z13 h] at hj;simp at hj
   obtain ⟨a',ha',_,hcell⟩:=hc j (by simpa using hjl)
   simp only [Zs] at ha';subst ha'
   rw [Addr.add_lit] at hcell
   rw [hcell]
   have h5:=hr j (by simpa using hjl)
   rw [Z15] at h5
   have e:(x0::l)[j]=s:=by rw [Z1 hjl] at hj;simpa using hj
   rw [e] at h5
   obtain ⟨q,hq,rfl⟩:=Jf h5
   rw [hq]
theorem z7.sound (vs:List V) (p:Pack) (h:z7.pack vs=some p):SoundC Tryz.prog 52 vs p:=by
 unfold z7.pack at h
 split at h
 case h_2=>simp at h
 rename_i x l c
 simp only [Zs] at h
 subst h
 intro O w args r hm hs hr hO
 simp only [z7.F] at hm
 split at hm
 case isFalse=>simp at hm
 rename_i hc
 simp only [Zs] at hm
 subst hm
 obtain ⟨A,cap,h0,hcap,hd⟩:=Qqz (hr 0 (by simp));obtain ⟨c',h1,rfl⟩:=Jf (hr 1 (by simp))
 rw [Qbe (show args.size=2 by simpa using hs),h0,h1]
 refine Qd1 Tryz.func52 (by kernel_rfl) (by kernel_rfl) ?_
 rcases hd with ⟨rfl,_⟩|⟨b,o,rfl,hb,hcell⟩
 ·exact (Any.strings_Join_none Tryz.lays156 Tryz.Builder_Extra_156 A cap c' w).mono λe w' ⟨he,hw⟩=>⟨_,he,by subst hw;exact grown_refl _,.str _ _ rfl⟩
 ·have e1:(l.map λs=>(⟨s.toArray⟩:ByteArray)).map (·.data.toList)=l:=by rw [List.map_map];exact (Z63 λs _=>rfl).trans (List.map_id l)
  have e2:(l.map λs=>(⟨s.toArray⟩:ByteArray)).length=l.length:=by simp
  have:=Any.strings_Join Tryz.lays156 Tryz.Builder_Extra_156 b o cap (l.map λs=>(⟨s.toArray⟩:ByteArray)) c' w (λj y hj=>by
   simp only [Z77,Z19] at hj
   obtain ⟨s,hs',rfl⟩:=hj
   exact hcell j s hs') hb (by rw [e2];exact hc.1) (by rw [e2];exact hcap) (by rw [e1];exact hc.2)
  rw [e1,e2] at this
  exact this.mono λe w' ⟨he,hb⟩=>⟨_,he,Qc8 hb,.str _ _ rfl⟩
theorem Qsm:SoundP Tryz.prog 185 (copyP 215):=
 Qve (FunOK.enters ⟨Tryz.func185,rfl,by kernel_rfl⟩) Qrh Qsa
end Go.Proofs.YtihfdjkjpncjfaaGreatDoor.A
end
section
namespace Go.Proofs.YtihfdjkjpncjfaaGreatDoor.A
open Go
def tab:Tab:=
 (.node 183 {d:=.tuple,size:=1,bytes:=0,zero:=[.undef],flat:=[183]} (.node 65 {d:=.int .u32,size:=1,bytes:=4,zero:=[(.int .u32 0)],flat:=[65]} (.node 30 {d:=.slice 41,size:=1,bytes:=24,zero:=[(.recs true 3 [])],flat:=[30]} (.node 9 {d:=.str,size:=1,bytes:=16,zero:=[(.str ([]:J1))],flat:=[9]} (.node 4 {d:=.bool,size:=1,bytes:=1,zero:=[(.bool false)],flat:=[4]} (.node 3 {d:=.int .i64,size:=1,bytes:=8,zero:=[(.int .i64 0)],flat:=[3]} (.node 0 {d:=.tuple,size:=1,bytes:=0,zero:=[.undef],flat:=[0]} .nil .nil) .nil) (.node 5 {d:=.int .u8,size:=1,bytes:=1,zero:=[(.int .u8 0)],flat:=[5]} .nil .nil)) (.node 23 {d:=.slice 5,size:=1,bytes:=24,zero:=[(.ints true .u8 [])],flat:=[23]} (.node 22 {d:=.array 3 3,size:=3,bytes:=24,zero:=[(.int .i64 0),(.int .i64 0),(.int .i64 0)],flat:=[3,3,3]} (.node 21 {d:=.int .i32,size:=1,bytes:=4,zero:=[(.int .i32 0)],flat:=[21]} .nil .nil) .nil) (.node 24 {d:=.slice 65,size:=1,bytes:=24,zero:=[(.ints true .u32 [])],flat:=[24]} .nil .nil))) (.node 41 {d:=.struct [(0,1,3),(1,1,3),(2,1,3)],size:=3,bytes:=24,zero:=[(.int .i64 0),(.int .i64 0),(.int .i64 0)],flat:=[3,3,3],eq:=true} (.node 37 {d:=.struct [(0,1,35)],size:=1,bytes:=24,zero:=[(.ints true .u64 [])],flat:=[35]} (.node 35 {d:=.slice 63,size:=1,bytes:=24,zero:=[(.ints true .u64 [])],flat:=[35]} (.node 32 {d:=.int .i64,size:=1,bytes:=8,zero:=[(.int .i64 0)],flat:=[32]} .nil .nil) .nil) (.node 39 {d:=.struct [(0,1,37),(1,1,4)],size:=2,bytes:=32,zero:=[(.ints true .u64 []),(.bool false)],flat:=[35,4]} .nil .nil)) (.node 47 {d:=.struct [(0,1,45),(1,1,4)],size:=2,bytes:=32,zero:=[(.ints true .i64 []),(.bool false)],flat:=[45,4]} (.node 45 {d:=.slice 3,size:=1,bytes:=24,zero:=[(.ints true .i64 [])],flat:=[45]} .nil .nil) (.node 63 {d:=.int .u64,size:=1,bytes:=8,zero:=[(.int .u64 0)],flat:=[63]} .nil .nil)))) (.node 107 {d:=.struct [(0,3,41),(3,3,41),(6,1,9),(7,1,9)],size:=8,bytes:=80,zero:=[(.int .i64 0),(.int .i64 0),(.int .i64 0),(.int .i64 0),(.int .i64 0),(.int .i64 0),(.str ([]:J1)),(.str ([]:J1))],flat:=[3,3,3,3,3,3,9,9],eq:=true} (.node 81 {d:=.struct [(0,3,41),(3,1,9),(4,1,9),(5,1,9),(6,1,9),(7,1,9)],size:=8,bytes:=104,zero:=[(.int .i64 0),(.int .i64 0),(.int .i64 0),(.str ([]:J1)),(.str ([]:J1)),(.str ([]:J1)),(.str ([]:J1)),(.str ([]:J1))],flat:=[3,3,3,9,9,9,9,9],eq:=true} (.node 74 {d:=.slice 85,size:=1,bytes:=24,zero:=[(.recs true 5 [])],flat:=[74]} (.node 73 {d:=.struct [(0,1,9),(1,1,9),(2,1,3),(3,1,3),(4,1,3),(5,3,41),(8,1,3),(9,1,3)],size:=10,bytes:=96,zero:=[(.str ([]:J1)),(.str ([]:J1)),(.int .i64 0),(.int .i64 0),(.int .i64 0),(.int .i64 0),(.int .i64 0),(.int .i64 0),(.int .i64 0),(.int .i64 0)],flat:=[9,9,3,3,3,3,3,3,3,3],eq:=true} (.node 69 {d:=.struct [(0,3,22),(3,1,23),(4,1,23),(5,1,24)],size:=6,bytes:=96,zero:=[(.int .i64 0),(.int .i64 0),(.int .i64 0),(.ints true .u8 []),(.ints true .u8 []),(.ints true .u32 [])],flat:=[3,3,3,23,23,24]} .nil .nil) .nil) (.node 77 {d:=.slice 81,size:=1,bytes:=24,zero:=[(.recs true 8 [])],flat:=[77]} .nil .nil)) (.node 99 {d:=.tuple,size:=1,bytes:=0,zero:=[.undef],flat:=[99]} (.node 85 {d:=.struct [(0,1,3),(1,3,41),(4,1,9)],size:=5,bytes:=48,zero:=[(.int .i64 0),(.int .i64 0),(.int .i64 0),(.int .i64 0),(.str ([]:J1))],flat:=[3,3,3,3,9],eq:=true} (.node 82 {d:=.tuple,size:=1,bytes:=0,zero:=[.undef],flat:=[82]} .nil .nil) .nil) (.node 104 {d:=.slice 107,size:=1,bytes:=24,zero:=[(.recs true 8 [])],flat:=[104]} .nil .nil))) (.node 123 {d:=.tuple,size:=1,bytes:=0,zero:=[.undef],flat:=[123]} (.node 119 {d:=.tuple,size:=1,bytes:=0,zero:=[.undef],flat:=[119]} (.node 110 {d:=.tuple,size:=1,bytes:=0,zero:=[.undef],flat:=[110]} (.node 108 {d:=.tuple,size:=1,bytes:=0,zero:=[.undef],flat:=[108]} .nil .nil) .nil) (.node 121 {d:=.slice 9,size:=1,bytes:=24,zero:=[(.strs true [])],flat:=[121]} .nil .nil)) (.node 150 {d:=.tuple,size:=1,bytes:=0,zero:=[.undef],flat:=[150]} (.node 138 {d:=.tuple,size:=1,bytes:=0,zero:=[.undef],flat:=[138]} .nil .nil) (.node 181 {d:=.tuple,size:=1,bytes:=0,zero:=[.undef],flat:=[181]} .nil .nil))))) (.node 273 {d:=.tuple,size:=1,bytes:=0,zero:=[.undef],flat:=[273]} (.node 222 {d:=.slice 230,size:=1,bytes:=24,zero:=[(.recs true 3 [])],flat:=[222]} (.node 200 {d:=.struct [(0,2,47),(2,1,3)],size:=3,bytes:=40,zero:=[(.ints true .i64 []),(.bool false),(.int .i64 0)],flat:=[45,4,3]} (.node 191 {d:=.struct [(0,3,41),(3,3,41)],size:=6,bytes:=48,zero:=[(.int .i64 0),(.int .i64 0),(.int .i64 0),(.int .i64 0),(.int .i64 0),(.int .i64 0)],flat:=[3,3,3,3,3,3],eq:=true} (.node 188 {d:=.slice 191,size:=1,bytes:=24,zero:=[(.recs true 6 [])],flat:=[188]} (.node 185 {d:=.tuple,size:=1,bytes:=0,zero:=[.undef],flat:=[185]} .nil .nil) .nil) (.node 197 {d:=.int .u64,size:=1,bytes:=8,zero:=[(.int .u64 0)],flat:=[197]} .nil .nil)) (.node 217 {d:=.iface,size:=1,bytes:=16,zero:=[.nili],flat:=[217]} (.node 215 {d:=.struct [(0,1,213),(1,1,23)],size:=2,bytes:=32,zero:=[.nilp,.nilsl],flat:=[213,23]} (.node 213 {d:=.ptr 215,size:=1,bytes:=8,zero:=[.nilp],flat:=[213]} .nil .nil) .nil) (.node 218 {d:=.tuple,size:=1,bytes:=0,zero:=[.undef],flat:=[218]} .nil .nil))) (.node 230 {d:=.struct [(0,1,228),(1,1,9),(2,1,3)],size:=3,bytes:=32,zero:=[(.int .i64 0),(.str ([]:J1)),(.int .i64 0)],flat:=[228,9,3],eq:=true} (.node 227 {d:=.struct [(0,1,222),(1,1,3),(2,1,3)],size:=3,bytes:=40,zero:=[(.recs true 3 []),(.int .i64 0),(.int .i64 0)],flat:=[222,3,3]} (.node 225 {d:=.ptr 227,size:=1,bytes:=8,zero:=[.nilp],flat:=[225]} (.node 223 {d:=.tuple,size:=1,bytes:=0,zero:=[.undef],flat:=[223]} .nil .nil) .nil) (.node 228 {d:=.int .i64,size:=1,bytes:=8,zero:=[(.int .i64 0)],flat:=[228]} .nil .nil)) (.node 245 {d:=.tuple,size:=1,bytes:=0,zero:=[.undef],flat:=[245]} (.node 231 {d:=.tuple,size:=1,bytes:=0,zero:=[.undef],flat:=[231]} .nil .nil) (.node 249 {d:=.tuple,size:=1,bytes:=0,zero:=[.undef],flat:=[249]} .nil .nil)))) (.node 322 {d:=.array 20 5,size:=20,bytes:=20,zero:=[(.int .u8 0),(.int .u8 0),(.int .u8 0),(.int .u8 0),(.int .u8 0),(.int .u8 0),(.int .u8 0),(.int .u8 0),(.int .u8 0),(.int .u8 0),(.int .u8 0),(.int .u8 0),(.int .u8 0),(.int .u8 0),(.int .u8 0),(.int .u8 0),(.int .u8 0),(.int .u8 0),(.int .u8 0),(.int .u8 0)],flat:=[5,5,5,5,5,5,5,5,5,5,5,5,5,5,5,5,5,5,5,5]} (.node 302 {d:=.ptr 5,size:=1,bytes:=8,zero:=[.nilp],flat:=[302]} (.node 282 {d:=.tuple,size:=1,bytes:=0,zero:=[.undef],flat:=[282]} (.node 281 {d:=.struct [(0,2,39),(2,1,37)],size:=3,bytes:=56,zero:=[(.ints true .u64 []),(.bool false),(.ints true .u64 [])],flat:=[35,4,35]} (.node 277 {d:=.struct [(0,2,47),(2,1,45)],size:=3,bytes:=56,zero:=[(.ints true .i64 []),(.bool false),(.ints true .i64 [])],flat:=[45,4,45]} .nil .nil) .nil) (.node 289 {d:=.tuple,size:=1,bytes:=0,zero:=[.undef],flat:=[289]} .nil .nil)) (.node 318 {d:=.tuple,size:=1,bytes:=0,zero:=[.undef],flat:=[318]} (.node 310 {d:=.ptr 85,size:=1,bytes:=8,zero:=[.nilp],flat:=[310]} (.node 304 {d:=.tuple,size:=1,bytes:=0,zero:=[.undef],flat:=[304]} .nil .nil) .nil) (.node 320 {d:=.tuple,size:=1,bytes:=0,zero:=[.undef],flat:=[320]} .nil .nil))) (.node 367 {d:=.func,size:=1,bytes:=8,zero:=[.nilf],flat:=[367]} (.node 356 {d:=.struct [(0,2,39),(2,1,3)],size:=3,bytes:=40,zero:=[(.ints true .u64 []),(.bool false),(.int .i64 0)],flat:=[35,4,3]} (.node 354 {d:=.array 12 3,size:=12,bytes:=96,zero:=[(.int .i64 0),(.int .i64 0),(.int .i64 0),(.int .i64 0),(.int .i64 0),(.int .i64 0),(.int .i64 0),(.int .i64 0),(.int .i64 0),(.int .i64 0),(.int .i64 0),(.int .i64 0)],flat:=[3,3,3,3,3,3,3,3,3,3,3,3]} (.node 344 {d:=.tuple,size:=1,bytes:=0,zero:=[.undef],flat:=[344]} .nil .nil) .nil) (.node 357 {d:=.tuple,size:=1,bytes:=0,zero:=[.undef],flat:=[357]} .nil .nil)) (.node 390 {d:=.tuple,size:=1,bytes:=0,zero:=[.undef],flat:=[390]} (.node 370 {d:=.tuple,size:=1,bytes:=0,zero:=[.undef],flat:=[370]} .nil .nil) (.node 399 {d:=.tuple,size:=1,bytes:=0,zero:=[.undef],flat:=[399]} .nil .nil))))))
noncomputable section
def z8.F (a0:List J1) (a1 a2:Int):Option ((List J1)):=
 (if 0<=a1/\a1<=a2/\a2<=(((a0).length:Nat):Int)/\(((a0).length:Nat):Int)<=((a0).length:Int) then (bif (decide (a1=a2)) then (some a0) else (if 0<=a1/\a1<=((a0).length:Int) then (if 0<=a2/\a2<=((a0).length:Int) then (if 0+(a1).toNat+(((a0.drop (a2).toNat).take ((a0).length-(a2).toNat))).length<=(a0).length/\0<(a0).length then (if 0<=((((a1).toNat+(((a0.drop (a2).toNat).take ((a0).length-(a2).toNat))).length):Nat):Int)/\((((a1).toNat+(((a0.drop (a2).toNat).take ((a0).length-(a2).toNat))).length):Nat):Int)<=(((a0).length:Nat):Int)/\((0:Nat):Int)+(((a0).length:Nat):Int)<=(((((a0.take (0+(a1).toNat)++((a0.drop (a2).toNat).take ((a0).length-(a2).toNat)).take (((a0.drop (a2).toNat).take ((a0).length-(a2).toNat))).length)++a0.drop ((0+(a1).toNat)+(((a0.drop (a2).toNat).take ((a0).length-(a2).toNat))).length))).length:Nat):Int) then (if 0<(((((a0).length:Nat):Int)).toNat-(((((a1).toNat+(((a0.drop (a2).toNat).take ((a0).length-(a2).toNat))).length):Nat):Int)).toNat) then (some ((((((a0.take (0+(a1).toNat)++((a0.drop (a2).toNat).take ((a0).length-(a2).toNat)).take (((a0.drop (a2).toNat).take ((a0).length-(a2).toNat))).length)++a0.drop ((0+(a1).toNat)+(((a0.drop (a2).toNat).take ((a0).length-(a2).toNat))).length)).take (0+(((((a1).toNat+(((a0.drop (a2).toNat).take ((a0).length-(a2).toNat))).length):Nat):Int)).toNat)++(List.replicate (((((a0).length:Nat):Int)).toNat-(((((a1).toNat+(((a0.drop (a2).toNat).take ((a0).length-(a2).toNat))).length):Nat):Int)).toNat) ([]:J1)).take (((((a0).length:Nat):Int)).toNat-(((((a1).toNat+(((a0.drop (a2).toNat).take ((a0).length-(a2).toNat))).length):Nat):Int)).toNat))++((a0.take (0+(a1).toNat)++((a0.drop (a2).toNat).take ((a0).length-(a2).toNat)).take (((a0.drop (a2).toNat).take ((a0).length-(a2).toNat))).length)++a0.drop ((0+(a1).toNat)+(((a0.drop (a2).toNat).take ((a0).length-(a2).toNat))).length)).drop ((0+(((((a1).toNat+(((a0.drop (a2).toNat).take ((a0).length-(a2).toNat))).length):Nat):Int)).toNat)+(((((a0).length:Nat):Int)).toNat-(((((a1).toNat+(((a0.drop (a2).toNat).take ((a0).length-(a2).toNat))).length):Nat):Int)).toNat))).drop 0).take ((a1).toNat+(((a0.drop (a2).toNat).take ((a0).length-(a2).toNat))).length))) else none) else none) else none) else none) else none)) else none)
def z8.enc (r:(List J1)):V:=(.strs false r)
def z8.pk:V->List V->Option Pack
 |(.strs false a0),[(.int .i64 a1),(.int .i64 a2)]=>some ⟨(List J1),z8.F a0 a1 a2,z8.enc⟩
 |_,_=>none
def z9.F (a0:J2) (a1 a2:Int):Option (J2):=
 (if 0<=a1/\a1<=a2/\a2<=(((a0).length:Nat):Int)/\(((a0).length:Nat):Int)<=((a0).length:Int) then (bif (decide (a1=a2)) then (some a0) else (if 0<=a1/\a1<=((a0).length:Int) then (if 0<=a2/\a2<=((a0).length:Int) then (if 0+(a1).toNat+(((a0.drop (a2).toNat).take ((a0).length-(a2).toNat))).length<=(a0).length/\0<(a0).length then (if 0<=((((a1).toNat+(((a0.drop (a2).toNat).take ((a0).length-(a2).toNat))).length):Nat):Int)/\((((a1).toNat+(((a0.drop (a2).toNat).take ((a0).length-(a2).toNat))).length):Nat):Int)<=(((a0).length:Nat):Int)/\((0:Nat):Int)+(((a0).length:Nat):Int)<=(((((a0.take (0+(a1).toNat)++((a0.drop (a2).toNat).take ((a0).length-(a2).toNat)).take (((a0.drop (a2).toNat).take ((a0).length-(a2).toNat))).length)++a0.drop ((0+(a1).toNat)+(((a0.drop (a2).toNat).take ((a0).length-(a2).toNat))).length))).length:Nat):Int) then (if 0<(((((a0).length:Nat):Int)).toNat-(((((a1).toNat+(((a0.drop (a2).toNat).take ((a0).length-(a2).toNat))).length):Nat):Int)).toNat) then (some ((((((a0.take (0+(a1).toNat)++((a0.drop (a2).toNat).take ((a0).length-(a2).toNat)).take (((a0.drop (a2).toNat).take ((a0).length-(a2).toNat))).length)++a0.drop ((0+(a1).toNat)+(((a0.drop (a2).toNat).take ((a0).length-(a2).toNat))).length)).take (0+(((((a1).toNat+(((a0.drop (a2).toNat).take ((a0).length-(a2).toNat))).length):Nat):Int)).toNat)++(List.replicate (((((a0).length:Nat):Int)).toNat-(((((a1).toNat+(((a0.drop (a2).toNat).take ((a0).length-(a2).toNat))).length):Nat):Int)).toNat) ([(.int .i64 0),(.int .i64 0),(.int .i64 0),(.int .i64 0),(.str ([]:J1))]:List V)).take (((((a0).length:Nat):Int)).toNat-(((((a1).toNat+(((a0.drop (a2).toNat).take ((a0).length-(a2).toNat))).length):Nat):Int)).toNat))++((a0.take (0+(a1).toNat)++((a0.drop (a2).toNat).take ((a0).length-(a2).toNat)).take (((a0.drop (a2).toNat).take ((a0).length-(a2).toNat))).length)++a0.drop ((0+(a1).toNat)+(((a0.drop (a2).toNat).take ((a0).length-(a2).toNat))).length)).drop ((0+(((((a1).toNat+(((a0.drop (a2).toNat).take ((a0).length-(a2).toNat))).length):Nat):Int)).toNat)+(((((a0).length:Nat):Int)).toNat-(((((a1).toNat+(((a0.drop (a2).toNat).take ((a0).length-(a2).toNat))).length):Nat):Int)).toNat))).drop 0).take ((a1).toNat+(((a0.drop (a2).toNat).take ((a0).length-(a2).toNat))).length))) else none) else none) else none) else none) else none)) else none)
def z9.enc (r:J2):V:=(.recs false 5 r)
def z9.pk:V->List V->Option Pack
 |(.recs false 5 a0),[(.int .i64 a1),(.int .i64 a2)]=>some ⟨J2,z9.F a0 a1 a2,z9.enc⟩
 |_,_=>none
def z10.l2P {R:Type} (rec done:(J1×Int×Int)->Option R):(J1×Int×Int)->Option R:=λx=>match x with
 |(a,b,c)=>(bif (decide (c<4)) then (if ([(wr .u8 (wr .i64 ((48:Int)+(Int.tmod b 10))))].map λn=>UInt8.ofNat n.toNat).length+a.length<=9223372036854775807 then (rec ((([(wr .u8 (wr .i64 ((48:Int)+(Int.tmod b 10))))].map λn=>UInt8.ofNat n.toNat)++a),(wr .i64 (Int.tdiv b 10)),(wr .i64 (c+1)))) else none) else (done (a,b,c)))
def z10.l2 (x:(J1×Int×Int)):Option ((J1×Int×Int)):=lfp (λrec x=>z10.l2P rec some x) x
def z10.l0P (a:J0) {R:Type} (rec done:(J1×Int)->Option R):(J1×Int)->Option R:=λx=>match x with
 |(b,c)=>(bif (decide (c<(((a).length:Nat):Int))) then (if 0<=c/\c<(a.length:Int) then ((z10.l2 (b,(a.getD (c).toNat 0),(0:Int))).bind λd=>(rec (d.1,(wr .i64 (c+1))))) else none) else (done (b,c)))
def z10.l0 (a:J0) (x:(J1×Int)):Option ((J1×Int)):=lfp (λrec x=>z10.l0P a rec some x) x
def z10.l4P (a:J1) {R:Type} (rec:Int->Option R) (done:(Int)->Option R):Int->Option R:=λb=>(if 0<=b/\b<(a.length:Int) then (bif (decide (((a.getD (b).toNat 0).toNat:Int)=48)) then (rec (wr .i64 (b+1))) else (done b)) else none)
def z10.l4 (a:J1) (x:Int):Option ((Int)):=lfp (λrec x=>z10.l4P a rec some x) x
def z10.F (a0:J0):Option (J1):=
 (bif (decide ((((a0).length:Nat):Int)=0)) then (some ([48]:J1)) else ((z10.l0 a0 (([]:J1),(0:Int))).bind λo1=>((z10.l4 o1.1 0).bind λo2=>(if 0<=o2/\o2<=((o1.1).length:Int) then (some (o1.1.drop (o2).toNat)) else none))))
def z10.enc (r:J1):V:=(.str r)
def z10.pack:List V->Option Pack
 |[(.ints _ .i64 a0)]=>some ⟨J1,z10.F a0,z10.enc⟩
 |_=>none
def z11.F (a0:J0) (a1:Bool):Option (J1):=
 ((z10.F a0).bind λr1=>(bif a1 then (if ([45]:J1).length+r1.length<=9223372036854775807 then (some (([45]:J1)++r1)) else none) else (some r1)))
def z11.pack:List V->Option Pack
 |[(.agg [(.ints _ .i64 a0),(.bool a1)])]=>some ⟨J1,z11.F a0 a1,z10.enc⟩
 |_=>none
def z12.j1 (a0:Int):Option (Bool):=
 (bif (decide ((Int.tmod a0 400)=0)) then (some true) else (bif (decide ((Int.tmod a0 4)=0)) then (some (!decide ((Int.tmod a0 100)=0))) else (some false)))
def z12.F (a0:Int):Option (Bool):=
 (bif (decide (a0<1)) then (some false) else (bif (decide (a0>9999)) then (some false) else (z12.j1 a0)))
def z12.enc (r:Bool):V:=(.bool r)
def z12.pack:List V->Option Pack
 |[(.int .i64 a0)]=>some ⟨Bool,z12.F a0,z12.enc⟩
 |_=>none
def z13.j1 (a1 a0:Int):Option (Int):=
 (bif (decide (a1=2)) then ((z12.F a0).bind λr2=>(bif r2 then (some 29) else (some 28))) else (bif (decide (a1=4)) then (some 30) else (bif (decide (a1=6)) then (some 30) else (bif (decide (a1=9)) then (some 30) else (bif (decide (a1=11)) then (some 30) else (some 31))))))
def z13.F (a0 a1:Int):Option (Int):=
 (bif (decide (a0<1)) then (some 0) else (bif (decide (a0>9999)) then (some 0) else (bif (decide (a1<1)) then (some 0) else (bif (decide (a1>12)) then (some 0) else (z13.j1 a1 a0)))))
def z13.enc (r:Int):V:=(.int .i64 r)
def z13.pack:List V->Option Pack
 |[(.int .i64 a0),(.int .i64 a1)]=>some ⟨Int,z13.F a0 a1,z13.enc⟩
 |_=>none
def z14.F (a0 a1 a2:Int):Option (Int×Int×Int×Bool):=
 ((z13.F a0 a1).bind λr1=>(bif (decide (a2<r1)) then (some (a0,a1,(wr .i64 (a2+1)),true)) else (bif (decide (a1<12)) then (some (a0,(wr .i64 (a1+1)),(1:Int),true)) else (some ((wr .i64 (a0+1)),(1:Int),(1:Int),(decide (a0<9999)))))))
def z14.enc (r:Int×Int×Int×Bool):V:=(.tup [(.agg [(.int .i64 r.1),(.int .i64 r.2.1),(.int .i64 r.2.2.1)]),(.bool r.2.2.2)])
def z14.pack:List V->Option Pack
 |[(.agg [(.int .i64 a0),(.int .i64 a1),(.int .i64 a2)])]=>some ⟨Int×Int×Int×Bool,z14.F a0 a1 a2,z14.enc⟩
 |_=>none
def z15.F (a0:J0) (a1:Bool):Option (J0×Bool):=
 (bif a1 then (some (a0,(decide ((((a0).length:Nat):Int)>0)))) else (some (a0,false)))
def z15.enc (r:J0×Bool):V:=(.agg [(.ints false .i64 r.1),(.bool r.2)])
def z15.pack:List V->Option Pack
 |[(.ints _ .i64 a0),(.bool a1)]=>some ⟨J0×Bool,z15.F a0 a1,z15.enc⟩
 |_=>none
def z16.l0P {R:Type} (rec done:(Int×J0)->Option R):(Int×J0)->Option R:=λx=>match x with
 |(a,b)=>(bif (decide (a>0)) then (if ((b).length+([(Int.tmod a 10000)]).length)*8<=140737488355328 then (rec ((wr .i64 (Int.tdiv a 10000)),(b++[(Int.tmod a 10000)]))) else none) else (done (a,b)))
def z16.l0 (x:(Int×J0)):Option ((Int×J0)):=lfp (λrec x=>z16.l0P rec some x) x
def z16.F (a0:Int):Option (J0):=
 ((z16.l0 (a0,[])).bind λo1=>(some o1.2))
def z16.enc (r:J0):V:=(.ints false .i64 r)
def z16.pack:List V->Option Pack
 |[(.int .i64 a0)]=>some ⟨J0,z16.F a0,z16.enc⟩
 |_=>none
def z17.F (a0:Int):Option (J0×Bool):=
 (bif (decide (a0<0)) then ((z16.F (wr .i64 (0-a0))).bind λr1=>((z15.F r1 true).bind λr2=>(some (r2.1,r2.2)))) else ((z16.F a0).bind λr3=>((z15.F r3 false).bind λr4=>(some (r4.1,r4.2)))))
def z17.pack:List V->Option Pack
 |[(.int .i64 a0)]=>some ⟨J0×Bool,z17.F a0,z15.enc⟩
 |_=>none
def z18.l2P (a:Int) (b:J0) {R:Type} (rec done:(Int×Int×Int×Int)->Option R):(Int×Int×Int×Int)->Option R:=λx=>match x with
 |(c,d,e,g)=>(if 0<=a/\a<(b.length:Int) then (bif (decide (c<(Int.tmod (wr .i64 (b.getD (a).toNat 0)) 71))) then ((z14.F d e g).bind λh=>(bif h.2.2.2 then (rec ((wr .i64 (c+1)),h.1,h.2.1,h.2.2.1)) else (rec ((wr .i64 (c+1)),d,e,g)))) else (done (c,d,e,g))) else none)
def z18.l2 (a:Int) (b:J0) (x:(Int×Int×Int×Int)):Option ((Int×Int×Int×Int)):=lfp (λrec x=>z18.l2P a b rec some x) x
def z18.j1022a {R:Type} (rec done:(Int×J2×Int×Int×Int)->Option R) (a:J2) (b:Int) (c:Int×Int×Int×Int) (d:J1) (e:Int):Option R:=
 (if ((a).length+(([[(.int .i64 (Int.tmod b 4)),(.int .i64 c.2.1),(.int .i64 c.2.2.1),(.int .i64 c.2.2.2),(.str d)]]:J2)).length)*48<=140737488355328 then (rec ((wr .i64 (e+1)),(a++([[(.int .i64 (Int.tmod b 4)),(.int .i64 c.2.1),(.int .i64 c.2.2.1),(.int .i64 c.2.2.2),(.str d)]]:J2)),c.2.1,c.2.2.1,c.2.2.2)) else none)
def z18.j1021a {R:Type} (rec done:(Int×J2×Int×Int×Int)->Option R) (a:Int) (b:J2) (c:Int×Int×Int×Int) (d:Int) (e:J1):Option R:=
 (bif (decide ((Int.tmod a 4)=0)) then (bif (!decide ((Int.tmod (wr .i64 (Int.tdiv a 4)) 3)=0)) then (z18.j1022a rec done b a c ([100,117,101]:J1) d) else (z18.j1022a rec done b a c e d)) else (if ((b).length+(([[(.int .i64 (Int.tmod a 4)),(.int .i64 c.2.1),(.int .i64 c.2.2.1),(.int .i64 c.2.2.2),(.str e)]]:J2)).length)*48<=140737488355328 then (rec ((wr .i64 (d+1)),(b++([[(.int .i64 (Int.tmod a 4)),(.int .i64 c.2.1),(.int .i64 c.2.2.1),(.int .i64 c.2.2.2),(.str e)]]:J2)),c.2.1,c.2.2.1,c.2.2.2)) else none))
def z18.j1019a {R:Type} (rec done:(Int×J2×Int×Int×Int)->Option R) (a:Int) (b:J0) (c:Bool) (d:J2) (e:Int×Int×Int×Int) (g:Int):Option R:=
 (bif (!decide ((Int.tmod a 4)=3)) then ((z11.F b c).bind λh=>(z18.j1021a rec done a d e g h)) else (z18.j1021a rec done a d e g ([]:J1)))
def z18.j1015a {R:Type} (rec done:(Int×J2×Int×Int×Int)->Option R) (a b:Int) (c:J2) (d:Int×Int×Int×Int) (e:Int):Option R:=
 ((z17.F a).bind λg=>(bif (decide ((Int.tmod b 4)=2)) then ((z17.F (Int.tmod a 900)).bind λh=>(z18.j1019a rec done b h.1 h.2 c d e)) else (z18.j1019a rec done b g.1 g.2 c d e)))
def z18.j1014a {R:Type} (rec done:(Int×J2×Int×Int×Int)->Option R) (a:Int) (b:J0) (c:Int) (d:J2) (e:Int×Int×Int×Int):Option R:=
 (bif (decide (a<(((b).length:Nat):Int))) then (if 0<=a/\a<(b.length:Int) then (z18.j1015a rec done (wr .i64 ((1:Int)+(wr .i64 (b.getD (a).toNat 0)))) c d e a) else none) else (z18.j1015a rec done (wr .i64 ((100:Int)*(wr .i64 (a+1)))) c d e a))
def z18.l0P (a b c:J0) {R:Type} (rec done:(Int×J2×Int×Int×Int)->Option R):(Int×J2×Int×Int×Int)->Option R:=λx=>match x with
 |(d,e,g,h,j)=>(bif (decide (d<(((a).length:Nat):Int))) then (bif (decide (d<16)) then ((z18.l2 d a ((0:Int),g,h,j)).bind λk=>(bif (decide (d<(((b).length:Nat):Int))) then (if 0<=d/\d<(b.length:Int) then (z18.j1014a rec done d c (wr .i64 (b.getD (d).toNat 0)) e k) else none) else (z18.j1014a rec done d c d e k))) else (done (d,e,g,h,j))) else (done (d,e,g,h,j)))
def z18.l0 (a b c:J0) (x:(Int×J2×Int×Int×Int)):Option ((Int×J2×Int×Int×Int)):=lfp (λrec x=>z18.l0P a b c rec some x) x
def z18.F (a0 a1 a2:Int) (a3 a4 a5:J0) (a6 a7 a8:Int):Option (J2):=
 ((z18.l0 a3 a4 a5 ((0:Int),[],a6,a7,a8)).bind λo1=>(some o1.2.1))
def z18.pack:List V->Option Pack
 |[(.agg [(.int .i64 a0),(.int .i64 a1),(.int .i64 a2),(.ints _ .u8 a3),(.ints _ .u8 a4),(.ints _ .u32 a5)]),(.agg [(.int .i64 a6),(.int .i64 a7),(.int .i64 a8)])]=>some ⟨J2,z18.F a0 a1 a2 a3 a4 a5 a6 a7 a8,z9.enc⟩
 |_=>none
def z19.j7 (a0 a3 j5 j7:Int):Option (Int×Int×Int):=
 (some ((wr .i64 ((wr .i64 ((Int.tmod a0 a3)+a3))+1)),(wr .i64 (j5+1)),(wr .i64 (j7+1))))
def z19.j5 (a0 a3 j5 a2:Int):Option (Int×Int×Int):=
 ((z13.F (wr .i64 ((wr .i64 ((Int.tmod a0 a3)+a3))+1)) (wr .i64 (j5+1))).bind λr6=>(if r6=0 then none else (bif (decide ((Int.tmod a2 r6)<0)) then (z19.j7 a0 a3 j5 (wr .i64 ((Int.tmod a2 r6)+r6))) else (z19.j7 a0 a3 j5 (Int.tmod a2 r6)))))
def z19.j8 (a0 a3 j8 a2:Int):Option (Int×Int×Int):=
 ((z13.F (wr .i64 ((Int.tmod a0 a3)+1)) (wr .i64 (j8+1))).bind λr9=>(if r9=0 then none else (bif (decide ((Int.tmod a2 r9)<0)) then (some ((wr .i64 ((Int.tmod a0 a3)+1)),(wr .i64 (j8+1)),(wr .i64 ((wr .i64 ((Int.tmod a2 r9)+r9))+1)))) else (some ((wr .i64 ((Int.tmod a0 a3)+1)),(wr .i64 (j8+1)),(wr .i64 ((Int.tmod a2 r9)+1)))))))
def z19.F (a0 a1 a2 a3:Int):Option (Int×Int×Int):=
 (if a3=0 then none else (bif (decide ((Int.tmod a0 a3)<0)) then (bif (decide ((Int.tmod a1 12)<0)) then (z19.j5 a0 a3 (wr .i64 ((Int.tmod a1 12)+12)) a2) else (z19.j5 a0 a3 (Int.tmod a1 12) a2)) else (bif (decide ((Int.tmod a1 12)<0)) then (z19.j8 a0 a3 (wr .i64 ((Int.tmod a1 12)+12)) a2) else (z19.j8 a0 a3 (Int.tmod a1 12) a2))))
def z19.enc (r:Int×Int×Int):V:=(.agg [(.int .i64 r.1),(.int .i64 r.2.1),(.int .i64 r.2.2)])
def z19.pack:List V->Option Pack
 |[(.agg [(.int .i64 a0),(.int .i64 a1),(.int .i64 a2)]),(.int .i64 a3)]=>some ⟨Int×Int×Int,z19.F a0 a1 a2 a3,z19.enc⟩
 |_=>none
def z20.F (a0 a1 a2:Int) (a3 a4 a5:J0):Option (Int×Int×Int):=
 ((z19.F a0 a1 a2 9990).bind λr1=>(some (r1.1,r1.2.1,r1.2.2)))
def z20.pack:List V->Option Pack
 |[(.agg [(.int .i64 a0),(.int .i64 a1),(.int .i64 a2),(.ints _ .u8 a3),(.ints _ .u8 a4),(.ints _ .u32 a5)])]=>some ⟨Int×Int×Int,z20.F a0 a1 a2 a3 a4 a5,z19.enc⟩
 |_=>none
def z21.F (a0:Int):Option (Bool):=
 (some (!decide (a0=a0)))
def z21.pack:List V->Option Pack
 |[(.int .i64 a0)]=>some ⟨Bool,z21.F a0,z12.enc⟩
 |_=>none
def z22.F (a0 a1:Int):Option (Int):=
 ((z21.F a0).bind λr1=>((z21.F a1).bind λr2=>(bif r1 then (bif r2 then (some 0) else (some (-1:Int))) else (bif r2 then (some 1) else (bif (decide (a0<a1)) then (some (-1:Int)) else (bif (decide (a0>a1)) then (some 1) else (some 0)))))))
def z22.pack:List V->Option Pack
 |[(.int .i64 a0),(.int .i64 a1)]=>some ⟨Int,z22.F a0 a1,z13.enc⟩
 |_=>none
def z23.l0P (a:Int) (b:J0) (c:Int) {R:Type} (rec:Int->Option R) (done:((Int)⊕(Int))->Option R):Int->Option R:=λd=>(bif (decide (d<c)) then (if 0<=d/\d<(b.length:Int) then (bif (!decide ((b.getD (d).toNat 0)=a)) then (done (.inr (b.getD (d).toNat 0))) else (rec (wr .i64 (d+1)))) else none) else (done (.inl d)))
def z23.l0 (a:Int) (b:J0) (c x:Int):Option (((Int)⊕(Int))):=lfp (λrec x=>z23.l0P a b c rec some x) x
def z23.F (a0:J0):Option (Int):=
 ((z23.l0 0 a0 (((a0).length:Nat):Int) 0).bind λo1=>match o1 with | .inl p2=>(some 0) | .inr q3=>(some q3))
def z23.pack:List V->Option Pack
 |[(.ints _ .i64 a0)]=>some ⟨Int,z23.F a0,z13.enc⟩
 |_=>none
def z24.F (a0 a1 a2 a3 a4 a5:Int):Option (Int):=
 ((z22.F a0 a3).bind λr1=>((z22.F a1 a4).bind λr2=>((z22.F a2 a5).bind λr3=>((z23.F [r1,r2,r3]).bind λr4=>(some r4)))))
def z24.pack:List V->Option Pack
 |[(.agg [(.int .i64 a0),(.int .i64 a1),(.int .i64 a2)]),(.agg [(.int .i64 a3),(.int .i64 a4),(.int .i64 a5)])]=>some ⟨Int,z24.F a0 a1 a2 a3 a4 a5,z13.enc⟩
 |_=>none
def z25.F (a0:Int):Option (Bool):=
 (bif (decide (a0>=1)) then (some (decide (a0<=9999))) else (some false))
def z25.pack:List V->Option Pack
 |[(.int .i64 a0)]=>some ⟨Bool,z25.F a0,z12.enc⟩
 |_=>none
def z26.F (a0:Int):Option (Bool):=
 ((z25.F a0).bind λr1=>(bif r1 then (bif (decide ((Int.tmod a0 4)=0)) then (bif (!decide ((Int.tmod a0 100)=0)) then (some true) else (some (decide ((Int.tmod a0 400)=0)))) else (some (decide ((Int.tmod a0 400)=0)))) else (some false)))
def z26.pack:List V->Option Pack
 |[(.int .i64 a0)]=>some ⟨Bool,z26.F a0,z12.enc⟩
 |_=>none
def z27.j10 (a1:Int):Option (Int):=
 (if 0<=(wr .i64 (a1-1))/\(wr .i64 (a1-1))<12 then (V.asInt .i64 (([(.int .i64 31),(.int .i64 28),(.int .i64 31),(.int .i64 30),(.int .i64 31),(.int .i64 30),(.int .i64 31),(.int .i64 31),(.int .i64 30),(.int .i64 31),(.int .i64 30),(.int .i64 31)]:List V).getD ((wr .i64 (a1-1))).toNat .undef) λc11=>(some c11)) else none)
def z27.F (a0 a1:Int):Option (Int):=
 ((z25.F a0).bind λr1=>(bif (!r1) then (some 0) else (bif (decide (a1<1)) then (some 0) else (bif (decide (a1>12)) then (some 0) else (bif (decide (a1=2)) then ((z26.F a0).bind λr9=>(bif r9 then (some 29) else (z27.j10 a1))) else (z27.j10 a1))))))
def z27.pack:List V->Option Pack
 |[(.int .i64 a0),(.int .i64 a1)]=>some ⟨Int,z27.F a0 a1,z13.enc⟩
 |_=>none
def z28.F (a0 a1 a2:Int):Option (Int):=
 (bif (decide (a2<1)) then (some 11) else ((z27.F a0 a1).bind λr1=>(bif (decide (a2>r1)) then (some 11) else (some 0))))
def z28.pack:List V->Option Pack
 |[(.agg [(.int .i64 a0),(.int .i64 a1),(.int .i64 a2)])]=>some ⟨Int,z28.F a0 a1 a2,z13.enc⟩
 |_=>none
def z29.F (a0:J0):Option (Bool):=
 (some (decide ((((a0).length:Nat):Int)=0)))
def z29.pack:List V->Option Pack
 |[(.agg [(.ints _ .u64 a0)])]=>some ⟨Bool,z29.F a0,z12.enc⟩
 |_=>none
def z30.F (a0:J0) (a1:Bool):Option (Int):=
 ((z29.F a0).bind λr1=>(bif r1 then (some 0) else (bif a1 then (some (-1:Int)) else (some 1))))
def z30.pack:List V->Option Pack
 |[(.agg [(.ints _ .u64 a0),(.bool a1)])]=>some ⟨Int,z30.F a0 a1,z13.enc⟩
 |_=>none
def z31.F (a0:J0) (a1:Bool):Option (J0×Bool):=
 (bif a1 then ((z29.F a0).bind λr1=>(some (a0,(!r1)))) else (some (a0,false)))
def z31.enc (r:J0×Bool):V:=(.agg [(.ints false .u64 r.1),(.bool r.2)])
def z31.pack:List V->Option Pack
 |[(.agg [(.ints _ .u64 a0)]),(.bool a1)]=>some ⟨J0×Bool,z31.F a0 a1,z31.enc⟩
 |_=>none
def z32.l0P (a:J0) {R:Type} (rec:Int->Option R) (done:(Int)->Option R):Int->Option R:=λb=>(bif (decide (b>0)) then (if 0<=(wr .i64 (b-1))/\(wr .i64 (b-1))<(a.length:Int) then (bif (decide ((a.getD ((wr .i64 (b-1))).toNat 0)=0)) then (rec (wr .i64 (b-1))) else (done b)) else none) else (done b))
def z32.l0 (a:J0) (x:Int):Option ((Int)):=lfp (λrec x=>z32.l0P a rec some x) x
def z32.F (a0:J0):Option (J0):=
 ((z32.l0 a0 (((a0).length:Nat):Int)).bind λo1=>(if 0<=o1/\o1<=o1/\o1<=(a0.length:Int) then (some (a0.take (o1).toNat)) else none))
def z32.enc (r:J0):V:=(.agg [(.ints false .u64 r)])
def z32.pack:List V->Option Pack
 |[(.ints _ .u64 a0)]=>some ⟨J0,z32.F a0,z32.enc⟩
 |_=>none
def z33.F (a0:J0):Option (J0):=
 (if (a0).length*8<=140737488355328 then ((z32.F a0).bind λr1=>(some r1)) else none)
def z33.pack:List V->Option Pack
 |[(.ints _ .u64 a0)]=>some ⟨J0,z33.F a0,z32.enc⟩
 |_=>none
def z34.F (a0:Int):Option (J0×Bool):=
 (bif (decide (a0<0)) then ((z33.F [(wr .u64 (0-(wr .u64 a0)))]).bind λr1=>((z31.F r1 true).bind λr2=>(some (r2.1,r2.2)))) else ((z33.F [(wr .u64 a0)]).bind λr3=>((z31.F r3 false).bind λr4=>(some (r4.1,r4.2)))))
def z34.pack:List V->Option Pack
 |[(.int .i64 a0)]=>some ⟨J0×Bool,z34.F a0,z31.enc⟩
 |_=>none
def z35.F (a0:J0) (a1:Bool):Option (J0×Bool×J0):=
 (some (a0,a1,[]))
def z35.enc (r:J0×Bool×J0):V:=(.agg [(.ints false .u64 r.1),(.bool r.2.1),(.ints false .u64 r.2.2)])
def z35.pack:List V->Option Pack
 |[(.agg [(.ints _ .u64 a0),(.bool a1)])]=>some ⟨J0×Bool×J0,z35.F a0 a1,z35.enc⟩
 |_=>none
def z36.F (a0:J0) (a1:Bool):Option (J0×Bool):=
 ((z31.F a0 (!a1)).bind λr1=>(some (r1.1,r1.2)))
def z36.pack:List V->Option Pack
 |[(.agg [(.ints _ .u64 a0),(.bool a1)])]=>some ⟨J0×Bool,z36.F a0 a1,z31.enc⟩
 |_=>none
def z37.F (a0:J0) (a1:Bool):Option (J0):=
 (some a0)
def z37.pack:List V->Option Pack
 |[(.agg [(.ints _ .u64 a0),(.bool a1)])]=>some ⟨J0,z37.F a0 a1,z32.enc⟩
 |_=>none
def z38.F (a0:J0) (a1:Int):Option (Int):=
 (bif (decide (a1>=(((a0).length:Nat):Int))) then (some 0) else (if 0<=a1/\a1<(a0.length:Int) then (some (a0.getD (a1).toNat 0)) else none))
def z38.enc (r:Int):V:=(.int .u64 r)
def z38.pack:List V->Option Pack
 |[(.agg [(.ints _ .u64 a0)]),(.int .i64 a1)]=>some ⟨Int,z38.F a0 a1,z38.enc⟩
 |_=>none
def z39.F (a0:Int):Option (Bool):=
 (some (!decide (a0=a0)))
def z39.pack:List V->Option Pack
 |[(.int .u64 a0)]=>some ⟨Bool,z39.F a0,z12.enc⟩
 |_=>none
def z40.F (a0 a1:Int):Option (Int):=
 ((z39.F a0).bind λr1=>((z39.F a1).bind λr2=>(bif r1 then (bif r2 then (some 0) else (some (-1:Int))) else (bif r2 then (some 1) else (bif (decide (a0<a1)) then (some (-1:Int)) else (bif (decide (a0>a1)) then (some 1) else (some 0)))))))
def z40.pack:List V->Option Pack
 |[(.int .u64 a0),(.int .u64 a1)]=>some ⟨Int,z40.F a0 a1,z13.enc⟩
 |_=>none
def z41.l0P (a b:J0) {R:Type} (rec:Int->Option R) (done:((Int)⊕(Int))->Option R):Int->Option R:=λc=>(bif (decide (c>=0)) then (if 0<=c/\c<(a.length:Int) then (if 0<=c/\c<(b.length:Int) then ((z40.F (a.getD (c).toNat 0) (b.getD (c).toNat 0)).bind λd=>(bif (!decide (d=0)) then (done (.inr d)) else (rec (wr .i64 (c-1))))) else none) else none) else (done (.inl c)))
def z41.l0 (a b:J0) (x:Int):Option (((Int)⊕(Int))):=lfp (λrec x=>z41.l0P a b rec some x) x
def z41.F (a0 a1:J0):Option (Int):=
 ((z22.F (((a0).length:Nat):Int) (((a1).length:Nat):Int)).bind λr1=>(bif (!decide (r1=0)) then (some r1) else ((z41.l0 a0 a1 (wr .i64 ((((a0).length:Nat):Int)-1))).bind λo2=>match o2 with | .inl p3=>(some 0) | .inr q4=>(some q4))))
def z41.pack:List V->Option Pack
 |[(.agg [(.ints _ .u64 a0)]),(.agg [(.ints _ .u64 a1)])]=>some ⟨Int,z41.F a0 a1,z13.enc⟩
 |_=>none
def z42.l0P (a:Int) (b c:J0) {R:Type} (rec done:(Int×Int×J0)->Option R):(Int×Int×J0)->Option R:=λx=>match x with
 |(d,e,g)=>(bif (decide (e<a)) then (if 0<=e/\e<(b.length:Int) then ((z38.F c e).bind λh=>((z1.F (b.getD (e).toNat 0) h d).bind λj=>(if 0<=e/\e<(g.length:Int) then (if (e).toNat<g.length then (rec (j.2,(wr .i64 (e+1)),(g.set (e).toNat j.1))) else none) else none))) else none) else (done (d,e,g)))
def z42.l0 (a:Int) (b c:J0) (x:(Int×Int×J0)):Option ((Int×Int×J0)):=lfp (λrec x=>z42.l0P a b c rec some x) x
def z42.F (a0 a1:J0):Option (J0×Bool):=
 ((z41.F a0 a1).bind λr1=>(bif (decide (r1<0)) then (some ([],false)) else (if 0<=(((a0).length:Nat):Int)/\(((a0).length:Nat):Int)*8<=140737488355328 then ((z42.l0 ((((List.replicate ((((a0).length:Nat):Int)).toNat (0:Int))).length:Nat):Int) a0 a1 ((0:Int),(0:Int),(List.replicate ((((a0).length:Nat):Int)).toNat (0:Int)))).bind λo2=>((z32.F o2.2.2).bind λr3=>(some (r3,true)))) else none)))
def z42.enc (r:J0×Bool):V:=(.tup [(.agg [(.ints false .u64 r.1)]),(.bool r.2)])
def z42.pack:List V->Option Pack
 |[(.agg [(.ints _ .u64 a0)]),(.agg [(.ints _ .u64 a1)])]=>some ⟨J0×Bool,z42.F a0 a1,z42.enc⟩
 |_=>none
def z43.F (a0:J0):Option (J0):=
 (if (a0).length*8<=140737488355328 then (some a0) else none)
def z43.enc (r:J0):V:=(.ints false .u64 r)
def z43.pack:List V->Option Pack
 |[(.agg [(.ints _ .u64 a0)])]=>some ⟨J0,z43.F a0,z43.enc⟩
 |_=>none
def z44.j8 (j7 j8:Int):Option (Int):=
 (if 0<=(wr .u8 j7)/\(wr .u8 j7)<(([0,1,2,2,3,3,3,3,4,4,4,4,4,4,4,4,5,5,5,5,5,5,5,5,5,5,5,5,5,5,5,5,6,6,6,6,6,6,6,6,6,6,6,6,6,6,6,6,6,6,6,6,6,6,6,6,6,6,6,6,6,6,6,6,7,7,7,7,7,7,7,7,7,7,7,7,7,7,7,7,7,7,7,7,7,7,7,7,7,7,7,7,7,7,7,7,7,7,7,7,7,7,7,7,7,7,7,7,7,7,7,7,7,7,7,7,7,7,7,7,7,7,7,7,7,7,7,7,8,8,8,8,8,8,8,8,8,8,8,8,8,8,8,8,8,8,8,8,8,8,8,8,8,8,8,8,8,8,8,8,8,8,8,8,8,8,8,8,8,8,8,8,8,8,8,8,8,8,8,8,8,8,8,8,8,8,8,8,8,8,8,8,8,8,8,8,8,8,8,8,8,8,8,8,8,8,8,8,8,8,8,8,8,8,8,8,8,8,8,8,8,8,8,8,8,8,8,8,8,8,8,8,8,8,8,8,8,8,8,8,8,8,8,8,8,8,8,8,8,8,8,8,8,8,8,8]:J1).length:Int) then (some (wr .i64 (j8+(wr .i64 ((([0,1,2,2,3,3,3,3,4,4,4,4,4,4,4,4,5,5,5,5,5,5,5,5,5,5,5,5,5,5,5,5,6,6,6,6,6,6,6,6,6,6,6,6,6,6,6,6,6,6,6,6,6,6,6,6,6,6,6,6,6,6,6,6,7,7,7,7,7,7,7,7,7,7,7,7,7,7,7,7,7,7,7,7,7,7,7,7,7,7,7,7,7,7,7,7,7,7,7,7,7,7,7,7,7,7,7,7,7,7,7,7,7,7,7,7,7,7,7,7,7,7,7,7,7,7,7,7,8,8,8,8,8,8,8,8,8,8,8,8,8,8,8,8,8,8,8,8,8,8,8,8,8,8,8,8,8,8,8,8,8,8,8,8,8,8,8,8,8,8,8,8,8,8,8,8,8,8,8,8,8,8,8,8,8,8,8,8,8,8,8,8,8,8,8,8,8,8,8,8,8,8,8,8,8,8,8,8,8,8,8,8,8,8,8,8,8,8,8,8,8,8,8,8,8,8,8,8,8,8,8,8,8,8,8,8,8,8,8,8,8,8,8,8,8,8,8,8,8,8,8,8,8,8,8,8]:J1).getD ((wr .u8 j7)).toNat 0).toNat:Int))))) else none)
def z44.j10 (j9 j10:Int):Option (Int):=
 (if 0<=(wr .u8 j9)/\(wr .u8 j9)<(([0,1,2,2,3,3,3,3,4,4,4,4,4,4,4,4,5,5,5,5,5,5,5,5,5,5,5,5,5,5,5,5,6,6,6,6,6,6,6,6,6,6,6,6,6,6,6,6,6,6,6,6,6,6,6,6,6,6,6,6,6,6,6,6,7,7,7,7,7,7,7,7,7,7,7,7,7,7,7,7,7,7,7,7,7,7,7,7,7,7,7,7,7,7,7,7,7,7,7,7,7,7,7,7,7,7,7,7,7,7,7,7,7,7,7,7,7,7,7,7,7,7,7,7,7,7,7,7,8,8,8,8,8,8,8,8,8,8,8,8,8,8,8,8,8,8,8,8,8,8,8,8,8,8,8,8,8,8,8,8,8,8,8,8,8,8,8,8,8,8,8,8,8,8,8,8,8,8,8,8,8,8,8,8,8,8,8,8,8,8,8,8,8,8,8,8,8,8,8,8,8,8,8,8,8,8,8,8,8,8,8,8,8,8,8,8,8,8,8,8,8,8,8,8,8,8,8,8,8,8,8,8,8,8,8,8,8,8,8,8,8,8,8,8,8,8,8,8,8,8,8,8,8,8,8,8]:J1).length:Int) then (some (wr .i64 (j10+(wr .i64 ((([0,1,2,2,3,3,3,3,4,4,4,4,4,4,4,4,5,5,5,5,5,5,5,5,5,5,5,5,5,5,5,5,6,6,6,6,6,6,6,6,6,6,6,6,6,6,6,6,6,6,6,6,6,6,6,6,6,6,6,6,6,6,6,6,7,7,7,7,7,7,7,7,7,7,7,7,7,7,7,7,7,7,7,7,7,7,7,7,7,7,7,7,7,7,7,7,7,7,7,7,7,7,7,7,7,7,7,7,7,7,7,7,7,7,7,7,7,7,7,7,7,7,7,7,7,7,7,7,8,8,8,8,8,8,8,8,8,8,8,8,8,8,8,8,8,8,8,8,8,8,8,8,8,8,8,8,8,8,8,8,8,8,8,8,8,8,8,8,8,8,8,8,8,8,8,8,8,8,8,8,8,8,8,8,8,8,8,8,8,8,8,8,8,8,8,8,8,8,8,8,8,8,8,8,8,8,8,8,8,8,8,8,8,8,8,8,8,8,8,8,8,8,8,8,8,8,8,8,8,8,8,8,8,8,8,8,8,8,8,8,8,8,8,8,8,8,8,8,8,8,8,8,8,8,8,8]:J1).getD ((wr .u8 j9)).toNat 0).toNat:Int))))) else none)
def z44.j2 (j1 j2:Int):Option (Int):=
 (bif (decide (j1>=65536)) then (bif (decide ((Int.fdiv j1 (2^(min 16 (64:Nat))))>=256)) then (z44.j8 (Int.fdiv (Int.fdiv j1 (2^(min 16 (64:Nat)))) (2^(min 8 (64:Nat)))) (wr .i64 ((wr .i64 (j2+16))+8))) else (z44.j8 (Int.fdiv j1 (2^(min 16 (64:Nat)))) (wr .i64 (j2+16)))) else (bif (decide (j1>=256)) then (z44.j10 (Int.fdiv j1 (2^(min 8 (64:Nat)))) (wr .i64 (j2+8))) else (z44.j10 j1 j2)))
def z44.F (a0:Int):Option (Int):=
 (bif (decide (a0>=4294967296)) then (z44.j2 (Int.fdiv a0 (2^(min 32 (64:Nat)))) 32) else (z44.j2 a0 0))
def z44.pack:List V->Option Pack
 |[(.int .u64 a0)]=>some ⟨Int,z44.F a0,z13.enc⟩
 |_=>none
def z45.F (a0:Int):Option (Int):=
 ((z44.F a0).bind λr1=>(some (wr .i64 ((64:Int)-r1))))
def z45.pack:List V->Option Pack
 |[(.int .u64 a0)]=>some ⟨Int,z45.F a0,z13.enc⟩
 |_=>none
def z46.l0P (a b c:Int) {R:Type} (rec done:(Int×Int)->Option R):(Int×Int)->Option R:=λx=>match x with
 |(d,e)=>(bif (decide (d>=4294967296)) then (bif (decide ((wr .u64 (e+a))>=4294967296)) then (done ((wr .u64 (d-1)),(wr .u64 (e+a)))) else (rec ((wr .u64 (d-1)),(wr .u64 (e+a))))) else (bif (decide ((wr .u64 (d*b))>(wr .u64 ((wr .u64 ((4294967296:Int)*e))+c)))) then (bif (decide ((wr .u64 (e+a))>=4294967296)) then (done ((wr .u64 (d-1)),(wr .u64 (e+a)))) else (rec ((wr .u64 (d-1)),(wr .u64 (e+a))))) else (done (d,e))))
def z46.l0 (a b c:Int) (x:(Int×Int)):Option ((Int×Int)):=lfp (λrec x=>z46.l0P a b c rec some x) x
def z46.l2P (a b c:Int) {R:Type} (rec done:(Int×Int)->Option R):(Int×Int)->Option R:=λx=>match x with
 |(d,e)=>(bif (decide (e>=4294967296)) then (bif (decide ((wr .u64 (d+a))>=4294967296)) then (done ((wr .u64 (d+a)),(wr .u64 (e-1)))) else (rec ((wr .u64 (d+a)),(wr .u64 (e-1))))) else (bif (decide ((wr .u64 (e*b))>(wr .u64 ((wr .u64 ((4294967296:Int)*d))+c)))) then (bif (decide ((wr .u64 (d+a))>=4294967296)) then (done ((wr .u64 (d+a)),(wr .u64 (e-1)))) else (rec ((wr .u64 (d+a)),(wr .u64 (e-1))))) else (done (d,e))))
def z46.l2 (a b c:Int) (x:(Int×Int)):Option ((Int×Int)):=lfp (λrec x=>z46.l2P a b c rec some x) x
def z46.F (a0 a1 a2:Int):Option (Int×Int):=
 (bif (decide (a2=0)) then none else (bif (decide (a2<=a0)) then none else (bif (decide (a0=0)) then (if a2=0 then none else (if a2=0 then none else (some ((wr .u64 (Int.tdiv a1 a2)),(Int.tmod a1 a2))))) else ((z45.F a2).bind λr1=>(if 0<=(wr .u64 r1) then (if 0<=(wr .u64 r1) then (if 0<=(wr .u64 ((64:Int)-(wr .u64 r1))) then (if 0<=(wr .u64 r1) then (if (Int.fdiv (wr .u64 (a2*2^(min ((wr .u64 r1)).toNat (64:Nat)))) (2^(min 32 (64:Nat))))=0 then none else ((z46.l0 (Int.fdiv (wr .u64 (a2*2^(min ((wr .u64 r1)).toNat (64:Nat)))) (2^(min 32 (64:Nat)))) (wr .u64 ((BitVec.ofInt (IntKind.bits .u64) (wr .u64 (a2*2^(min ((wr .u64 r1)).toNat (64:Nat)))) &&& BitVec.ofInt (IntKind.bits .u64) 4294967295).toNat:Int)) (Int.fdiv (wr .u64 (a1*2^(min ((wr .u64 r1)).toNat (64:Nat)))) (2^(min 32 (64:Nat)))) ((wr .u64 (Int.tdiv (wr .u64 ((BitVec.ofInt (IntKind.bits .u64) (wr .u64 (a0*2^(min ((wr .u64 r1)).toNat (64:Nat)))) ||| BitVec.ofInt (IntKind.bits .u64) (Int.fdiv a1 (2^(min ((wr .u64 ((64:Int)-(wr .u64 r1)))).toNat (64:Nat))))).toNat:Int)) (Int.fdiv (wr .u64 (a2*2^(min ((wr .u64 r1)).toNat (64:Nat)))) (2^(min 32 (64:Nat)))))),(wr .u64 ((wr .u64 ((BitVec.ofInt (IntKind.bits .u64) (wr .u64 (a0*2^(min ((wr .u64 r1)).toNat (64:Nat)))) ||| BitVec.ofInt (IntKind.bits .u64) (Int.fdiv a1 (2^(min ((wr .u64 ((64:Int)-(wr .u64 r1)))).toNat (64:Nat))))).toNat:Int))-(wr .u64 ((wr .u64 (Int.tdiv (wr .u64 ((BitVec.ofInt (IntKind.bits .u64) (wr .u64 (a0*2^(min ((wr .u64 r1)).toNat (64:Nat)))) ||| BitVec.ofInt (IntKind.bits .u64) (Int.fdiv a1 (2^(min ((wr .u64 ((64:Int)-(wr .u64 r1)))).toNat (64:Nat))))).toNat:Int)) (Int.fdiv (wr .u64 (a2*2^(min ((wr .u64 r1)).toNat (64:Nat)))) (2^(min 32 (64:Nat))))))*(Int.fdiv (wr .u64 (a2*2^(min ((wr .u64 r1)).toNat (64:Nat)))) (2^(min 32 (64:Nat)))))))))).bind λo2=>(if (Int.fdiv (wr .u64 (a2*2^(min ((wr .u64 r1)).toNat (64:Nat)))) (2^(min 32 (64:Nat))))=0 then none else ((z46.l2 (Int.fdiv (wr .u64 (a2*2^(min ((wr .u64 r1)).toNat (64:Nat)))) (2^(min 32 (64:Nat)))) (wr .u64 ((BitVec.ofInt (IntKind.bits .u64) (wr .u64 (a2*2^(min ((wr .u64 r1)).toNat (64:Nat)))) &&& BitVec.ofInt (IntKind.bits .u64) 4294967295).toNat:Int)) (wr .u64 ((BitVec.ofInt (IntKind.bits .u64) (wr .u64 (a1*2^(min ((wr .u64 r1)).toNat (64:Nat)))) &&& BitVec.ofInt (IntKind.bits .u64) 4294967295).toNat:Int)) ((wr .u64 ((wr .u64 ((wr .u64 ((wr .u64 ((wr .u64 ((BitVec.ofInt (IntKind.bits .u64) (wr .u64 (a0*2^(min ((wr .u64 r1)).toNat (64:Nat)))) ||| BitVec.ofInt (IntKind.bits .u64) (Int.fdiv a1 (2^(min ((wr .u64 ((64:Int)-(wr .u64 r1)))).toNat (64:Nat))))).toNat:Int))*4294967296))+(Int.fdiv (wr .u64 (a1*2^(min ((wr .u64 r1)).toNat (64:Nat)))) (2^(min 32 (64:Nat))))))-(wr .u64 (o2.1*(wr .u64 (a2*2^(min ((wr .u64 r1)).toNat (64:Nat))))))))-(wr .u64 ((wr .u64 (Int.tdiv (wr .u64 ((wr .u64 ((wr .u64 ((wr .u64 ((BitVec.ofInt (IntKind.bits .u64) (wr .u64 (a0*2^(min ((wr .u64 r1)).toNat (64:Nat)))) ||| BitVec.ofInt (IntKind.bits .u64) (Int.fdiv a1 (2^(min ((wr .u64 ((64:Int)-(wr .u64 r1)))).toNat (64:Nat))))).toNat:Int))*4294967296))+(Int.fdiv (wr .u64 (a1*2^(min ((wr .u64 r1)).toNat (64:Nat)))) (2^(min 32 (64:Nat))))))-(wr .u64 (o2.1*(wr .u64 (a2*2^(min ((wr .u64 r1)).toNat (64:Nat)))))))) (Int.fdiv (wr .u64 (a2*2^(min ((wr .u64 r1)).toNat (64:Nat)))) (2^(min 32 (64:Nat))))))*(Int.fdiv (wr .u64 (a2*2^(min ((wr .u64 r1)).toNat (64:Nat)))) (2^(min 32 (64:Nat)))))))),(wr .u64 (Int.tdiv (wr .u64 ((wr .u64 ((wr .u64 ((wr .u64 ((BitVec.ofInt (IntKind.bits .u64) (wr .u64 (a0*2^(min ((wr .u64 r1)).toNat (64:Nat)))) ||| BitVec.ofInt (IntKind.bits .u64) (Int.fdiv a1 (2^(min ((wr .u64 ((64:Int)-(wr .u64 r1)))).toNat (64:Nat))))).toNat:Int))*4294967296))+(Int.fdiv (wr .u64 (a1*2^(min ((wr .u64 r1)).toNat (64:Nat)))) (2^(min 32 (64:Nat))))))-(wr .u64 (o2.1*(wr .u64 (a2*2^(min ((wr .u64 r1)).toNat (64:Nat)))))))) (Int.fdiv (wr .u64 (a2*2^(min ((wr .u64 r1)).toNat (64:Nat)))) (2^(min 32 (64:Nat)))))))).bind λo3=>(if 0<=(wr .u64 r1) then (some ((wr .u64 ((wr .u64 (o2.1*4294967296))+o3.2)),(Int.fdiv (wr .u64 ((wr .u64 ((wr .u64 ((wr .u64 ((wr .u64 ((wr .u64 ((wr .u64 ((BitVec.ofInt (IntKind.bits .u64) (wr .u64 (a0*2^(min ((wr .u64 r1)).toNat (64:Nat)))) ||| BitVec.ofInt (IntKind.bits .u64) (Int.fdiv a1 (2^(min ((wr .u64 ((64:Int)-(wr .u64 r1)))).toNat (64:Nat))))).toNat:Int))*4294967296))+(Int.fdiv (wr .u64 (a1*2^(min ((wr .u64 r1)).toNat (64:Nat)))) (2^(min 32 (64:Nat))))))-(wr .u64 (o2.1*(wr .u64 (a2*2^(min ((wr .u64 r1)).toNat (64:Nat))))))))*4294967296))+(wr .u64 ((BitVec.ofInt (IntKind.bits .u64) (wr .u64 (a1*2^(min ((wr .u64 r1)).toNat (64:Nat)))) &&& BitVec.ofInt (IntKind.bits .u64) 4294967295).toNat:Int))))-(wr .u64 (o3.2*(wr .u64 (a2*2^(min ((wr .u64 r1)).toNat (64:Nat)))))))) (2^(min ((wr .u64 r1)).toNat (64:Nat)))))) else none))))) else none) else none) else none) else none)))))
def z46.enc (r:Int×Int):V:=(.tup [(.int .u64 r.1),(.int .u64 r.2)])
def z46.pack:List V->Option Pack
 |[(.int .u64 a0),(.int .u64 a1),(.int .u64 a2)]=>some ⟨Int×Int,z46.F a0 a1 a2,z46.enc⟩
 |_=>none
def z47.l0P (a:J0) (b:Int) {R:Type} (rec done:(Int×Int×J0)->Option R):(Int×Int×J0)->Option R:=λx=>match x with
 |(c,d,e)=>(bif (decide (d>=0)) then (if 0<=d/\d<(a.length:Int) then ((z46.F c (a.getD (d).toNat 0) b).bind λg=>(if 0<=d/\d<(e.length:Int) then (if (d).toNat<e.length then (rec (g.2,(wr .i64 (d-1)),(e.set (d).toNat g.1))) else none) else none)) else none) else (done (c,d,e)))
def z47.l0 (a:J0) (b:Int) (x:(Int×Int×J0)):Option ((Int×Int×J0)):=lfp (λrec x=>z47.l0P a b rec some x) x
def z47.F (a0:J0) (a1:Int):Option (J0×Int):=
 (if 0<=(((a0).length:Nat):Int)/\(((a0).length:Nat):Int)*8<=140737488355328 then ((z47.l0 a0 a1 ((0:Int),(wr .i64 ((((a0).length:Nat):Int)-1)),(List.replicate ((((a0).length:Nat):Int)).toNat (0:Int)))).bind λo1=>(some (o1.2.2,o1.1))) else none)
def z47.enc (r:J0×Int):V:=(.tup [(.ints false .u64 r.1),(.int .u64 r.2)])
def z47.pack:List V->Option Pack
 |[(.ints _ .u64 a0),(.int .u64 a1)]=>some ⟨J0×Int,z47.F a0 a1,z47.enc⟩
 |_=>none
def z48.F (a0:Int):Option (Bool):=
 (bif (decide (a0<0)) then (some true) else (some (decide (a0>262144))))
def z48.pack:List V->Option Pack
 |[(.int .i64 a0)]=>some ⟨Bool,z48.F a0,z12.enc⟩
 |_=>none
def z49.l0P (a b:Nat) (c d:Int) {R:Type} (rec done:(Int×J0)->Option R):(Int×J0)->Option R:=λx=>match x with
 |(e,g)=>(bif (decide (e<d)) then (if 0<=e/\e<((b:Nat):Int) then (if (a+(e).toNat)<g.length then (if 0<=c then (if 0<=e/\e<((b:Nat):Int) then (if (a+(e).toNat)<g.length then (bif (decide ((wr .i64 (e+1))<((b:Nat):Int))) then (if 0<=e/\e<((b:Nat):Int) then (if (a+(e).toNat)<(g.set (a+(e).toNat) (Int.fdiv (g.getD (a+(e).toNat) 0) (2^(min (c).toNat (64:Nat))))).length then (if 0<=(wr .i64 (e+1))/\(wr .i64 (e+1))<((b:Nat):Int) then (if (a+((wr .i64 (e+1))).toNat)<(g.set (a+(e).toNat) (Int.fdiv (g.getD (a+(e).toNat) 0) (2^(min (c).toNat (64:Nat))))).length then (if 0<=(wr .u64 ((64:Int)-c)) then (if 0<=e/\e<((b:Nat):Int) then (if (a+(e).toNat)<(g.set (a+(e).toNat) (Int.fdiv (g.getD (a+(e).toNat) 0) (2^(min (c).toNat (64:Nat))))).length then (rec ((wr .i64 (e+1)),((g.set (a+(e).toNat) (Int.fdiv (g.getD (a+(e).toNat) 0) (2^(min (c).toNat (64:Nat))))).set (a+(e).toNat) (wr .u64 ((BitVec.ofInt (IntKind.bits .u64) ((g.set (a+(e).toNat) (Int.fdiv (g.getD (a+(e).toNat) 0) (2^(min (c).toNat (64:Nat))))).getD (a+(e).toNat) 0) ||| BitVec.ofInt (IntKind.bits .u64) (wr .u64 (((g.set (a+(e).toNat) (Int.fdiv (g.getD (a+(e).toNat) 0) (2^(min (c).toNat (64:Nat))))).getD (a+((wr .i64 (e+1))).toNat) 0)*2^(min ((wr .u64 ((64:Int)-c))).toNat (64:Nat))))).toNat:Int))))) else none) else none) else none) else none) else none) else none) else none) else (rec ((wr .i64 (e+1)),(g.set (a+(e).toNat) (Int.fdiv (g.getD (a+(e).toNat) 0) (2^(min (c).toNat (64:Nat)))))))) else none) else none) else none) else none) else none) else (done (e,g)))
def z49.l0 (a b:Nat) (c d:Int) (x:(Int×J0)):Option ((Int×J0)):=lfp (λrec x=>z49.l0P a b c d rec some x) x
def z49.F (a0:J0) (a1:Int):Option (J0×Int):=
 ((z48.F a1).bind λr1=>(bif r1 then (some ([],(2:Int))) else (if (a0).length*8<=140737488355328 then (if 0<=(if (((a0).length:Nat):Int)<(wr .i64 (Int.tdiv a1 64)) then (((a0).length:Nat):Int) else (wr .i64 (Int.tdiv a1 64)))/\(if (((a0).length:Nat):Int)<(wr .i64 (Int.tdiv a1 64)) then (((a0).length:Nat):Int) else (wr .i64 (Int.tdiv a1 64)))<=((a0).length:Int) then ((z49.l0 ((if (((a0).length:Nat):Int)<(wr .i64 (Int.tdiv a1 64)) then (((a0).length:Nat):Int) else (wr .i64 (Int.tdiv a1 64)))).toNat ((a0).length-((if (((a0).length:Nat):Int)<(wr .i64 (Int.tdiv a1 64)) then (((a0).length:Nat):Int) else (wr .i64 (Int.tdiv a1 64)))).toNat) (wr .u64 (Int.tmod a1 64)) ((((a0).length-((if (((a0).length:Nat):Int)<(wr .i64 (Int.tdiv a1 64)) then (((a0).length:Nat):Int) else (wr .i64 (Int.tdiv a1 64)))).toNat):Nat):Int) ((0:Int),a0)).bind λo2=>((z33.F ((o2.2.drop ((if (((a0).length:Nat):Int)<(wr .i64 (Int.tdiv a1 64)) then (((a0).length:Nat):Int) else (wr .i64 (Int.tdiv a1 64)))).toNat).take ((a0).length-((if (((a0).length:Nat):Int)<(wr .i64 (Int.tdiv a1 64)) then (((a0).length:Nat):Int) else (wr .i64 (Int.tdiv a1 64)))).toNat))).bind λr3=>(some (r3,(0:Int))))) else none) else none)))
def z49.enc (r:J0×Int):V:=(.tup [(.agg [(.ints false .u64 r.1)]),(.int .i64 r.2)])
def z49.pack:List V->Option Pack
 |[(.agg [(.ints _ .u64 a0)]),(.int .i64 a1)]=>some ⟨J0×Int,z49.F a0 a1,z49.enc⟩
 |_=>none
def z50.F (a0 a1:Int):Option (Int×Int):=
 (some ((wr .u64 ((wr .u64 ((wr .u64 ((Int.fdiv a0 (2^(min 32 (64:Nat))))*(Int.fdiv a1 (2^(min 32 (64:Nat))))))+(Int.fdiv (wr .u64 ((wr .u64 ((Int.fdiv a0 (2^(min 32 (64:Nat))))*(wr .u64 ((BitVec.ofInt (IntKind.bits .u64) a1 &&& BitVec.ofInt (IntKind.bits .u64) 4294967295).toNat:Int))))+(Int.fdiv (wr .u64 ((wr .u64 ((BitVec.ofInt (IntKind.bits .u64) a0 &&& BitVec.ofInt (IntKind.bits .u64) 4294967295).toNat:Int))*(wr .u64 ((BitVec.ofInt (IntKind.bits .u64) a1 &&& BitVec.ofInt (IntKind.bits .u64) 4294967295).toNat:Int)))) (2^(min 32 (64:Nat)))))) (2^(min 32 (64:Nat))))))+(Int.fdiv (wr .u64 ((wr .u64 ((BitVec.ofInt (IntKind.bits .u64) (wr .u64 ((wr .u64 ((Int.fdiv a0 (2^(min 32 (64:Nat))))*(wr .u64 ((BitVec.ofInt (IntKind.bits .u64) a1 &&& BitVec.ofInt (IntKind.bits .u64) 4294967295).toNat:Int))))+(Int.fdiv (wr .u64 ((wr .u64 ((BitVec.ofInt (IntKind.bits .u64) a0 &&& BitVec.ofInt (IntKind.bits .u64) 4294967295).toNat:Int))*(wr .u64 ((BitVec.ofInt (IntKind.bits .u64) a1 &&& BitVec.ofInt (IntKind.bits .u64) 4294967295).toNat:Int)))) (2^(min 32 (64:Nat)))))) &&& BitVec.ofInt (IntKind.bits .u64) 4294967295).toNat:Int))+(wr .u64 ((wr .u64 ((BitVec.ofInt (IntKind.bits .u64) a0 &&& BitVec.ofInt (IntKind.bits .u64) 4294967295).toNat:Int))*(Int.fdiv a1 (2^(min 32 (64:Nat)))))))) (2^(min 32 (64:Nat)))))),(wr .u64 (a0*a1))))
def z50.pack:List V->Option Pack
 |[(.int .u64 a0),(.int .u64 a1)]=>some ⟨Int×Int,z50.F a0 a1,z46.enc⟩
 |_=>none
def z51.l0P (a:Int) (b:J0) (c:Int) {R:Type} (rec done:(Int×J0)->Option R):(Int×J0)->Option R:=λx=>match x with
 |(d,e)=>(bif (decide (d<c)) then (if 0<=d/\d<(b.length:Int) then (if 0<=d/\d<(e.length:Int) then (if (d).toNat<e.length then (if 0<=a then (if 0<=d/\d<(e.length:Int) then (if (d).toNat<e.length then (if 0<=(wr .u64 ((64:Int)-a)) then (if 0<=(wr .i64 (d+1))/\(wr .i64 (d+1))<((e.set (d).toNat (wr .u64 ((BitVec.ofInt (IntKind.bits .u64) (e.getD (d).toNat 0) ||| BitVec.ofInt (IntKind.bits .u64) (wr .u64 ((b.getD (d).toNat 0)*2^(min (a).toNat (64:Nat))))).toNat:Int))).length:Int) then (if ((wr .i64 (d+1))).toNat<(e.set (d).toNat (wr .u64 ((BitVec.ofInt (IntKind.bits .u64) (e.getD (d).toNat 0) ||| BitVec.ofInt (IntKind.bits .u64) (wr .u64 ((b.getD (d).toNat 0)*2^(min (a).toNat (64:Nat))))).toNat:Int))).length then (rec ((wr .i64 (d+1)),((e.set (d).toNat (wr .u64 ((BitVec.ofInt (IntKind.bits .u64) (e.getD (d).toNat 0) ||| BitVec.ofInt (IntKind.bits .u64) (wr .u64 ((b.getD (d).toNat 0)*2^(min (a).toNat (64:Nat))))).toNat:Int))).set ((wr .i64 (d+1))).toNat (Int.fdiv (b.getD (d).toNat 0) (2^(min ((wr .u64 ((64:Int)-a))).toNat (64:Nat))))))) else none) else none) else none) else none) else none) else none) else none) else none) else none) else (done (d,e)))
def z51.l0 (a:Int) (b:J0) (c:Int) (x:(Int×J0)):Option ((Int×J0)):=lfp (λrec x=>z51.l0P a b c rec some x) x
def z51.l0aP (a:Int) (b:J0) (c:Int) {R:Type} (rec done:(Int×J0)->Option R):(Int×J0)->Option R:=λx=>match x with
 |(d,e)=>(bif (decide (d<c)) then (if 0<=d/\d<(b.length:Int) then (if 0<=d/\d<(e.length:Int) then (if (d).toNat<e.length then (if 0<=a then (if 0<=d/\d<(e.length:Int) then (if (d).toNat<e.length then (if 0<=(wr .u64 ((64:Int)-a)) then (if 0<=(wr .i64 (d+1))/\(wr .i64 (d+1))<((e.set (d).toNat (wr .u64 ((BitVec.ofInt (IntKind.bits .u64) (e.getD (d).toNat 0) ||| BitVec.ofInt (IntKind.bits .u64) (wr .u64 ((b.getD (d).toNat 0)*2^(min (a).toNat (64:Nat))))).toNat:Int))).length:Int) then (if ((wr .i64 (d+1))).toNat<(e.set (d).toNat (wr .u64 ((BitVec.ofInt (IntKind.bits .u64) (e.getD (d).toNat 0) ||| BitVec.ofInt (IntKind.bits .u64) (wr .u64 ((b.getD (d).toNat 0)*2^(min (a).toNat (64:Nat))))).toNat:Int))).length then (rec ((wr .i64 (d+1)),((e.set (d).toNat (wr .u64 ((BitVec.ofInt (IntKind.bits .u64) (e.getD (d).toNat 0) ||| BitVec.ofInt (IntKind.bits .u64) (wr .u64 ((b.getD (d).toNat 0)*2^(min (a).toNat (64:Nat))))).toNat:Int))).set ((wr .i64 (d+1))).toNat (Int.fdiv (b.getD (d).toNat 0) (2^(min ((wr .u64 ((64:Int)-a))).toNat (64:Nat))))))) else none) else none) else none) else none) else none) else none) else none) else none) else none) else (done (d,e)))
def z51.l0a (a:Int) (b:J0) (c:Int) (x:(Int×J0)):Option ((Int×J0)):=lfp (λrec x=>z51.l0aP a b c rec some x) x
def z51.l0b3P (a b:Nat) (c:Int) (d e:Nat) (g:Int) (h:J0) {R:Type} (rec done:(Int×Int×Int×J0)->Option R):(Int×Int×Int×J0)->Option R:=λx=>match x with
 |(j,k,m,n)=>(bif (decide (m<g)) then (if 0<=m/\m<((e:Nat):Int) then (if (d+(m).toNat)<h.length then ((z50.F (h.getD (d+(m).toNat) 0) c).bind λo=>((z0.F o.2 j 0).bind λp=>(if 0<=m/\m<((b:Nat):Int) then (if (a+(m).toNat)<n.length then ((z1.F (n.getD (a+(m).toNat) 0) p.1 k).bind λq=>(if 0<=m/\m<((b:Nat):Int) then (if (a+(m).toNat)<n.length then (rec ((wr .u64 (o.1+p.2)),q.2,(wr .i64 (m+1)),(n.set (a+(m).toNat) q.1))) else none) else none)) else none) else none))) else none) else none) else (done (j,k,m,n)))
def z51.l0b3 (a b:Nat) (c:Int) (d e:Nat) (g:Int) (h:J0) (x:(Int×Int×Int×J0)):Option ((Int×Int×Int×J0)):=lfp (λrec x=>z51.l0b3P a b c d e g h rec some x) x
def z51.l0b4P (a b c d:Nat) (e:Int) (g:J0) {R:Type} (rec done:(Int×Int×J0)->Option R):(Int×Int×J0)->Option R:=λx=>match x with
 |(h,j,k)=>(bif (decide (j<e)) then (if 0<=j/\j<((d:Nat):Int) then (if (c+(j).toNat)<g.length then (if 0<=j/\j<((b:Nat):Int) then (if (a+(j).toNat)<k.length then ((z0.F (k.getD (a+(j).toNat) 0) (g.getD (c+(j).toNat) 0) h).bind λm=>(if 0<=j/\j<((b:Nat):Int) then (if (a+(j).toNat)<k.length then (rec (m.2,(wr .i64 (j+1)),(k.set (a+(j).toNat) m.1))) else none) else none)) else none) else none) else none) else none) else (done (h,j,k)))
def z51.l0b4 (a b c d:Nat) (e:Int) (g:J0) (x:(Int×Int×J0)):Option ((Int×Int×J0)):=lfp (λrec x=>z51.l0b4P a b c d e g rec some x) x
def z51.l2P (a b c d:Nat) (e:J0) {R:Type} (rec done:(Int×Int×J0)->Option R):(Int×Int×J0)->Option R:=λx=>match x with
 |(g,h,j)=>(bif (!decide (h=0)) then ((z51.l0b4 c d a b ((b:Nat):Int) e ((0:Int),(0:Int),j)).bind λk=>(if 0<=((b:Nat):Int)/\((b:Nat):Int)<((d:Nat):Int) then (if (c+(((b:Nat):Int)).toNat)<k.2.2.length then (if 0<=((b:Nat):Int)/\((b:Nat):Int)<((d:Nat):Int) then (if (c+(((b:Nat):Int)).toNat)<k.2.2.length then (if 0<=((b:Nat):Int)/\((b:Nat):Int)<((d:Nat):Int) then (if (c+(((b:Nat):Int)).toNat)<(k.2.2.set (c+(((b:Nat):Int)).toNat) (wr .u64 ((k.2.2.getD (c+(((b:Nat):Int)).toNat) 0)+k.1))).length then (bif (decide (((k.2.2.set (c+(((b:Nat):Int)).toNat) (wr .u64 ((k.2.2.getD (c+(((b:Nat):Int)).toNat) 0)+k.1))).getD (c+(((b:Nat):Int)).toNat) 0)=0)) then (rec ((wr .u64 (g-1)),(0:Int),(k.2.2.set (c+(((b:Nat):Int)).toNat) (wr .u64 ((k.2.2.getD (c+(((b:Nat):Int)).toNat) 0)+k.1))))) else (rec ((wr .u64 (g-1)),h,(k.2.2.set (c+(((b:Nat):Int)).toNat) (wr .u64 ((k.2.2.getD (c+(((b:Nat):Int)).toNat) 0)+k.1)))))) else none) else none) else none) else none) else none) else none)) else (done (g,h,j)))
def z51.l2 (a b c d:Nat) (e:J0) (x:(Int×Int×J0)):Option ((Int×Int×J0)):=lfp (λrec x=>z51.l2P a b c d e rec some x) x
def z51.l0aaP (a b:Nat) (c:J0) {R:Type} (rec done:(Int×J0×J0)->Option R):(Int×J0×J0)->Option R:=λx=>match x with
 |(d,e,g)=>(bif (decide (d>=0)) then (if 0<=d/\d<=(wr .i64 ((wr .i64 (d+((b:Nat):Int)))+1))/\(wr .i64 ((wr .i64 (d+((b:Nat):Int)))+1))<=((e).length:Int) then (if 0<=((b:Nat):Int)/\((b:Nat):Int)<(((((wr .i64 ((wr .i64 (d+((b:Nat):Int)))+1))).toNat-(d).toNat):Nat):Int) then (if ((d).toNat+(((b:Nat):Int)).toNat)<e.length then (if 0<=(wr .i64 (((b:Nat):Int)-1))/\(wr .i64 (((b:Nat):Int)-1))<(((((wr .i64 ((wr .i64 (d+((b:Nat):Int)))+1))).toNat-(d).toNat):Nat):Int) then (if ((d).toNat+((wr .i64 (((b:Nat):Int)-1))).toNat)<e.length then (if 0<=(wr .i64 (((b:Nat):Int)-2))/\(wr .i64 (((b:Nat):Int)-2))<(((((wr .i64 ((wr .i64 (d+((b:Nat):Int)))+1))).toNat-(d).toNat):Nat):Int) then (if ((d).toNat+((wr .i64 (((b:Nat):Int)-2))).toNat)<e.length then (if 0<=(wr .i64 (((b:Nat):Int)-1))/\(wr .i64 (((b:Nat):Int)-1))<((b:Nat):Int) then (if (a+((wr .i64 (((b:Nat):Int)-1))).toNat)<c.length then (bif (decide ((e.getD ((d).toNat+(((b:Nat):Int)).toNat) 0)>=(c.getD (a+((wr .i64 (((b:Nat):Int)-1))).toNat) 0))) then ((z51.l0b3 (d).toNat (((wr .i64 ((wr .i64 (d+((b:Nat):Int)))+1))).toNat-(d).toNat) 18446744073709551615 a b ((b:Nat):Int) c ((0:Int),(0:Int),(0:Int),e)).bind λh=>(if 0<=((b:Nat):Int)/\((b:Nat):Int)<(((((wr .i64 ((wr .i64 (d+((b:Nat):Int)))+1))).toNat-(d).toNat):Nat):Int) then (if ((d).toNat+(((b:Nat):Int)).toNat)<h.2.2.2.length then ((z1.F (h.2.2.2.getD ((d).toNat+(((b:Nat):Int)).toNat) 0) h.1 h.2.1).bind λj=>(if 0<=((b:Nat):Int)/\((b:Nat):Int)<(((((wr .i64 ((wr .i64 (d+((b:Nat):Int)))+1))).toNat-(d).toNat):Nat):Int) then (if ((d).toNat+(((b:Nat):Int)).toNat)<h.2.2.2.length then ((z51.l2 a b (d).toNat (((wr .i64 ((wr .i64 (d+((b:Nat):Int)))+1))).toNat-(d).toNat) c ((18446744073709551615:Int),j.2,(h.2.2.2.set ((d).toNat+(((b:Nat):Int)).toNat) j.1))).bind λk=>(if 0<=d/\d<(g.length:Int) then (if (d).toNat<g.length then (rec ((wr .i64 (d-1)),k.2.2,(g.set (d).toNat k.1))) else none) else none)) else none) else none)) else none) else none)) else (if 0<=(wr .i64 (((b:Nat):Int)-1))/\(wr .i64 (((b:Nat):Int)-1))<((b:Nat):Int) then (if (a+((wr .i64 (((b:Nat):Int)-1))).toNat)<c.length then ((z46.F (e.getD ((d).toNat+(((b:Nat):Int)).toNat) 0) (e.getD ((d).toNat+((wr .i64 (((b:Nat):Int)-1))).toNat) 0) (c.getD (a+((wr .i64 (((b:Nat):Int)-1))).toNat) 0)).bind λm=>(if 0<=(wr .i64 (((b:Nat):Int)-2))/\(wr .i64 (((b:Nat):Int)-2))<((b:Nat):Int) then (if (a+((wr .i64 (((b:Nat):Int)-2))).toNat)<c.length then ((z50.F m.1 (c.getD (a+((wr .i64 (((b:Nat):Int)-2))).toNat) 0)).bind λn=>(bif (decide (n.1<m.2)) then ((z51.l0b3 (d).toNat (((wr .i64 ((wr .i64 (d+((b:Nat):Int)))+1))).toNat-(d).toNat) m.1 a b ((b:Nat):Int) c ((0:Int),(0:Int),(0:Int),e)).bind λo=>(if 0<=((b:Nat):Int)/\((b:Nat):Int)<(((((wr .i64 ((wr .i64 (d+((b:Nat):Int)))+1))).toNat-(d).toNat):Nat):Int) then (if ((d).toNat+(((b:Nat):Int)).toNat)<o.2.2.2.length then ((z1.F (o.2.2.2.getD ((d).toNat+(((b:Nat):Int)).toNat) 0) o.1 o.2.1).bind λp=>(if 0<=((b:Nat):Int)/\((b:Nat):Int)<(((((wr .i64 ((wr .i64 (d+((b:Nat):Int)))+1))).toNat-(d).toNat):Nat):Int) then (if ((d).toNat+(((b:Nat):Int)).toNat)<o.2.2.2.length then ((z51.l2 a b (d).toNat (((wr .i64 ((wr .i64 (d+((b:Nat):Int)))+1))).toNat-(d).toNat) c (m.1,p.2,(o.2.2.2.set ((d).toNat+(((b:Nat):Int)).toNat) p.1))).bind λq=>(if 0<=d/\d<(g.length:Int) then (if (d).toNat<g.length then (rec ((wr .i64 (d-1)),q.2.2,(g.set (d).toNat q.1))) else none) else none)) else none) else none)) else none) else none)) else (bif (decide (n.1=m.2)) then (bif (decide (n.2<=(e.getD ((d).toNat+((wr .i64 (((b:Nat):Int)-2))).toNat) 0))) then ((z51.l0b3 (d).toNat (((wr .i64 ((wr .i64 (d+((b:Nat):Int)))+1))).toNat-(d).toNat) m.1 a b ((b:Nat):Int) c ((0:Int),(0:Int),(0:Int),e)).bind λr=>(if 0<=((b:Nat):Int)/\((b:Nat):Int)<(((((wr .i64 ((wr .i64 (d+((b:Nat):Int)))+1))).toNat-(d).toNat):Nat):Int) then (if ((d).toNat+(((b:Nat):Int)).toNat)<r.2.2.2.length then ((z1.F (r.2.2.2.getD ((d).toNat+(((b:Nat):Int)).toNat) 0) r.1 r.2.1).bind λs=>(if 0<=((b:Nat):Int)/\((b:Nat):Int)<(((((wr .i64 ((wr .i64 (d+((b:Nat):Int)))+1))).toNat-(d).toNat):Nat):Int) then (if ((d).toNat+(((b:Nat):Int)).toNat)<r.2.2.2.length then ((z51.l2 a b (d).toNat (((wr .i64 ((wr .i64 (d+((b:Nat):Int)))+1))).toNat-(d).toNat) c (m.1,s.2,(r.2.2.2.set ((d).toNat+(((b:Nat):Int)).toNat) s.1))).bind λt=>(if 0<=d/\d<(g.length:Int) then (if (d).toNat<g.length then (rec ((wr .i64 (d-1)),t.2.2,(g.set (d).toNat t.1))) else none) else none)) else none) else none)) else none) else none)) else (if 0<=(wr .i64 (((b:Nat):Int)-1))/\(wr .i64 (((b:Nat):Int)-1))<((b:Nat):Int) then (if (a+((wr .i64 (((b:Nat):Int)-1))).toNat)<c.length then ((z0.F m.2 (c.getD (a+((wr .i64 (((b:Nat):Int)-1))).toNat) 0) 0).bind λu=>(bif (decide (u.2=0)) then (if 0<=(wr .i64 (((b:Nat):Int)-2))/\(wr .i64 (((b:Nat):Int)-2))<((b:Nat):Int) then (if (a+((wr .i64 (((b:Nat):Int)-2))).toNat)<c.length then ((z50.F (wr .u64 (m.1-1)) (c.getD (a+((wr .i64 (((b:Nat):Int)-2))).toNat) 0)).bind λv=>(bif (decide (v.1<u.1)) then ((z51.l0b3 (d).toNat (((wr .i64 ((wr .i64 (d+((b:Nat):Int)))+1))).toNat-(d).toNat) (wr .u64 (m.1-1)) a b ((b:Nat):Int) c ((0:Int),(0:Int),(0:Int),e)).bind λw=>(if 0<=((b:Nat):Int)/\((b:Nat):Int)<(((((wr .i64 ((wr .i64 (d+((b:Nat):Int)))+1))).toNat-(d).toNat):Nat):Int) then (if ((d).toNat+(((b:Nat):Int)).toNat)<w.2.2.2.length then ((z1.F (w.2.2.2.getD ((d).toNat+(((b:Nat):Int)).toNat) 0) w.1 w.2.1).bind λy=>(if 0<=((b:Nat):Int)/\((b:Nat):Int)<(((((wr .i64 ((wr .i64 (d+((b:Nat):Int)))+1))).toNat-(d).toNat):Nat):Int) then (if ((d).toNat+(((b:Nat):Int)).toNat)<w.2.2.2.length then ((z51.l2 a b (d).toNat (((wr .i64 ((wr .i64 (d+((b:Nat):Int)))+1))).toNat-(d).toNat) c ((wr .u64 (m.1-1)),y.2,(w.2.2.2.set ((d).toNat+(((b:Nat):Int)).toNat) y.1))).bind λz=>(if 0<=d/\d<(g.length:Int) then (if (d).toNat<g.length then (rec ((wr .i64 (d-1)),z.2.2,(g.set (d).toNat z.1))) else none) else none)) else none) else none)) else none) else none)) else (bif (decide (v.1=u.1)) then (bif (decide (v.2<=(e.getD ((d).toNat+((wr .i64 (((b:Nat):Int)-2))).toNat) 0))) then ((z51.l0b3 (d).toNat (((wr .i64 ((wr .i64 (d+((b:Nat):Int)))+1))).toNat-(d).toNat) (wr .u64 (m.1-1)) a b ((b:Nat):Int) c ((0:Int),(0:Int),(0:Int),e)).bind λA=>(if 0<=((b:Nat):Int)/\((b:Nat):Int)<(((((wr .i64 ((wr .i64 (d+((b:Nat):Int)))+1))).toNat-(d).toNat):Nat):Int) then (if ((d).toNat+(((b:Nat):Int)).toNat)<A.2.2.2.length then ((z1.F (A.2.2.2.getD ((d).toNat+(((b:Nat):Int)).toNat) 0) A.1 A.2.1).bind λB=>(if 0<=((b:Nat):Int)/\((b:Nat):Int)<(((((wr .i64 ((wr .i64 (d+((b:Nat):Int)))+1))).toNat-(d).toNat):Nat):Int) then (if ((d).toNat+(((b:Nat):Int)).toNat)<A.2.2.2.length then ((z51.l2 a b (d).toNat (((wr .i64 ((wr .i64 (d+((b:Nat):Int)))+1))).toNat-(d).toNat) c ((wr .u64 (m.1-1)),B.2,(A.2.2.2.set ((d).toNat+(((b:Nat):Int)).toNat) B.1))).bind λC=>(if 0<=d/\d<(g.length:Int) then (if (d).toNat<g.length then (rec ((wr .i64 (d-1)),C.2.2,(g.set (d).toNat C.1))) else none) else none)) else none) else none)) else none) else none)) else (if 0<=(wr .i64 (((b:Nat):Int)-1))/\(wr .i64 (((b:Nat):Int)-1))<((b:Nat):Int) then (if (a+((wr .i64 (((b:Nat):Int)-1))).toNat)<c.length then ((z0.F u.1 (c.getD (a+((wr .i64 (((b:Nat):Int)-1))).toNat) 0) 0).bind λD=>(bif (decide (D.2=0)) then (if 0<=(wr .i64 (((b:Nat):Int)-2))/\(wr .i64 (((b:Nat):Int)-2))<((b:Nat):Int) then (if (a+((wr .i64 (((b:Nat):Int)-2))).toNat)<c.length then ((z50.F (wr .u64 ((wr .u64 (m.1-1))-1)) (c.getD (a+((wr .i64 (((b:Nat):Int)-2))).toNat) 0)).bind λE=>(bif (decide (E.1<D.1)) then ((z51.l0b3 (d).toNat (((wr .i64 ((wr .i64 (d+((b:Nat):Int)))+1))).toNat-(d).toNat) (wr .u64 ((wr .u64 (m.1-1))-1)) a b ((b:Nat):Int) c ((0:Int),(0:Int),(0:Int),e)).bind λG=>(if 0<=((b:Nat):Int)/\((b:Nat):Int)<(((((wr .i64 ((wr .i64 (d+((b:Nat):Int)))+1))).toNat-(d).toNat):Nat):Int) then (if ((d).toNat+(((b:Nat):Int)).toNat)<G.2.2.2.length then ((z1.F (G.2.2.2.getD ((d).toNat+(((b:Nat):Int)).toNat) 0) G.1 G.2.1).bind λH=>(if 0<=((b:Nat):Int)/\((b:Nat):Int)<(((((wr .i64 ((wr .i64 (d+((b:Nat):Int)))+1))).toNat-(d).toNat):Nat):Int) then (if ((d).toNat+(((b:Nat):Int)).toNat)<G.2.2.2.length then ((z51.l2 a b (d).toNat (((wr .i64 ((wr .i64 (d+((b:Nat):Int)))+1))).toNat-(d).toNat) c ((wr .u64 ((wr .u64 (m.1-1))-1)),H.2,(G.2.2.2.set ((d).toNat+(((b:Nat):Int)).toNat) H.1))).bind λI=>(if 0<=d/\d<(g.length:Int) then (if (d).toNat<g.length then (rec ((wr .i64 (d-1)),I.2.2,(g.set (d).toNat I.1))) else none) else none)) else none) else none)) else none) else none)) else (bif (decide (E.1=D.1)) then (bif (decide (E.2<=(e.getD ((d).toNat+((wr .i64 (((b:Nat):Int)-2))).toNat) 0))) then ((z51.l0b3 (d).toNat (((wr .i64 ((wr .i64 (d+((b:Nat):Int)))+1))).toNat-(d).toNat) (wr .u64 ((wr .u64 (m.1-1))-1)) a b ((b:Nat):Int) c ((0:Int),(0:Int),(0:Int),e)).bind λJ=>(if 0<=((b:Nat):Int)/\((b:Nat):Int)<(((((wr .i64 ((wr .i64 (d+((b:Nat):Int)))+1))).toNat-(d).toNat):Nat):Int) then (if ((d).toNat+(((b:Nat):Int)).toNat)<J.2.2.2.length then ((z1.F (J.2.2.2.getD ((d).toNat+(((b:Nat):Int)).toNat) 0) J.1 J.2.1).bind λK=>(if 0<=((b:Nat):Int)/\((b:Nat):Int)<(((((wr .i64 ((wr .i64 (d+((b:Nat):Int)))+1))).toNat-(d).toNat):Nat):Int) then (if ((d).toNat+(((b:Nat):Int)).toNat)<J.2.2.2.length then ((z51.l2 a b (d).toNat (((wr .i64 ((wr .i64 (d+((b:Nat):Int)))+1))).toNat-(d).toNat) c ((wr .u64 ((wr .u64 (m.1-1))-1)),K.2,(J.2.2.2.set ((d).toNat+(((b:Nat):Int)).toNat) K.1))).bind λL=>(if 0<=d/\d<(g.length:Int) then (if (d).toNat<g.length then (rec ((wr .i64 (d-1)),L.2.2,(g.set (d).toNat L.1))) else none) else none)) else none) else none)) else none) else none)) else (if 0<=(wr .i64 (((b:Nat):Int)-1))/\(wr .i64 (((b:Nat):Int)-1))<((b:Nat):Int) then (if (a+((wr .i64 (((b:Nat):Int)-1))).toNat)<c.length then ((z0.F D.1 (c.getD (a+((wr .i64 (((b:Nat):Int)-1))).toNat) 0) 0).bind λM=>(bif (decide (M.2=0)) then none else ((z51.l0b3 (d).toNat (((wr .i64 ((wr .i64 (d+((b:Nat):Int)))+1))).toNat-(d).toNat) (wr .u64 ((wr .u64 ((wr .u64 (m.1-1))-1))-1)) a b ((b:Nat):Int) c ((0:Int),(0:Int),(0:Int),e)).bind λN=>(if 0<=((b:Nat):Int)/\((b:Nat):Int)<(((((wr .i64 ((wr .i64 (d+((b:Nat):Int)))+1))).toNat-(d).toNat):Nat):Int) then (if ((d).toNat+(((b:Nat):Int)).toNat)<N.2.2.2.length then ((z1.F (N.2.2.2.getD ((d).toNat+(((b:Nat):Int)).toNat) 0) N.1 N.2.1).bind λO=>(if 0<=((b:Nat):Int)/\((b:Nat):Int)<(((((wr .i64 ((wr .i64 (d+((b:Nat):Int)))+1))).toNat-(d).toNat):Nat):Int) then (if ((d).toNat+(((b:Nat):Int)).toNat)<N.2.2.2.length then ((z51.l2 a b (d).toNat (((wr .i64 ((wr .i64 (d+((b:Nat):Int)))+1))).toNat-(d).toNat) c ((wr .u64 ((wr .u64 ((wr .u64 (m.1-1))-1))-1)),O.2,(N.2.2.2.set ((d).toNat+(((b:Nat):Int)).toNat) O.1))).bind λP=>(if 0<=d/\d<(g.length:Int) then (if (d).toNat<g.length then (rec ((wr .i64 (d-1)),P.2.2,(g.set (d).toNat P.1))) else none) else none)) else none) else none)) else none) else none)))) else none) else none)) else (if 0<=(wr .i64 (((b:Nat):Int)-1))/\(wr .i64 (((b:Nat):Int)-1))<((b:Nat):Int) then (if (a+((wr .i64 (((b:Nat):Int)-1))).toNat)<c.length then ((z0.F D.1 (c.getD (a+((wr .i64 (((b:Nat):Int)-1))).toNat) 0) 0).bind λQ=>(bif (decide (Q.2=0)) then none else ((z51.l0b3 (d).toNat (((wr .i64 ((wr .i64 (d+((b:Nat):Int)))+1))).toNat-(d).toNat) (wr .u64 ((wr .u64 ((wr .u64 (m.1-1))-1))-1)) a b ((b:Nat):Int) c ((0:Int),(0:Int),(0:Int),e)).bind λS=>(if 0<=((b:Nat):Int)/\((b:Nat):Int)<(((((wr .i64 ((wr .i64 (d+((b:Nat):Int)))+1))).toNat-(d).toNat):Nat):Int) then (if ((d).toNat+(((b:Nat):Int)).toNat)<S.2.2.2.length then ((z1.F (S.2.2.2.getD ((d).toNat+(((b:Nat):Int)).toNat) 0) S.1 S.2.1).bind λU=>(if 0<=((b:Nat):Int)/\((b:Nat):Int)<(((((wr .i64 ((wr .i64 (d+((b:Nat):Int)))+1))).toNat-(d).toNat):Nat):Int) then (if ((d).toNat+(((b:Nat):Int)).toNat)<S.2.2.2.length then ((z51.l2 a b (d).toNat (((wr .i64 ((wr .i64 (d+((b:Nat):Int)))+1))).toNat-(d).toNat) c ((wr .u64 ((wr .u64 ((wr .u64 (m.1-1))-1))-1)),U.2,(S.2.2.2.set ((d).toNat+(((b:Nat):Int)).toNat) U.1))).bind λW=>(if 0<=d/\d<(g.length:Int) then (if (d).toNat<g.length then (rec ((wr .i64 (d-1)),W.2.2,(g.set (d).toNat W.1))) else none) else none)) else none) else none)) else none) else none)))) else none) else none)))) else none) else none) else ((z51.l0b3 (d).toNat (((wr .i64 ((wr .i64 (d+((b:Nat):Int)))+1))).toNat-(d).toNat) (wr .u64 ((wr .u64 (m.1-1))-1)) a b ((b:Nat):Int) c ((0:Int),(0:Int),(0:Int),e)).bind λY=>(if 0<=((b:Nat):Int)/\((b:Nat):Int)<(((((wr .i64 ((wr .i64 (d+((b:Nat):Int)))+1))).toNat-(d).toNat):Nat):Int) then (if ((d).toNat+(((b:Nat):Int)).toNat)<Y.2.2.2.length then ((z1.F (Y.2.2.2.getD ((d).toNat+(((b:Nat):Int)).toNat) 0) Y.1 Y.2.1).bind λZ=>(if 0<=((b:Nat):Int)/\((b:Nat):Int)<(((((wr .i64 ((wr .i64 (d+((b:Nat):Int)))+1))).toNat-(d).toNat):Nat):Int) then (if ((d).toNat+(((b:Nat):Int)).toNat)<Y.2.2.2.length then ((z51.l2 a b (d).toNat (((wr .i64 ((wr .i64 (d+((b:Nat):Int)))+1))).toNat-(d).toNat) c ((wr .u64 ((wr .u64 (m.1-1))-1)),Z.2,(Y.2.2.2.set ((d).toNat+(((b:Nat):Int)).toNat) Z.1))).bind λa0=>(if 0<=d/\d<(g.length:Int) then (if (d).toNat<g.length then (rec ((wr .i64 (d-1)),a0.2.2,(g.set (d).toNat a0.1))) else none) else none)) else none) else none)) else none) else none)))) else none) else none)) else (if 0<=(wr .i64 (((b:Nat):Int)-1))/\(wr .i64 (((b:Nat):Int)-1))<((b:Nat):Int) then (if (a+((wr .i64 (((b:Nat):Int)-1))).toNat)<c.length then ((z0.F u.1 (c.getD (a+((wr .i64 (((b:Nat):Int)-1))).toNat) 0) 0).bind λa1=>(bif (decide (a1.2=0)) then (if 0<=(wr .i64 (((b:Nat):Int)-2))/\(wr .i64 (((b:Nat):Int)-2))<((b:Nat):Int) then (if (a+((wr .i64 (((b:Nat):Int)-2))).toNat)<c.length then ((z50.F (wr .u64 ((wr .u64 (m.1-1))-1)) (c.getD (a+((wr .i64 (((b:Nat):Int)-2))).toNat) 0)).bind λa2=>(bif (decide (a2.1<a1.1)) then ((z51.l0b3 (d).toNat (((wr .i64 ((wr .i64 (d+((b:Nat):Int)))+1))).toNat-(d).toNat) (wr .u64 ((wr .u64 (m.1-1))-1)) a b ((b:Nat):Int) c ((0:Int),(0:Int),(0:Int),e)).bind λa3=>(if 0<=((b:Nat):Int)/\((b:Nat):Int)<(((((wr .i64 ((wr .i64 (d+((b:Nat):Int)))+1))).toNat-(d).toNat):Nat):Int) then (if ((d).toNat+(((b:Nat):Int)).toNat)<a3.2.2.2.length then ((z1.F (a3.2.2.2.getD ((d).toNat+(((b:Nat):Int)).toNat) 0) a3.1 a3.2.1).bind λa4=>(if 0<=((b:Nat):Int)/\((b:Nat):Int)<(((((wr .i64 ((wr .i64 (d+((b:Nat):Int)))+1))).toNat-(d).toNat):Nat):Int) then (if ((d).toNat+(((b:Nat):Int)).toNat)<a3.2.2.2.length then ((z51.l2 a b (d).toNat (((wr .i64 ((wr .i64 (d+((b:Nat):Int)))+1))).toNat-(d).toNat) c ((wr .u64 ((wr .u64 (m.1-1))-1)),a4.2,(a3.2.2.2.set ((d).toNat+(((b:Nat):Int)).toNat) a4.1))).bind λa5=>(if 0<=d/\d<(g.length:Int) then (if (d).toNat<g.length then (rec ((wr .i64 (d-1)),a5.2.2,(g.set (d).toNat a5.1))) else none) else none)) else none) else none)) else none) else none)) else (bif (decide (a2.1=a1.1)) then (bif (decide (a2.2<=(e.getD ((d).toNat+((wr .i64 (((b:Nat):Int)-2))).toNat) 0))) then ((z51.l0b3 (d).toNat (((wr .i64 ((wr .i64 (d+((b:Nat):Int)))+1))).toNat-(d).toNat) (wr .u64 ((wr .u64 (m.1-1))-1)) a b ((b:Nat):Int) c ((0:Int),(0:Int),(0:Int),e)).bind λa6=>(if 0<=((b:Nat):Int)/\((b:Nat):Int)<(((((wr .i64 ((wr .i64 (d+((b:Nat):Int)))+1))).toNat-(d).toNat):Nat):Int) then (if ((d).toNat+(((b:Nat):Int)).toNat)<a6.2.2.2.length then ((z1.F (a6.2.2.2.getD ((d).toNat+(((b:Nat):Int)).toNat) 0) a6.1 a6.2.1).bind λa7=>(if 0<=((b:Nat):Int)/\((b:Nat):Int)<(((((wr .i64 ((wr .i64 (d+((b:Nat):Int)))+1))).toNat-(d).toNat):Nat):Int) then (if ((d).toNat+(((b:Nat):Int)).toNat)<a6.2.2.2.length then ((z51.l2 a b (d).toNat (((wr .i64 ((wr .i64 (d+((b:Nat):Int)))+1))).toNat-(d).toNat) c ((wr .u64 ((wr .u64 (m.1-1))-1)),a7.2,(a6.2.2.2.set ((d).toNat+(((b:Nat):Int)).toNat) a7.1))).bind λa8=>(if 0<=d/\d<(g.length:Int) then (if (d).toNat<g.length then (rec ((wr .i64 (d-1)),a8.2.2,(g.set (d).toNat a8.1))) else none) else none)) else none) else none)) else none) else none)) else (if 0<=(wr .i64 (((b:Nat):Int)-1))/\(wr .i64 (((b:Nat):Int)-1))<((b:Nat):Int) then (if (a+((wr .i64 (((b:Nat):Int)-1))).toNat)<c.length then ((z0.F a1.1 (c.getD (a+((wr .i64 (((b:Nat):Int)-1))).toNat) 0) 0).bind λa9=>(bif (decide (a9.2=0)) then none else ((z51.l0b3 (d).toNat (((wr .i64 ((wr .i64 (d+((b:Nat):Int)))+1))).toNat-(d).toNat) (wr .u64 ((wr .u64 ((wr .u64 (m.1-1))-1))-1)) a b ((b:Nat):Int) c ((0:Int),(0:Int),(0:Int),e)).bind λb0=>(if 0<=((b:Nat):Int)/\((b:Nat):Int)<(((((wr .i64 ((wr .i64 (d+((b:Nat):Int)))+1))).toNat-(d).toNat):Nat):Int) then (if ((d).toNat+(((b:Nat):Int)).toNat)<b0.2.2.2.length then ((z1.F (b0.2.2.2.getD ((d).toNat+(((b:Nat):Int)).toNat) 0) b0.1 b0.2.1).bind λb1=>(if 0<=((b:Nat):Int)/\((b:Nat):Int)<(((((wr .i64 ((wr .i64 (d+((b:Nat):Int)))+1))).toNat-(d).toNat):Nat):Int) then (if ((d).toNat+(((b:Nat):Int)).toNat)<b0.2.2.2.length then ((z51.l2 a b (d).toNat (((wr .i64 ((wr .i64 (d+((b:Nat):Int)))+1))).toNat-(d).toNat) c ((wr .u64 ((wr .u64 ((wr .u64 (m.1-1))-1))-1)),b1.2,(b0.2.2.2.set ((d).toNat+(((b:Nat):Int)).toNat) b1.1))).bind λb2=>(if 0<=d/\d<(g.length:Int) then (if (d).toNat<g.length then (rec ((wr .i64 (d-1)),b2.2.2,(g.set (d).toNat b2.1))) else none) else none)) else none) else none)) else none) else none)))) else none) else none)) else (if 0<=(wr .i64 (((b:Nat):Int)-1))/\(wr .i64 (((b:Nat):Int)-1))<((b:Nat):Int) then (if (a+((wr .i64 (((b:Nat):Int)-1))).toNat)<c.length then ((z0.F a1.1 (c.getD (a+((wr .i64 (((b:Nat):Int)-1))).toNat) 0) 0).bind λb3=>(bif (decide (b3.2=0)) then none else ((z51.l0b3 (d).toNat (((wr .i64 ((wr .i64 (d+((b:Nat):Int)))+1))).toNat-(d).toNat) (wr .u64 ((wr .u64 ((wr .u64 (m.1-1))-1))-1)) a b ((b:Nat):Int) c ((0:Int),(0:Int),(0:Int),e)).bind λb4=>(if 0<=((b:Nat):Int)/\((b:Nat):Int)<(((((wr .i64 ((wr .i64 (d+((b:Nat):Int)))+1))).toNat-(d).toNat):Nat):Int) then (if ((d).toNat+(((b:Nat):Int)).toNat)<b4.2.2.2.length then ((z1.F (b4.2.2.2.getD ((d).toNat+(((b:Nat):Int)).toNat) 0) b4.1 b4.2.1).bind λb5=>(if 0<=((b:Nat):Int)/\((b:Nat):Int)<(((((wr .i64 ((wr .i64 (d+((b:Nat):Int)))+1))).toNat-(d).toNat):Nat):Int) then (if ((d).toNat+(((b:Nat):Int)).toNat)<b4.2.2.2.length then ((z51.l2 a b (d).toNat (((wr .i64 ((wr .i64 (d+((b:Nat):Int)))+1))).toNat-(d).toNat) c ((wr .u64 ((wr .u64 ((wr .u64 (m.1-1))-1))-1)),b5.2,(b4.2.2.2.set ((d).toNat+(((b:Nat):Int)).toNat) b5.1))).bind λb6=>(if 0<=d/\d<(g.length:Int) then (if (d).toNat<g.length then (rec ((wr .i64 (d-1)),b6.2.2,(g.set (d).toNat b6.1))) else none) else none)) else none) else none)) else none) else none)))) else none) else none)))) else none) else none) else ((z51.l0b3 (d).toNat (((wr .i64 ((wr .i64 (d+((b:Nat):Int)))+1))).toNat-(d).toNat) (wr .u64 ((wr .u64 (m.1-1))-1)) a b ((b:Nat):Int) c ((0:Int),(0:Int),(0:Int),e)).bind λb7=>(if 0<=((b:Nat):Int)/\((b:Nat):Int)<(((((wr .i64 ((wr .i64 (d+((b:Nat):Int)))+1))).toNat-(d).toNat):Nat):Int) then (if ((d).toNat+(((b:Nat):Int)).toNat)<b7.2.2.2.length then ((z1.F (b7.2.2.2.getD ((d).toNat+(((b:Nat):Int)).toNat) 0) b7.1 b7.2.1).bind λb8=>(if 0<=((b:Nat):Int)/\((b:Nat):Int)<(((((wr .i64 ((wr .i64 (d+((b:Nat):Int)))+1))).toNat-(d).toNat):Nat):Int) then (if ((d).toNat+(((b:Nat):Int)).toNat)<b7.2.2.2.length then ((z51.l2 a b (d).toNat (((wr .i64 ((wr .i64 (d+((b:Nat):Int)))+1))).toNat-(d).toNat) c ((wr .u64 ((wr .u64 (m.1-1))-1)),b8.2,(b7.2.2.2.set ((d).toNat+(((b:Nat):Int)).toNat) b8.1))).bind λb9=>(if 0<=d/\d<(g.length:Int) then (if (d).toNat<g.length then (rec ((wr .i64 (d-1)),b9.2.2,(g.set (d).toNat b9.1))) else none) else none)) else none) else none)) else none) else none)))) else none) else none)))) else none) else none) else ((z51.l0b3 (d).toNat (((wr .i64 ((wr .i64 (d+((b:Nat):Int)))+1))).toNat-(d).toNat) (wr .u64 (m.1-1)) a b ((b:Nat):Int) c ((0:Int),(0:Int),(0:Int),e)).bind λc0=>(if 0<=((b:Nat):Int)/\((b:Nat):Int)<(((((wr .i64 ((wr .i64 (d+((b:Nat):Int)))+1))).toNat-(d).toNat):Nat):Int) then (if ((d).toNat+(((b:Nat):Int)).toNat)<c0.2.2.2.length then ((z1.F (c0.2.2.2.getD ((d).toNat+(((b:Nat):Int)).toNat) 0) c0.1 c0.2.1).bind λc1=>(if 0<=((b:Nat):Int)/\((b:Nat):Int)<(((((wr .i64 ((wr .i64 (d+((b:Nat):Int)))+1))).toNat-(d).toNat):Nat):Int) then (if ((d).toNat+(((b:Nat):Int)).toNat)<c0.2.2.2.length then ((z51.l2 a b (d).toNat (((wr .i64 ((wr .i64 (d+((b:Nat):Int)))+1))).toNat-(d).toNat) c ((wr .u64 (m.1-1)),c1.2,(c0.2.2.2.set ((d).toNat+(((b:Nat):Int)).toNat) c1.1))).bind λc2=>(if 0<=d/\d<(g.length:Int) then (if (d).toNat<g.length then (rec ((wr .i64 (d-1)),c2.2.2,(g.set (d).toNat c2.1))) else none) else none)) else none) else none)) else none) else none)))) else none) else none)) else (if 0<=(wr .i64 (((b:Nat):Int)-1))/\(wr .i64 (((b:Nat):Int)-1))<((b:Nat):Int) then (if (a+((wr .i64 (((b:Nat):Int)-1))).toNat)<c.length then ((z0.F m.2 (c.getD (a+((wr .i64 (((b:Nat):Int)-1))).toNat) 0) 0).bind λc3=>(bif (decide (c3.2=0)) then (if 0<=(wr .i64 (((b:Nat):Int)-2))/\(wr .i64 (((b:Nat):Int)-2))<((b:Nat):Int) then (if (a+((wr .i64 (((b:Nat):Int)-2))).toNat)<c.length then ((z50.F (wr .u64 (m.1-1)) (c.getD (a+((wr .i64 (((b:Nat):Int)-2))).toNat) 0)).bind λc4=>(bif (decide (c4.1<c3.1)) then ((z51.l0b3 (d).toNat (((wr .i64 ((wr .i64 (d+((b:Nat):Int)))+1))).toNat-(d).toNat) (wr .u64 (m.1-1)) a b ((b:Nat):Int) c ((0:Int),(0:Int),(0:Int),e)).bind λc5=>(if 0<=((b:Nat):Int)/\((b:Nat):Int)<(((((wr .i64 ((wr .i64 (d+((b:Nat):Int)))+1))).toNat-(d).toNat):Nat):Int) then (if ((d).toNat+(((b:Nat):Int)).toNat)<c5.2.2.2.length then ((z1.F (c5.2.2.2.getD ((d).toNat+(((b:Nat):Int)).toNat) 0) c5.1 c5.2.1).bind λc6=>(if 0<=((b:Nat):Int)/\((b:Nat):Int)<(((((wr .i64 ((wr .i64 (d+((b:Nat):Int)))+1))).toNat-(d).toNat):Nat):Int) then (if ((d).toNat+(((b:Nat):Int)).toNat)<c5.2.2.2.length then ((z51.l2 a b (d).toNat (((wr .i64 ((wr .i64 (d+((b:Nat):Int)))+1))).toNat-(d).toNat) c ((wr .u64 (m.1-1)),c6.2,(c5.2.2.2.set ((d).toNat+(((b:Nat):Int)).toNat) c6.1))).bind λc7=>(if 0<=d/\d<(g.length:Int) then (if (d).toNat<g.length then (rec ((wr .i64 (d-1)),c7.2.2,(g.set (d).toNat c7.1))) else none) else none)) else none) else none)) else none) else none)) else (bif (decide (c4.1=c3.1)) then (bif (decide (c4.2<=(e.getD ((d).toNat+((wr .i64 (((b:Nat):Int)-2))).toNat) 0))) then ((z51.l0b3 (d).toNat (((wr .i64 ((wr .i64 (d+((b:Nat):Int)))+1))).toNat-(d).toNat) (wr .u64 (m.1-1)) a b ((b:Nat):Int) c ((0:Int),(0:Int),(0:Int),e)).bind λc8=>(if 0<=((b:Nat):Int)/\((b:Nat):Int)<(((((wr .i64 ((wr .i64 (d+((b:Nat):Int)))+1))).toNat-(d).toNat):Nat):Int) then (if ((d).toNat+(((b:Nat):Int)).toNat)<c8.2.2.2.length then ((z1.F (c8.2.2.2.getD ((d).toNat+(((b:Nat):Int)).toNat) 0) c8.1 c8.2.1).bind λc9=>(if 0<=((b:Nat):Int)/\((b:Nat):Int)<(((((wr .i64 ((wr .i64 (d+((b:Nat):Int)))+1))).toNat-(d).toNat):Nat):Int) then (if ((d).toNat+(((b:Nat):Int)).toNat)<c8.2.2.2.length then ((z51.l2 a b (d).toNat (((wr .i64 ((wr .i64 (d+((b:Nat):Int)))+1))).toNat-(d).toNat) c ((wr .u64 (m.1-1)),c9.2,(c8.2.2.2.set ((d).toNat+(((b:Nat):Int)).toNat) c9.1))).bind λd0=>(if 0<=d/\d<(g.length:Int) then (if (d).toNat<g.length then (rec ((wr .i64 (d-1)),d0.2.2,(g.set (d).toNat d0.1))) else none) else none)) else none) else none)) else none) else none)) else (if 0<=(wr .i64 (((b:Nat):Int)-1))/\(wr .i64 (((b:Nat):Int)-1))<((b:Nat):Int) then (if (a+((wr .i64 (((b:Nat):Int)-1))).toNat)<c.length then ((z0.F c3.1 (c.getD (a+((wr .i64 (((b:Nat):Int)-1))).toNat) 0) 0).bind λd1=>(bif (decide (d1.2=0)) then (if 0<=(wr .i64 (((b:Nat):Int)-2))/\(wr .i64 (((b:Nat):Int)-2))<((b:Nat):Int) then (if (a+((wr .i64 (((b:Nat):Int)-2))).toNat)<c.length then ((z50.F (wr .u64 ((wr .u64 (m.1-1))-1)) (c.getD (a+((wr .i64 (((b:Nat):Int)-2))).toNat) 0)).bind λd2=>(bif (decide (d2.1<d1.1)) then ((z51.l0b3 (d).toNat (((wr .i64 ((wr .i64 (d+((b:Nat):Int)))+1))).toNat-(d).toNat) (wr .u64 ((wr .u64 (m.1-1))-1)) a b ((b:Nat):Int) c ((0:Int),(0:Int),(0:Int),e)).bind λd3=>(if 0<=((b:Nat):Int)/\((b:Nat):Int)<(((((wr .i64 ((wr .i64 (d+((b:Nat):Int)))+1))).toNat-(d).toNat):Nat):Int) then (if ((d).toNat+(((b:Nat):Int)).toNat)<d3.2.2.2.length then ((z1.F (d3.2.2.2.getD ((d).toNat+(((b:Nat):Int)).toNat) 0) d3.1 d3.2.1).bind λd4=>(if 0<=((b:Nat):Int)/\((b:Nat):Int)<(((((wr .i64 ((wr .i64 (d+((b:Nat):Int)))+1))).toNat-(d).toNat):Nat):Int) then (if ((d).toNat+(((b:Nat):Int)).toNat)<d3.2.2.2.length then ((z51.l2 a b (d).toNat (((wr .i64 ((wr .i64 (d+((b:Nat):Int)))+1))).toNat-(d).toNat) c ((wr .u64 ((wr .u64 (m.1-1))-1)),d4.2,(d3.2.2.2.set ((d).toNat+(((b:Nat):Int)).toNat) d4.1))).bind λd5=>(if 0<=d/\d<(g.length:Int) then (if (d).toNat<g.length then (rec ((wr .i64 (d-1)),d5.2.2,(g.set (d).toNat d5.1))) else none) else none)) else none) else none)) else none) else none)) else (bif (decide (d2.1=d1.1)) then (bif (decide (d2.2<=(e.getD ((d).toNat+((wr .i64 (((b:Nat):Int)-2))).toNat) 0))) then ((z51.l0b3 (d).toNat (((wr .i64 ((wr .i64 (d+((b:Nat):Int)))+1))).toNat-(d).toNat) (wr .u64 ((wr .u64 (m.1-1))-1)) a b ((b:Nat):Int) c ((0:Int),(0:Int),(0:Int),e)).bind λd6=>(if 0<=((b:Nat):Int)/\((b:Nat):Int)<(((((wr .i64 ((wr .i64 (d+((b:Nat):Int)))+1))).toNat-(d).toNat):Nat):Int) then (if ((d).toNat+(((b:Nat):Int)).toNat)<d6.2.2.2.length then ((z1.F (d6.2.2.2.getD ((d).toNat+(((b:Nat):Int)).toNat) 0) d6.1 d6.2.1).bind λd7=>(if 0<=((b:Nat):Int)/\((b:Nat):Int)<(((((wr .i64 ((wr .i64 (d+((b:Nat):Int)))+1))).toNat-(d).toNat):Nat):Int) then (if ((d).toNat+(((b:Nat):Int)).toNat)<d6.2.2.2.length then ((z51.l2 a b (d).toNat (((wr .i64 ((wr .i64 (d+((b:Nat):Int)))+1))).toNat-(d).toNat) c ((wr .u64 ((wr .u64 (m.1-1))-1)),d7.2,(d6.2.2.2.set ((d).toNat+(((b:Nat):Int)).toNat) d7.1))).bind λd8=>(if 0<=d/\d<(g.length:Int) then (if (d).toNat<g.length then (rec ((wr .i64 (d-1)),d8.2.2,(g.set (d).toNat d8.1))) else none) else none)) else none) else none)) else none) else none)) else (if 0<=(wr .i64 (((b:Nat):Int)-1))/\(wr .i64 (((b:Nat):Int)-1))<((b:Nat):Int) then (if (a+((wr .i64 (((b:Nat):Int)-1))).toNat)<c.length then ((z0.F d1.1 (c.getD (a+((wr .i64 (((b:Nat):Int)-1))).toNat) 0) 0).bind λd9=>(bif (decide (d9.2=0)) then none else ((z51.l0b3 (d).toNat (((wr .i64 ((wr .i64 (d+((b:Nat):Int)))+1))).toNat-(d).toNat) (wr .u64 ((wr .u64 ((wr .u64 (m.1-1))-1))-1)) a b ((b:Nat):Int) c ((0:Int),(0:Int),(0:Int),e)).bind λe0=>(if 0<=((b:Nat):Int)/\((b:Nat):Int)<(((((wr .i64 ((wr .i64 (d+((b:Nat):Int)))+1))).toNat-(d).toNat):Nat):Int) then (if ((d).toNat+(((b:Nat):Int)).toNat)<e0.2.2.2.length then ((z1.F (e0.2.2.2.getD ((d).toNat+(((b:Nat):Int)).toNat) 0) e0.1 e0.2.1).bind λe1=>(if 0<=((b:Nat):Int)/\((b:Nat):Int)<(((((wr .i64 ((wr .i64 (d+((b:Nat):Int)))+1))).toNat-(d).toNat):Nat):Int) then (if ((d).toNat+(((b:Nat):Int)).toNat)<e0.2.2.2.length then ((z51.l2 a b (d).toNat (((wr .i64 ((wr .i64 (d+((b:Nat):Int)))+1))).toNat-(d).toNat) c ((wr .u64 ((wr .u64 ((wr .u64 (m.1-1))-1))-1)),e1.2,(e0.2.2.2.set ((d).toNat+(((b:Nat):Int)).toNat) e1.1))).bind λe2=>(if 0<=d/\d<(g.length:Int) then (if (d).toNat<g.length then (rec ((wr .i64 (d-1)),e2.2.2,(g.set (d).toNat e2.1))) else none) else none)) else none) else none)) else none) else none)))) else none) else none)) else (if 0<=(wr .i64 (((b:Nat):Int)-1))/\(wr .i64 (((b:Nat):Int)-1))<((b:Nat):Int) then (if (a+((wr .i64 (((b:Nat):Int)-1))).toNat)<c.length then ((z0.F d1.1 (c.getD (a+((wr .i64 (((b:Nat):Int)-1))).toNat) 0) 0).bind λe3=>(bif (decide (e3.2=0)) then none else ((z51.l0b3 (d).toNat (((wr .i64 ((wr .i64 (d+((b:Nat):Int)))+1))).toNat-(d).toNat) (wr .u64 ((wr .u64 ((wr .u64 (m.1-1))-1))-1)) a b ((b:Nat):Int) c ((0:Int),(0:Int),(0:Int),e)).bind λe4=>(if 0<=((b:Nat):Int)/\((b:Nat):Int)<(((((wr .i64 ((wr .i64 (d+((b:Nat):Int)))+1))).toNat-(d).toNat):Nat):Int) then (if ((d).toNat+(((b:Nat):Int)).toNat)<e4.2.2.2.length then ((z1.F (e4.2.2.2.getD ((d).toNat+(((b:Nat):Int)).toNat) 0) e4.1 e4.2.1).bind λe5=>(if 0<=((b:Nat):Int)/\((b:Nat):Int)<(((((wr .i64 ((wr .i64 (d+((b:Nat):Int)))+1))).toNat-(d).toNat):Nat):Int) then (if ((d).toNat+(((b:Nat):Int)).toNat)<e4.2.2.2.length then ((z51.l2 a b (d).toNat (((wr .i64 ((wr .i64 (d+((b:Nat):Int)))+1))).toNat-(d).toNat) c ((wr .u64 ((wr .u64 ((wr .u64 (m.1-1))-1))-1)),e5.2,(e4.2.2.2.set ((d).toNat+(((b:Nat):Int)).toNat) e5.1))).bind λe6=>(if 0<=d/\d<(g.length:Int) then (if (d).toNat<g.length then (rec ((wr .i64 (d-1)),e6.2.2,(g.set (d).toNat e6.1))) else none) else none)) else none) else none)) else none) else none)))) else none) else none)))) else none) else none) else ((z51.l0b3 (d).toNat (((wr .i64 ((wr .i64 (d+((b:Nat):Int)))+1))).toNat-(d).toNat) (wr .u64 ((wr .u64 (m.1-1))-1)) a b ((b:Nat):Int) c ((0:Int),(0:Int),(0:Int),e)).bind λe7=>(if 0<=((b:Nat):Int)/\((b:Nat):Int)<(((((wr .i64 ((wr .i64 (d+((b:Nat):Int)))+1))).toNat-(d).toNat):Nat):Int) then (if ((d).toNat+(((b:Nat):Int)).toNat)<e7.2.2.2.length then ((z1.F (e7.2.2.2.getD ((d).toNat+(((b:Nat):Int)).toNat) 0) e7.1 e7.2.1).bind λe8=>(if 0<=((b:Nat):Int)/\((b:Nat):Int)<(((((wr .i64 ((wr .i64 (d+((b:Nat):Int)))+1))).toNat-(d).toNat):Nat):Int) then (if ((d).toNat+(((b:Nat):Int)).toNat)<e7.2.2.2.length then ((z51.l2 a b (d).toNat (((wr .i64 ((wr .i64 (d+((b:Nat):Int)))+1))).toNat-(d).toNat) c ((wr .u64 ((wr .u64 (m.1-1))-1)),e8.2,(e7.2.2.2.set ((d).toNat+(((b:Nat):Int)).toNat) e8.1))).bind λe9=>(if 0<=d/\d<(g.length:Int) then (if (d).toNat<g.length then (rec ((wr .i64 (d-1)),e9.2.2,(g.set (d).toNat e9.1))) else none) else none)) else none) else none)) else none) else none)))) else none) else none)) else (if 0<=(wr .i64 (((b:Nat):Int)-1))/\(wr .i64 (((b:Nat):Int)-1))<((b:Nat):Int) then (if (a+((wr .i64 (((b:Nat):Int)-1))).toNat)<c.length then ((z0.F c3.1 (c.getD (a+((wr .i64 (((b:Nat):Int)-1))).toNat) 0) 0).bind λg0=>(bif (decide (g0.2=0)) then (if 0<=(wr .i64 (((b:Nat):Int)-2))/\(wr .i64 (((b:Nat):Int)-2))<((b:Nat):Int) then (if (a+((wr .i64 (((b:Nat):Int)-2))).toNat)<c.length then ((z50.F (wr .u64 ((wr .u64 (m.1-1))-1)) (c.getD (a+((wr .i64 (((b:Nat):Int)-2))).toNat) 0)).bind λg1=>(bif (decide (g1.1<g0.1)) then ((z51.l0b3 (d).toNat (((wr .i64 ((wr .i64 (d+((b:Nat):Int)))+1))).toNat-(d).toNat) (wr .u64 ((wr .u64 (m.1-1))-1)) a b ((b:Nat):Int) c ((0:Int),(0:Int),(0:Int),e)).bind λg2=>(if 0<=((b:Nat):Int)/\((b:Nat):Int)<(((((wr .i64 ((wr .i64 (d+((b:Nat):Int)))+1))).toNat-(d).toNat):Nat):Int) then (if ((d).toNat+(((b:Nat):Int)).toNat)<g2.2.2.2.length then ((z1.F (g2.2.2.2.getD ((d).toNat+(((b:Nat):Int)).toNat) 0) g2.1 g2.2.1).bind λg3=>(if 0<=((b:Nat):Int)/\((b:Nat):Int)<(((((wr .i64 ((wr .i64 (d+((b:Nat):Int)))+1))).toNat-(d).toNat):Nat):Int) then (if ((d).toNat+(((b:Nat):Int)).toNat)<g2.2.2.2.length then ((z51.l2 a b (d).toNat (((wr .i64 ((wr .i64 (d+((b:Nat):Int)))+1))).toNat-(d).toNat) c ((wr .u64 ((wr .u64 (m.1-1))-1)),g3.2,(g2.2.2.2.set ((d).toNat+(((b:Nat):Int)).toNat) g3.1))).bind λg4=>(if 0<=d/\d<(g.length:Int) then (if (d).toNat<g.length then (rec ((wr .i64 (d-1)),g4.2.2,(g.set (d).toNat g4.1))) else none) else none)) else none) else none)) else none) else none)) else (bif (decide (g1.1=g0.1)) then (bif (decide (g1.2<=(e.getD ((d).toNat+((wr .i64 (((b:Nat):Int)-2))).toNat) 0))) then ((z51.l0b3 (d).toNat (((wr .i64 ((wr .i64 (d+((b:Nat):Int)))+1))).toNat-(d).toNat) (wr .u64 ((wr .u64 (m.1-1))-1)) a b ((b:Nat):Int) c ((0:Int),(0:Int),(0:Int),e)).bind λg5=>(if 0<=((b:Nat):Int)/\((b:Nat):Int)<(((((wr .i64 ((wr .i64 (d+((b:Nat):Int)))+1))).toNat-(d).toNat):Nat):Int) then (if ((d).toNat+(((b:Nat):Int)).toNat)<g5.2.2.2.length then ((z1.F (g5.2.2.2.getD ((d).toNat+(((b:Nat):Int)).toNat) 0) g5.1 g5.2.1).bind λg6=>(if 0<=((b:Nat):Int)/\((b:Nat):Int)<(((((wr .i64 ((wr .i64 (d+((b:Nat):Int)))+1))).toNat-(d).toNat):Nat):Int) then (if ((d).toNat+(((b:Nat):Int)).toNat)<g5.2.2.2.length then ((z51.l2 a b (d).toNat (((wr .i64 ((wr .i64 (d+((b:Nat):Int)))+1))).toNat-(d).toNat) c ((wr .u64 ((wr .u64 (m.1-1))-1)),g6.2,(g5.2.2.2.set ((d).toNat+(((b:Nat):Int)).toNat) g6.1))).bind λg7=>(if 0<=d/\d<(g.length:Int) then (if (d).toNat<g.length then (rec ((wr .i64 (d-1)),g7.2.2,(g.set (d).toNat g7.1))) else none) else none)) else none) else none)) else none) else none)) else (if 0<=(wr .i64 (((b:Nat):Int)-1))/\(wr .i64 (((b:Nat):Int)-1))<((b:Nat):Int) then (if (a+((wr .i64 (((b:Nat):Int)-1))).toNat)<c.length then ((z0.F g0.1 (c.getD (a+((wr .i64 (((b:Nat):Int)-1))).toNat) 0) 0).bind λg8=>(bif (decide (g8.2=0)) then none else ((z51.l0b3 (d).toNat (((wr .i64 ((wr .i64 (d+((b:Nat):Int)))+1))).toNat-(d).toNat) (wr .u64 ((wr .u64 ((wr .u64 (m.1-1))-1))-1)) a b ((b:Nat):Int) c ((0:Int),(0:Int),(0:Int),e)).bind λg9=>(if 0<=((b:Nat):Int)/\((b:Nat):Int)<(((((wr .i64 ((wr .i64 (d+((b:Nat):Int)))+1))).toNat-(d).toNat):Nat):Int) then (if ((d).toNat+(((b:Nat):Int)).toNat)<g9.2.2.2.length then ((z1.F (g9.2.2.2.getD ((d).toNat+(((b:Nat):Int)).toNat) 0) g9.1 g9.2.1).bind λh0=>(if 0<=((b:Nat):Int)/\((b:Nat):Int)<(((((wr .i64 ((wr .i64 (d+((b:Nat):Int)))+1))).toNat-(d).toNat):Nat):Int) then (if ((d).toNat+(((b:Nat):Int)).toNat)<g9.2.2.2.length then ((z51.l2 a b (d).toNat (((wr .i64 ((wr .i64 (d+((b:Nat):Int)))+1))).toNat-(d).toNat) c ((wr .u64 ((wr .u64 ((wr .u64 (m.1-1))-1))-1)),h0.2,(g9.2.2.2.set ((d).toNat+(((b:Nat):Int)).toNat) h0.1))).bind λh1=>(if 0<=d/\d<(g.length:Int) then (if (d).toNat<g.length then (rec ((wr .i64 (d-1)),h1.2.2,(g.set (d).toNat h1.1))) else none) else none)) else none) else none)) else none) else none)))) else none) else none)) else (if 0<=(wr .i64 (((b:Nat):Int)-1))/\(wr .i64 (((b:Nat):Int)-1))<((b:Nat):Int) then (if (a+((wr .i64 (((b:Nat):Int)-1))).toNat)<c.length then ((z0.F g0.1 (c.getD (a+((wr .i64 (((b:Nat):Int)-1))).toNat) 0) 0).bind λh2=>(bif (decide (h2.2=0)) then none else ((z51.l0b3 (d).toNat (((wr .i64 ((wr .i64 (d+((b:Nat):Int)))+1))).toNat-(d).toNat) (wr .u64 ((wr .u64 ((wr .u64 (m.1-1))-1))-1)) a b ((b:Nat):Int) c ((0:Int),(0:Int),(0:Int),e)).bind λh3=>(if 0<=((b:Nat):Int)/\((b:Nat):Int)<(((((wr .i64 ((wr .i64 (d+((b:Nat):Int)))+1))).toNat-(d).toNat):Nat):Int) then (if ((d).toNat+(((b:Nat):Int)).toNat)<h3.2.2.2.length then ((z1.F (h3.2.2.2.getD ((d).toNat+(((b:Nat):Int)).toNat) 0) h3.1 h3.2.1).bind λh4=>(if 0<=((b:Nat):Int)/\((b:Nat):Int)<(((((wr .i64 ((wr .i64 (d+((b:Nat):Int)))+1))).toNat-(d).toNat):Nat):Int) then (if ((d).toNat+(((b:Nat):Int)).toNat)<h3.2.2.2.length then ((z51.l2 a b (d).toNat (((wr .i64 ((wr .i64 (d+((b:Nat):Int)))+1))).toNat-(d).toNat) c ((wr .u64 ((wr .u64 ((wr .u64 (m.1-1))-1))-1)),h4.2,(h3.2.2.2.set ((d).toNat+(((b:Nat):Int)).toNat) h4.1))).bind λh5=>(if 0<=d/\d<(g.length:Int) then (if (d).toNat<g.length then (rec ((wr .i64 (d-1)),h5.2.2,(g.set (d).toNat h5.1))) else none) else none)) else none) else none)) else none) else none)))) else none) else none)))) else none) else none) else ((z51.l0b3 (d).toNat (((wr .i64 ((wr .i64 (d+((b:Nat):Int)))+1))).toNat-(d).toNat) (wr .u64 ((wr .u64 (m.1-1))-1)) a b ((b:Nat):Int) c ((0:Int),(0:Int),(0:Int),e)).bind λh6=>(if 0<=((b:Nat):Int)/\((b:Nat):Int)<(((((wr .i64 ((wr .i64 (d+((b:Nat):Int)))+1))).toNat-(d).toNat):Nat):Int) then (if ((d).toNat+(((b:Nat):Int)).toNat)<h6.2.2.2.length then ((z1.F (h6.2.2.2.getD ((d).toNat+(((b:Nat):Int)).toNat) 0) h6.1 h6.2.1).bind λh7=>(if 0<=((b:Nat):Int)/\((b:Nat):Int)<(((((wr .i64 ((wr .i64 (d+((b:Nat):Int)))+1))).toNat-(d).toNat):Nat):Int) then (if ((d).toNat+(((b:Nat):Int)).toNat)<h6.2.2.2.length then ((z51.l2 a b (d).toNat (((wr .i64 ((wr .i64 (d+((b:Nat):Int)))+1))).toNat-(d).toNat) c ((wr .u64 ((wr .u64 (m.1-1))-1)),h7.2,(h6.2.2.2.set ((d).toNat+(((b:Nat):Int)).toNat) h7.1))).bind λh8=>(if 0<=d/\d<(g.length:Int) then (if (d).toNat<g.length then (rec ((wr .i64 (d-1)),h8.2.2,(g.set (d).toNat h8.1))) else none) else none)) else none) else none)) else none) else none)))) else none) else none)))) else none) else none) else ((z51.l0b3 (d).toNat (((wr .i64 ((wr .i64 (d+((b:Nat):Int)))+1))).toNat-(d).toNat) (wr .u64 (m.1-1)) a b ((b:Nat):Int) c ((0:Int),(0:Int),(0:Int),e)).bind λh9=>(if 0<=((b:Nat):Int)/\((b:Nat):Int)<(((((wr .i64 ((wr .i64 (d+((b:Nat):Int)))+1))).toNat-(d).toNat):Nat):Int) then (if ((d).toNat+(((b:Nat):Int)).toNat)<h9.2.2.2.length then ((z1.F (h9.2.2.2.getD ((d).toNat+(((b:Nat):Int)).toNat) 0) h9.1 h9.2.1).bind λj0=>(if 0<=((b:Nat):Int)/\((b:Nat):Int)<(((((wr .i64 ((wr .i64 (d+((b:Nat):Int)))+1))).toNat-(d).toNat):Nat):Int) then (if ((d).toNat+(((b:Nat):Int)).toNat)<h9.2.2.2.length then ((z51.l2 a b (d).toNat (((wr .i64 ((wr .i64 (d+((b:Nat):Int)))+1))).toNat-(d).toNat) c ((wr .u64 (m.1-1)),j0.2,(h9.2.2.2.set ((d).toNat+(((b:Nat):Int)).toNat) j0.1))).bind λj1=>(if 0<=d/\d<(g.length:Int) then (if (d).toNat<g.length then (rec ((wr .i64 (d-1)),j1.2.2,(g.set (d).toNat j1.1))) else none) else none)) else none) else none)) else none) else none)))) else none) else none)))) else none) else none)) else none) else none)) else none) else none) else none) else none) else none) else none) else none) else none) else none) else (done (d,e,g)))
def z51.l0aa (a b:Nat) (c:J0) (x:(Int×J0×J0)):Option ((Int×J0×J0)):=lfp (λrec x=>z51.l0aaP a b c rec some x) x
def z51.F (a0 a1:J0):Option (J0×J0):=
 (if 0<=(wr .i64 ((((a1).length:Nat):Int)-1))/\(wr .i64 ((((a1).length:Nat):Int)-1))<(a1.length:Int) then ((z45.F (a1.getD ((wr .i64 ((((a1).length:Nat):Int)-1))).toNat 0)).bind λr1=>(if 0<=(wr .i64 ((((a0).length:Nat):Int)+1))/\(wr .i64 ((((a0).length:Nat):Int)+1))*8<=140737488355328 then ((z51.l0 (wr .u64 r1) a0 (((a0).length:Nat):Int) ((0:Int),(List.replicate ((wr .i64 ((((a0).length:Nat):Int)+1))).toNat (0:Int)))).bind λo2=>(if 0<=(wr .i64 ((((a1).length:Nat):Int)+1))/\(wr .i64 ((((a1).length:Nat):Int)+1))*8<=140737488355328 then ((z51.l0a (wr .u64 r1) a1 (((a1).length:Nat):Int) ((0:Int),(List.replicate ((wr .i64 ((((a1).length:Nat):Int)+1))).toNat (0:Int)))).bind λo3=>(if 0<=(((a1).length:Nat):Int)/\(((a1).length:Nat):Int)<=((o3.2).length:Int) then (if 0<=(wr .i64 ((((o2.2).length:Nat):Int)-((((((a1).length:Nat):Int)).toNat:Nat):Int)))/\(wr .i64 ((((o2.2).length:Nat):Int)-((((((a1).length:Nat):Int)).toNat:Nat):Int)))*8<=140737488355328 then ((z51.l0aa 0 ((((a1).length:Nat):Int)).toNat o3.2 ((wr .i64 (((((List.replicate ((wr .i64 ((((o2.2).length:Nat):Int)-((((((a1).length:Nat):Int)).toNat:Nat):Int)))).toNat (0:Int))).length:Nat):Int)-1)),o2.2,(List.replicate ((wr .i64 ((((o2.2).length:Nat):Int)-((((((a1).length:Nat):Int)).toNat:Nat):Int)))).toNat (0:Int)))).bind λo4=>((z33.F o4.2.1).bind λr5=>((z49.F r5 (wr .i64 (wr .u64 r1))).bind λr6=>((z43.F r6.1).bind λr7=>(some (o4.2.2,r7)))))) else none) else none)) else none)) else none)) else none)
def z51.enc (r:J0×J0):V:=(.tup [(.ints false .u64 r.1),(.ints false .u64 r.2)])
def z51.pack:List V->Option Pack
 |[(.ints _ .u64 a0),(.ints _ .u64 a1)]=>some ⟨J0×J0,z51.F a0 a1,z51.enc⟩
 |_=>none
def z52.F (a0 a1:J0):Option (J0×J0×Int):=
 ((z29.F a1).bind λr1=>(bif r1 then (some ([],[],(8:Int))) else ((z41.F a0 a1).bind λr2=>(bif (decide (r2<0)) then (some ([],a0,(0:Int))) else ((z43.F a0).bind λr3=>((z43.F a1).bind λr4=>(bif (decide ((((r4).length:Nat):Int)=1)) then (if (0:Int)<=(0:Int)/\(0:Int)<(r4.length:Int) then ((z47.F r3 (r4.getD 0 0)).bind λr5=>((z33.F r5.1).bind λr6=>((z33.F [r5.2]).bind λr7=>(some (r6,r7,(0:Int)))))) else none) else ((z51.F r3 r4).bind λr8=>((z33.F r8.1).bind λr9=>((z33.F r8.2).bind λr10=>(some (r9,r10,(0:Int)))))))))))))
def z52.enc (r:J0×J0×Int):V:=(.tup [(.agg [(.ints false .u64 r.1)]),(.agg [(.ints false .u64 r.2.1)]),(.int .i64 r.2.2)])
def z52.pack:List V->Option Pack
 |[(.agg [(.ints _ .u64 a0)]),(.agg [(.ints _ .u64 a1)])]=>some ⟨J0×J0×Int,z52.F a0 a1,z52.enc⟩
 |_=>none
def z53.l0P {R:Type} (rec done:(J0×J0)->Option R):(J0×J0)->Option R:=λx=>match x with
 |(a,b)=>((z29.F b).bind λc=>(bif (!c) then ((z52.F a b).bind λd=>(rec (b,d.2.1))) else (done (a,b))))
def z53.l0 (x:(J0×J0)):Option ((J0×J0)):=lfp (λrec x=>z53.l0P rec some x) x
def z53.F (a0 a1:J0):Option (J0):=
 ((z53.l0 (a0,a1)).bind λo1=>(some o1.1))
def z53.pack:List V->Option Pack
 |[(.agg [(.ints _ .u64 a0)]),(.agg [(.ints _ .u64 a1)])]=>some ⟨J0,z53.F a0 a1,z32.enc⟩
 |_=>none
def z54.F (a0:J0) (a1:Bool) (a2:J0):Option (J0×Bool×J0):=
 ((z37.F a0 a1).bind λr1=>((z53.F r1 a2).bind λr2=>((z37.F a0 a1).bind λr3=>((z52.F r3 r2).bind λr4=>((z52.F a2 r2).bind λr5=>((z33.F [(1:Int)]).bind λr6=>((z42.F r5.1 r6).bind λr7=>((z30.F a0 a1).bind λr8=>((z31.F r4.1 (decide (r8<0))).bind λr9=>(some (r9.1,r9.2,r7.1)))))))))))
def z54.pack:List V->Option Pack
 |[(.agg [(.ints _ .u64 a0),(.bool a1)]),(.agg [(.ints _ .u64 a2)])]=>some ⟨J0×Bool×J0,z54.F a0 a1 a2,z35.enc⟩
 |_=>none
def z55.j4 (a2:J0) (a3:Bool) (j3:J0) (j4:Bool):Option (J0×Bool×J0×Int):=
 ((z37.F a2 a3).bind λr5=>((z54.F j3 j4 r5).bind λr6=>(some (r6.1,r6.2.1,r6.2.2,(0:Int)))))
def z55.F (a0:J0) (a1:Bool) (a2:J0) (a3:Bool):Option (J0×Bool×J0×Int):=
 ((z30.F a2 a3).bind λr1=>(bif (decide (r1=0)) then (some ([],false,[],(8:Int))) else (bif (decide (r1=(-1:Int))) then ((z36.F a0 a1).bind λr2=>(z55.j4 a2 a3 r2.1 r2.2)) else (z55.j4 a2 a3 a0 a1))))
def z55.enc (r:J0×Bool×J0×Int):V:=(.tup [(.agg [(.ints false .u64 r.1),(.bool r.2.1),(.ints false .u64 r.2.2.1)]),(.int .i64 r.2.2.2)])
def z55.pack:List V->Option Pack
 |[(.agg [(.ints _ .u64 a0),(.bool a1)]),(.agg [(.ints _ .u64 a2),(.bool a3)])]=>some ⟨J0×Bool×J0×Int,z55.F a0 a1 a2 a3,z55.enc⟩
 |_=>none
def z56.l0aP (a:Int) (b c:Nat) (d:J0) (e:Int) {R:Type} (rec done:(Int×Int×J0)->Option R):(Int×Int×J0)->Option R:=λx=>match x with
 |(g,h,j)=>(bif (decide (h<e)) then (if 0<=h/\h<(d.length:Int) then ((z50.F a (d.getD (h).toNat 0)).bind λk=>((z0.F k.2 g 0).bind λm=>(if 0<=h/\h<((c:Nat):Int) then (if (b+(h).toNat)<j.length then ((z0.F (j.getD (b+(h).toNat) 0) m.1 0).bind λn=>(if 0<=h/\h<((c:Nat):Int) then (if (b+(h).toNat)<j.length then (rec ((wr .u64 ((wr .u64 (k.1+m.2))+n.2)),(wr .i64 (h+1)),(j.set (b+(h).toNat) n.1))) else none) else none)) else none) else none))) else none) else (done (g,h,j)))
def z56.l0a (a:Int) (b c:Nat) (d:J0) (e:Int) (x:(Int×Int×J0)):Option ((Int×Int×J0)):=lfp (λrec x=>z56.l0aP a b c d e rec some x) x
def z56.l0P (a:J0) (b:Int) (c:J0) {R:Type} (rec done:(Int×J0)->Option R):(Int×J0)->Option R:=λx=>match x with
 |(d,e)=>(bif (decide (d<b)) then (if 0<=d/\d<(a.length:Int) then (if 0<=d/\d<=((e).length:Int) then ((z56.l0a (a.getD (d).toNat 0) (d).toNat ((e).length-(d).toNat) c (((c).length:Nat):Int) ((0:Int),(0:Int),e)).bind λg=>(if 0<=(((c).length:Nat):Int)/\(((c).length:Nat):Int)<((((e).length-(d).toNat):Nat):Int) then (if ((d).toNat+((((c).length:Nat):Int)).toNat)<g.2.2.length then (if 0<=(((c).length:Nat):Int)/\(((c).length:Nat):Int)<((((e).length-(d).toNat):Nat):Int) then (if ((d).toNat+((((c).length:Nat):Int)).toNat)<g.2.2.length then (rec ((wr .i64 (d+1)),(g.2.2.set ((d).toNat+((((c).length:Nat):Int)).toNat) (wr .u64 ((g.2.2.getD ((d).toNat+((((c).length:Nat):Int)).toNat) 0)+g.1))))) else none) else none) else none) else none)) else none) else none) else (done (d,e)))
def z56.l0 (a:J0) (b:Int) (c:J0) (x:(Int×J0)):Option ((Int×J0)):=lfp (λrec x=>z56.l0P a b c rec some x) x
def z56.F (a0 a1:J0):Option (J0):=
 (if 0<=(wr .i64 ((wr .i64 ((((a0).length:Nat):Int)+(((a1).length:Nat):Int)))+1))/\(wr .i64 ((wr .i64 ((((a0).length:Nat):Int)+(((a1).length:Nat):Int)))+1))*8<=140737488355328 then ((z56.l0 a1 (((a1).length:Nat):Int) a0 ((0:Int),(List.replicate ((wr .i64 ((wr .i64 ((((a0).length:Nat):Int)+(((a1).length:Nat):Int)))+1))).toNat (0:Int)))).bind λo1=>((z32.F o1.2).bind λr2=>(some r2))) else none)
def z56.pack:List V->Option Pack
 |[(.agg [(.ints _ .u64 a0)]),(.agg [(.ints _ .u64 a1)])]=>some ⟨J0,z56.F a0 a1,z32.enc⟩
 |_=>none
def z57.F (a0:J0) (a1:Bool) (a2:J0) (a3:Bool):Option (J0×Bool):=
 ((z56.F a0 a2).bind λr1=>((z31.F r1 (!decide (a1=a3))).bind λr2=>(some (r2.1,r2.2))))
def z57.pack:List V->Option Pack
 |[(.agg [(.ints _ .u64 a0),(.bool a1)]),(.agg [(.ints _ .u64 a2),(.bool a3)])]=>some ⟨J0×Bool,z57.F a0 a1 a2 a3,z31.enc⟩
 |_=>none
def z58.l0P (a:Int) (b c:J0) {R:Type} (rec done:(Int×Int×J0)->Option R):(Int×Int×J0)->Option R:=λx=>match x with
 |(d,e,g)=>(bif (decide (e<a)) then ((z38.F b e).bind λh=>((z38.F c e).bind λj=>((z0.F h j d).bind λk=>(if 0<=e/\e<(g.length:Int) then (if (e).toNat<g.length then (rec (k.2,(wr .i64 (e+1)),(g.set (e).toNat k.1))) else none) else none)))) else (done (d,e,g)))
def z58.l0 (a:Int) (b c:J0) (x:(Int×Int×J0)):Option ((Int×Int×J0)):=lfp (λrec x=>z58.l0P a b c rec some x) x
def z58.F (a0 a1:J0):Option (J0):=
 (if 0<=(wr .i64 ((if (((a1).length:Nat):Int)>(((a0).length:Nat):Int) then (((a1).length:Nat):Int) else (((a0).length:Nat):Int))+1))/\(wr .i64 ((if (((a1).length:Nat):Int)>(((a0).length:Nat):Int) then (((a1).length:Nat):Int) else (((a0).length:Nat):Int))+1))*8<=140737488355328 then ((z58.l0 ((((List.replicate ((wr .i64 ((if (((a1).length:Nat):Int)>(((a0).length:Nat):Int) then (((a1).length:Nat):Int) else (((a0).length:Nat):Int))+1))).toNat (0:Int))).length:Nat):Int) a0 a1 ((0:Int),(0:Int),(List.replicate ((wr .i64 ((if (((a1).length:Nat):Int)>(((a0).length:Nat):Int) then (((a1).length:Nat):Int) else (((a0).length:Nat):Int))+1))).toNat (0:Int)))).bind λo1=>((z32.F o1.2.2).bind λr2=>(some r2))) else none)
def z58.pack:List V->Option Pack
 |[(.agg [(.ints _ .u64 a0)]),(.agg [(.ints _ .u64 a1)])]=>some ⟨J0,z58.F a0 a1,z32.enc⟩
 |_=>none
def z59.F (a0:J0) (a1:Bool) (a2:J0):Option (J0):=
 ((z33.F [(1:Int)]).bind λr1=>((z58.F a2 r1).bind λr2=>(some r2)))
def z59.pack:List V->Option Pack
 |[(.agg [(.ints _ .u64 a0),(.bool a1),(.ints _ .u64 a2)])]=>some ⟨J0,z59.F a0 a1 a2,z32.enc⟩
 |_=>none
def z60.F (a0:J0) (a1:Bool) (a2:J0):Option (J0×Bool):=
 ((z59.F a0 a1 a2).bind λr1=>((z31.F r1 false).bind λr2=>(some (r2.1,r2.2))))
def z60.pack:List V->Option Pack
 |[(.agg [(.ints _ .u64 a0),(.bool a1),(.ints _ .u64 a2)])]=>some ⟨J0×Bool,z60.F a0 a1 a2,z31.enc⟩
 |_=>none
def z61.F (a0:J0) (a1:Bool) (a2 a3:J0) (a4:Bool) (a5:J0):Option (J0×Bool×J0×Int):=
 ((z60.F a3 a4 a5).bind λr1=>((z57.F a0 a1 r1.1 r1.2).bind λr2=>((z60.F a0 a1 a2).bind λr3=>((z57.F r3.1 r3.2 a3 a4).bind λr4=>((z55.F r2.1 r2.2 r4.1 r4.2).bind λr5=>(some (r5.1,r5.2.1,r5.2.2.1,r5.2.2.2)))))))
def z61.pack:List V->Option Pack
 |[(.agg [(.ints _ .u64 a0),(.bool a1),(.ints _ .u64 a2)]),(.agg [(.ints _ .u64 a3),(.bool a4),(.ints _ .u64 a5)])]=>some ⟨J0×Bool×J0×Int,z61.F a0 a1 a2 a3 a4 a5,z55.enc⟩
 |_=>none
def z62.F (a0 a1:J1):Option (Bool):=
 (bif (decide ((a0.length:Int)>=(a1.length:Int))) then (if 0<=(a1.length:Int)/\(a1.length:Int)<=((a0).length:Int) then (some (decide ((a0.take ((a1.length:Int)).toNat)=a1))) else none) else (some false))
def z62.pack:List V->Option Pack
 |[(.str a0),(.str a1)]=>some ⟨Bool,z62.F a0 a1,z12.enc⟩
 |_=>none
def z63.F (a0 a1:J1):Option (J1×Bool):=
 ((z62.F a0 a1).bind λr1=>(bif (!r1) then (some (a0,false)) else (if 0<=(a1.length:Int)/\(a1.length:Int)<=((a0).length:Int) then (some ((a0.drop ((a1.length:Int)).toNat),true)) else none)))
def z63.enc (r:J1×Bool):V:=(.tup [(.str r.1),(.bool r.2)])
def z63.pack:List V->Option Pack
 |[(.str a0),(.str a1)]=>some ⟨J1×Bool,z63.F a0 a1,z63.enc⟩
 |_=>none
def z64.F (a0 a1:J1):Option (J1×Bool):=
 ((z63.F a0 a1).bind λr1=>(some (r1.1,r1.2)))
def z64.pack:List V->Option Pack
 |[(.str a0),(.str a1)]=>some ⟨J1×Bool,z64.F a0 a1,z63.enc⟩
 |_=>none
def z65.l2P (a:J1) {R:Type} (rec done:(Int×Nat)->Option R):(Int×Nat)->Option R:=λx=>match x with
 |(b,c)=>(if c<a.length then (rec ((wr .u64 ((wr .u64 ((10:Int)*b))+(wr .u64 (wr .i32 (((Utf8.decode ⟨a.toArray⟩ c).1:Int)-48))))),(c+(Utf8.decode ⟨a.toArray⟩ c).2))) else (done (b,c)))
def z65.l2 (a:J1) (x:(Int×Nat)):Option ((Int×Nat)):=lfp (λrec x=>z65.l2P a rec some x) x
def z65.l2aP (a:J1) {R:Type} (rec done:(Int×Nat)->Option R):(Int×Nat)->Option R:=λx=>match x with
 |(b,c)=>(if c<a.length then (rec ((wr .u64 ((wr .u64 ((10:Int)*b))+(wr .u64 (wr .i32 (((Utf8.decode ⟨a.toArray⟩ c).1:Int)-48))))),(c+(Utf8.decode ⟨a.toArray⟩ c).2))) else (done (b,c)))
def z65.l2a (a:J1) (x:(Int×Nat)):Option ((Int×Nat)):=lfp (λrec x=>z65.l2aP a rec some x) x
def z65.j1011a {R:Type} (rec done:(J1×Bool×J0)->Option R) (a:Int) (b:J1) (c:J0):Option R:=
 (if 0<=a/\a<=((b).length:Int) then ((z65.l2a (b.take (a).toNat) ((0:Int),0)).bind λd=>((z33.F [(1000000000000000000:Int)]).bind λe=>((z56.F c e).bind λg=>((z33.F [d.1]).bind λh=>((z58.F g h).bind λj=>(if 0<=a/\a<=((b).length:Int) then (rec ((b.drop (a).toNat),false,j)) else none)))))) else none)
def z65.l0P {R:Type} (rec done:(J1×Bool×J0)->Option R):(J1×Bool×J0)->Option R:=λx=>match x with
 |(a,b,c)=>(bif (!decide (a=([]:J1))) then (bif (!b) then (if (0:Int)<=(18:Int)/\(18:Int)<=((a).length:Int) then ((z65.l2 (a.take 18) ((0:Int),0)).bind λd=>((z33.F [(1000000000000000000:Int)]).bind λe=>((z56.F c e).bind λg=>((z33.F [d.1]).bind λh=>((z58.F g h).bind λj=>(if (0:Int)<=(18:Int)/\(18:Int)<=((a).length:Int) then (rec ((a.drop 18),false,j)) else none)))))) else none) else (bif (decide ((Int.tmod (a.length:Int) 18)=0)) then (z65.j1011a rec done 18 a c) else (z65.j1011a rec done (Int.tmod (a.length:Int) 18) a c))) else (done (a,b,c)))
def z65.l0 (x:(J1×Bool×J0)):Option ((J1×Bool×J0)):=lfp (λrec x=>z65.l0P rec some x) x
def z65.F (a0:J1):Option (J0×Int):=
 (bif (decide ((a0.length:Int)>4096)) then (some ([],(7:Int))) else (bif (decide (a0=([]:J1))) then (some ([],(5:Int))) else ((z4.F a0 ([48,49,50,51,52,53,54,55,56,57]:J1)).bind λr1=>(bif (!decide (r1=([]:J1))) then (some ([],(5:Int))) else (bif (decide ((a0.length:Int)>1)) then (if (0:Int)<=(0:Int)/\(0:Int)<(a0.length:Int) then (bif (decide (((a0.getD 0 0).toNat:Int)=48)) then (some ([],(5:Int))) else ((z65.l0 (a0,true,[])).bind λo5=>(some (o5.2.2,(0:Int))))) else none) else ((z65.l0 (a0,true,[])).bind λo6=>(some (o6.2.2,(0:Int)))))))))
def z65.pack:List V->Option Pack
 |[(.str a0)]=>some ⟨J0×Int,z65.F a0,z49.enc⟩
 |_=>none
def z66.F (a0:J1):Option (Bool):=
 (bif (!decide (a0=([]:J1))) then ((z4.F a0 ([48,49,50,51,52,53,54,55,56,57]:J1)).bind λr1=>(some (decide (r1=([]:J1))))) else (some false))
def z66.pack:List V->Option Pack
 |[(.str a0)]=>some ⟨Bool,z66.F a0,z12.enc⟩
 |_=>none
def z67.j8 (j8:J1) (r1:J1×Bool):Option (J0×Bool×Int×Int):=
 ((z65.F j8).bind λr9=>((z31.F r9.1 r1.2).bind λr10=>(some (r10.1,r10.2,((r1.1.drop 1).length:Int),(0:Int)))))
def z67.j6 (j6:Bool) (r1:J1×Bool):Option (J0×Bool×Int×Int):=
 (bif j6 then (some ([],false,(0:Int),(5:Int))) else (bif (decide (((r1.1.drop 1).length:Int)>64)) then (some ([],false,(0:Int),(10:Int))) else (if (r1.1.take 0).length+(r1.1.drop 1).length<=9223372036854775807 then ((z5.F ((r1.1.take 0)++(r1.1.drop 1)) ([48]:J1)).bind λr7=>(bif (decide (r7=([]:J1))) then (z67.j8 ([48]:J1) r1) else (z67.j8 r7 r1))) else none)))
def z67.j4 (j4:Bool) (r1:J1×Bool):Option (J0×Bool×Int×Int):=
 (bif j4 then (some ([],false,(0:Int),(5:Int))) else (bif r1.2 then (if (r1.1.take 0).length+(r1.1.drop 1).length<=9223372036854775807 then ((z4.F ((r1.1.take 0)++(r1.1.drop 1)) ([48]:J1)).bind λr5=>(z67.j6 (decide (r5=([]:J1))) r1)) else none) else (z67.j6 false r1)))
def z67.j18 (j18:J1) (r1:J1×Bool) (r11:Int):Option (J0×Bool×Int×Int):=
 ((z65.F j18).bind λr19=>((z31.F r19.1 r1.2).bind λr20=>(some (r20.1,r20.2,((r1.1.drop ((wr .i64 (r11+1))).toNat).length:Int),(0:Int)))))
def z67.j16 (j16:Bool) (r1:J1×Bool) (r11:Int):Option (J0×Bool×Int×Int):=
 (bif j16 then (some ([],false,(0:Int),(5:Int))) else (bif (decide (((r1.1.drop ((wr .i64 (r11+1))).toNat).length:Int)>64)) then (some ([],false,(0:Int),(10:Int))) else (if (r1.1.take (r11).toNat).length+(r1.1.drop ((wr .i64 (r11+1))).toNat).length<=9223372036854775807 then ((z5.F ((r1.1.take (r11).toNat)++(r1.1.drop ((wr .i64 (r11+1))).toNat)) ([48]:J1)).bind λr17=>(bif (decide (r17=([]:J1))) then (z67.j18 ([48]:J1) r1 r11) else (z67.j18 r17 r1 r11))) else none)))
def z67.j14 (j14:Bool) (r1:J1×Bool) (r11:Int):Option (J0×Bool×Int×Int):=
 (bif j14 then (some ([],false,(0:Int),(5:Int))) else (bif r1.2 then (if (r1.1.take (r11).toNat).length+(r1.1.drop ((wr .i64 (r11+1))).toNat).length<=9223372036854775807 then ((z4.F ((r1.1.take (r11).toNat)++(r1.1.drop ((wr .i64 (r11+1))).toNat)) ([48]:J1)).bind λr15=>(z67.j16 (decide (r15=([]:J1))) r1 r11)) else none) else (z67.j16 false r1 r11)))
def z67.j26 (j26:J1) (r1:J1×Bool):Option (J0×Bool×Int×Int):=
 ((z65.F j26).bind λr27=>((z31.F r27.1 r1.2).bind λr28=>(some (r28.1,r28.2,(0:Int),(0:Int)))))
def z67.j24 (r1:J1×Bool):Option (J0×Bool×Int×Int):=
 (if r1.1.length+([]:J1).length<=9223372036854775807 then ((z5.F (r1.1++([]:J1)) ([48]:J1)).bind λr25=>(bif (decide (r25=([]:J1))) then (z67.j26 ([48]:J1) r1) else (z67.j26 r25 r1))) else none)
def z67.j22 (j22:Bool) (r1:J1×Bool):Option (J0×Bool×Int×Int):=
 (bif j22 then (some ([],false,(0:Int),(5:Int))) else (bif r1.2 then (if r1.1.length+([]:J1).length<=9223372036854775807 then ((z4.F (r1.1++([]:J1)) ([48]:J1)).bind λr23=>(bif (decide (r23=([]:J1))) then (some ([],false,(0:Int),(5:Int))) else (z67.j24 r1))) else none) else (z67.j24 r1)))
def z67.F (a0:J1):Option (J0×Bool×Int×Int):=
 (bif (decide ((a0.length:Int)>4096)) then (some ([],false,(0:Int),(7:Int))) else ((z64.F a0 ([45]:J1)).bind λr1=>(bif (decide (([46]:J1)=r1.1)) then (if (0:Int)<=(0:Int)/\(0:Int)<=((r1.1).length:Int) then (if (0:Int)<=(1:Int)/\(1:Int)<=((r1.1).length:Int) then ((z66.F (r1.1.take 0)).bind λr2=>(bif (!r2) then (z67.j4 true r1) else ((z66.F (r1.1.drop 1)).bind λr3=>(bif (!r3) then (z67.j4 true r1) else (bif (decide (((r1.1.take 0).length:Int)>1)) then (if (0:Int)<=(0:Int)/\(0:Int)<((r1.1.take 0).length:Int) then (z67.j4 (decide ((((r1.1.take 0).getD 0 0).toNat:Int)=48)) r1) else none) else (z67.j4 false r1)))))) else none) else none) else (if (0:Int)<=(0:Int)/\(0:Int)<(([46]:J1).length:Int) then ((z2.F r1.1 ((([46]:J1).getD 0 0).toNat:Int)).bind λr11=>(bif (decide (r11>=0)) then (if 0<=r11/\r11<=((r1.1).length:Int) then (if 0<=(wr .i64 (r11+1))/\(wr .i64 (r11+1))<=((r1.1).length:Int) then ((z66.F (r1.1.take (r11).toNat)).bind λr12=>(bif (!r12) then (z67.j14 true r1 r11) else ((z66.F (r1.1.drop ((wr .i64 (r11+1))).toNat)).bind λr13=>(bif (!r13) then (z67.j14 true r1 r11) else (bif (decide (((r1.1.take (r11).toNat).length:Int)>1)) then (if (0:Int)<=(0:Int)/\(0:Int)<((r1.1.take (r11).toNat).length:Int) then (z67.j14 (decide ((((r1.1.take (r11).toNat).getD 0 0).toNat:Int)=48)) r1 r11) else none) else (z67.j14 false r1 r11)))))) else none) else none) else ((z66.F r1.1).bind λr21=>(bif (!r21) then (z67.j22 true r1) else (bif (decide ((r1.1.length:Int)>1)) then (if (0:Int)<=(0:Int)/\(0:Int)<(r1.1.length:Int) then (z67.j22 (decide (((r1.1.getD 0 0).toNat:Int)=48)) r1) else none) else (z67.j22 false r1)))))) else none))))
def z67.enc (r:J0×Bool×Int×Int):V:=(.tup [(.agg [(.ints false .u64 r.1),(.bool r.2.1),(.int .i64 r.2.2.1)]),(.int .i64 r.2.2.2)])
def z67.pack:List V->Option Pack
 |[(.str a0)]=>some ⟨J0×Bool×Int×Int,z67.F a0,z67.enc⟩
 |_=>none
def z68.F (a0:Int):Option (Bool):=
 (bif (decide (a0<0)) then (some true) else (some (decide (a0>64))))
def z68.pack:List V->Option Pack
 |[(.int .i64 a0)]=>some ⟨Bool,z68.F a0,z12.enc⟩
 |_=>none
def z69.F (a0:J0) (a1:Bool) (a2:Int):Option (J0×Bool×Int×Int):=
 ((z68.F a2).bind λr1=>(bif r1 then (some ([],false,(0:Int),(10:Int))) else (some (a0,a1,a2,(0:Int)))))
def z69.pack:List V->Option Pack
 |[(.agg [(.ints _ .u64 a0),(.bool a1)]),(.int .i64 a2)]=>some ⟨J0×Bool×Int×Int,z69.F a0 a1 a2,z67.enc⟩
 |_=>none
def z70.F (a0:J0) (a1:Bool) (a2:Int):Option (J0×Bool):=
 (some (a0,a1))
def z70.pack:List V->Option Pack
 |[(.agg [(.ints _ .u64 a0),(.bool a1),(.int .i64 a2)])]=>some ⟨J0×Bool,z70.F a0 a1 a2,z31.enc⟩
 |_=>none
def z71.F (a0:J0) (a1:Bool) (a2:J0) (a3:Bool):Option (J0×Bool):=
 (bif (decide (a1=a3)) then ((z58.F a0 a2).bind λr1=>((z31.F r1 a1).bind λr2=>(some (r2.1,r2.2)))) else ((z42.F a0 a2).bind λr3=>(bif r3.2 then ((z31.F r3.1 a1).bind λr4=>(some (r4.1,r4.2))) else ((z42.F a2 a0).bind λr5=>((z31.F r5.1 a3).bind λr6=>(some (r6.1,r6.2)))))))
def z71.pack:List V->Option Pack
 |[(.agg [(.ints _ .u64 a0),(.bool a1)]),(.agg [(.ints _ .u64 a2),(.bool a3)])]=>some ⟨J0×Bool,z71.F a0 a1 a2 a3,z31.enc⟩
 |_=>none
def z72.F (a0:J0) (a1:Bool) (a2:J0) (a3:Bool):Option (J0×Bool):=
 ((z36.F a2 a3).bind λr1=>((z71.F a0 a1 r1.1 r1.2).bind λr2=>(some (r2.1,r2.2))))
def z72.pack:List V->Option Pack
 |[(.agg [(.ints _ .u64 a0),(.bool a1)]),(.agg [(.ints _ .u64 a2),(.bool a3)])]=>some ⟨J0×Bool,z72.F a0 a1 a2 a3,z31.enc⟩
 |_=>none
def z73.F (a0:J0) (a1:Bool) (a2:J0) (a3:Bool):Option (Int):=
 ((z72.F a0 a1 a2 a3).bind λr1=>((z30.F r1.1 r1.2).bind λr2=>(some r2)))
def z73.pack:List V->Option Pack
 |[(.agg [(.ints _ .u64 a0),(.bool a1)]),(.agg [(.ints _ .u64 a2),(.bool a3)])]=>some ⟨Int,z73.F a0 a1 a2 a3,z13.enc⟩
 |_=>none
def z74.l0P {R:Type} (rec done:(Int×J0×J0)->Option R):(Int×J0×J0)->Option R:=λx=>match x with
 |(a,b,c)=>(bif (decide (a>0)) then (bif (decide ((wr .i64 ((BitVec.ofInt (IntKind.bits .i64) a &&& BitVec.ofInt (IntKind.bits .i64) 1).toNat:Int))=1)) then ((z56.F c b).bind λd=>(bif (decide (a>1)) then ((z56.F b b).bind λe=>(rec ((Int.fdiv a (2^(min 1 (64:Nat)))),e,d))) else (rec ((Int.fdiv a (2^(min 1 (64:Nat)))),b,d)))) else (bif (decide (a>1)) then ((z56.F b b).bind λg=>(rec ((Int.fdiv a (2^(min 1 (64:Nat)))),g,c))) else (rec ((Int.fdiv a (2^(min 1 (64:Nat)))),b,c)))) else (done (a,b,c)))
def z74.l0 (x:(Int×J0×J0)):Option ((Int×J0×J0)):=lfp (λrec x=>z74.l0P rec some x) x
def z74.F (a0:J0) (a1:Int):Option (J0):=
 ((z33.F [(1:Int)]).bind λr1=>((z74.l0 (a1,a0,r1)).bind λo2=>(some o2.2.2)))
def z74.pack:List V->Option Pack
 |[(.agg [(.ints _ .u64 a0)]),(.int .i64 a1)]=>some ⟨J0,z74.F a0 a1,z32.enc⟩
 |_=>none
def z75.F (a0:Int):Option (J0×Int):=
 (bif (decide (a0<0)) then (some ([],(2:Int))) else (bif (decide (a0>4096)) then (some ([],(6:Int))) else ((z33.F [(10:Int)]).bind λr1=>((z74.F r1 a0).bind λr2=>(some (r2,(0:Int)))))))
def z75.pack:List V->Option Pack
 |[(.int .i64 a0)]=>some ⟨J0×Int,z75.F a0,z49.enc⟩
 |_=>none
def z76.F (a0:Int):Option (J0×Bool):=
 ((z75.F a0).bind λr1=>((z31.F r1.1 false).bind λr2=>(some (r2.1,r2.2))))
def z76.pack:List V->Option Pack
 |[(.int .i64 a0)]=>some ⟨J0×Bool,z76.F a0,z31.enc⟩
 |_=>none
def z77.F (a0:J0) (a1:Bool) (a2 a3:Int):Option (J0×Bool):=
 ((z76.F (wr .i64 (a3-a2))).bind λr1=>((z57.F a0 a1 r1.1 r1.2).bind λr2=>(some (r2.1,r2.2))))
def z77.pack:List V->Option Pack
 |[(.agg [(.ints _ .u64 a0),(.bool a1),(.int .i64 a2)]),(.int .i64 a3)]=>some ⟨J0×Bool,z77.F a0 a1 a2 a3,z31.enc⟩
 |_=>none
def z78.F (a0:J0) (a1:Bool) (a2:Int) (a3:J0) (a4:Bool) (a5:Int):Option (Int):=
 ((z77.F a0 a1 a2 (if a5>a2 then a5 else a2)).bind λr1=>((z77.F a3 a4 a5 (if a5>a2 then a5 else a2)).bind λr2=>((z73.F r1.1 r1.2 r2.1 r2.2).bind λr3=>(some r3))))
def z78.pack:List V->Option Pack
 |[(.agg [(.ints _ .u64 a0),(.bool a1),(.int .i64 a2)]),(.agg [(.ints _ .u64 a3),(.bool a4),(.int .i64 a5)])]=>some ⟨Int,z78.F a0 a1 a2 a3 a4 a5,z13.enc⟩
 |_=>none
def z79.F (a0:J0) (a1:Bool) (a2:Int):Option (Int):=
 (some a2)
def z79.pack:List V->Option Pack
 |[(.agg [(.ints _ .u64 a0),(.bool a1),(.int .i64 a2)])]=>some ⟨Int,z79.F a0 a1 a2,z13.enc⟩
 |_=>none
def z80.F (a0:J0) (a1:Bool) (a2:Int):Option (J0×Bool×J0):=
 ((z76.F a2).bind λr1=>((z55.F a0 a1 r1.1 r1.2).bind λr2=>(some (r2.1,r2.2.1,r2.2.2.1))))
def z80.pack:List V->Option Pack
 |[(.agg [(.ints _ .u64 a0),(.bool a1),(.int .i64 a2)])]=>some ⟨J0×Bool×J0,z80.F a0 a1 a2,z35.enc⟩
 |_=>none
def z81.j8 (r1:J0×Bool×Int×Int):Option (J0×Bool×J0×Int):=
 ((z80.F r1.1 r1.2.1 r1.2.2.1).bind λr9=>((z34.F 100).bind λr10=>((z35.F r10.1 r10.2).bind λr11=>((z61.F r9.1 r9.2.1 r9.2.2 r11.1 r11.2.1 r11.2.2).bind λr12=>(some (r12.1,r12.2.1,r12.2.2.1,r12.2.2.2))))))
def z81.F (a0:J1):Option (J0×Bool×J0×Int):=
 ((z67.F a0).bind λr1=>(bif (!decide (r1.2.2.2=0)) then (some ([],false,[],r1.2.2.2)) else ((z34.F 1000).bind λr2=>((z69.F r2.1 r2.2 0).bind λr3=>((z70.F r1.1 r1.2.1 r1.2.2.1).bind λr4=>((z30.F r4.1 r4.2).bind λr5=>(bif (decide (r5<0)) then (some ([],false,[],(18:Int))) else ((z78.F r1.1 r1.2.1 r1.2.2.1 r3.1 r3.2.1 r3.2.2.1).bind λr6=>(bif (decide (r6>0)) then (some ([],false,[],(18:Int))) else ((z79.F r1.1 r1.2.1 r1.2.2.1).bind λr7=>(bif (decide (r7>12)) then (some ([],false,[],(18:Int))) else (z81.j8 r1))))))))))))
def z81.pack:List V->Option Pack
 |[(.str a0)]=>some ⟨J0×Bool×J0×Int,z81.F a0,z55.enc⟩
 |_=>none
def z82.F (a0:J1):Option (J0×Bool×Int):=
 ((z64.F a0 ([45]:J1)).bind λr1=>((z65.F r1.1).bind λr2=>(bif (!decide (r2.2=0)) then (some ([],false,r2.2)) else (bif r1.2 then ((z29.F r2.1).bind λr3=>(bif r3 then (some ([],false,(5:Int))) else ((z31.F r2.1 r1.2).bind λr7=>(some (r7.1,r7.2,(0:Int)))))) else ((z31.F r2.1 r1.2).bind λr8=>(some (r8.1,r8.2,(0:Int))))))))
def z82.enc (r:J0×Bool×Int):V:=(.tup [(.agg [(.ints false .u64 r.1),(.bool r.2.1)]),(.int .i64 r.2.2)])
def z82.pack:List V->Option Pack
 |[(.str a0)]=>some ⟨J0×Bool×Int,z82.F a0,z82.enc⟩
 |_=>none
def z83.F:Option (J0×Bool):=
 ((z75.F 30).bind λr1=>((z31.F r1.1 false).bind λr2=>(some (r2.1,r2.2))))
def z83.pack:List V->Option Pack
 |[]=>some ⟨J0×Bool,z83.F,z31.enc⟩
 |_=>none
def z84.F (a0:J1):Option (J0×Bool×Int):=
 ((z82.F a0).bind λr1=>(bif (!decide (r1.2.2=0)) then (some ([],false,r1.2.2)) else ((z30.F r1.1 r1.2.1).bind λr2=>(bif (decide (r2<0)) then (some ([],false,(19:Int))) else (z83.F.bind λr3=>((z73.F r1.1 r1.2.1 r3.1 r3.2).bind λr4=>(bif (decide (r4>0)) then (some ([],false,(19:Int))) else (some (r1.1,r1.2.1,(0:Int))))))))))
def z84.pack:List V->Option Pack
 |[(.str a0)]=>some ⟨J0×Bool×Int,z84.F a0,z82.enc⟩
 |_=>none
def z85.F (a0:J1):Option (Int):=
 ((z84.F a0).bind λr1=>(bif (decide (r1.2.2=0)) then ((z30.F r1.1 r1.2.1).bind λr2=>(bif (decide (r2=0)) then (some 19) else (some r1.2.2))) else (some r1.2.2)))
def z85.pack:List V->Option Pack
 |[(.str a0)]=>some ⟨Int,z85.F a0,z13.enc⟩
 |_=>none
def z86.F (a0 a1 a2 a3:Int) (a4:J1):Option (Int):=
 (bif (decide (a0=0)) then (bif (decide (a4=([100,117,101]:J1))) then (some 0) else ((z85.F a4).bind λr1=>(some r1))) else (bif (decide (a0=1)) then ((z85.F a4).bind λr2=>(some r2)) else (bif (decide (a0=2)) then ((z81.F a4).bind λr3=>(some r3.2.2.2)) else (bif (!decide (a4=([]:J1))) then (some 4) else (some 0)))))
def z86.pack:List V->Option Pack
 |[(.agg [(.int .i64 a0),(.int .i64 a1),(.int .i64 a2),(.int .i64 a3),(.str a4)])]=>some ⟨Int,z86.F a0 a1 a2 a3 a4,z13.enc⟩
 |_=>none
def z87.j1 (j1:Bool) (a1 a2 a3 a5 a6 a7 a0:Int) (a4:J1):Option (Int):=
 (bif j1 then (some 2) else ((z28.F a1 a2 a3).bind λr2=>(bif (!decide (r2=0)) then (some 11) else ((z24.F a1 a2 a3 a5 a6 a7).bind λr3=>(bif (decide (r3<0)) then (some 12) else ((z86.F a0 a1 a2 a3 a4).bind λr4=>(some r4)))))))
def z87.F (a0 a1 a2 a3:Int) (a4:J1) (a5 a6 a7:Int):Option (Int):=
 (bif (decide (a0<0)) then (z87.j1 true a1 a2 a3 a5 a6 a7 a0 a4) else (z87.j1 (decide (a0>=4)) a1 a2 a3 a5 a6 a7 a0 a4))
def z87.pack:List V->Option Pack
 |[(.agg [(.int .i64 a0),(.int .i64 a1),(.int .i64 a2),(.int .i64 a3),(.str a4)]),(.agg [(.int .i64 a5),(.int .i64 a6),(.int .i64 a7)])]=>some ⟨Int,z87.F a0 a1 a2 a3 a4 a5 a6 a7,z13.enc⟩
 |_=>none
def z88.l0P (a:J2) (b:Int) {R:Type} (rec:(Int×Int×Int×Int)->Option R) (done:((Int×Int×Int×Int)⊕(Int×Int×Int×Int×Int))->Option R):(Int×Int×Int×Int)->Option R:=λx=>match x with
 |(c,d,e,g)=>(bif (decide (c<b)) then (if 0<=c/\c<(a.length:Int) then (V.asInt .i64 (((a.getD (c).toNat [])).getD 0 .undef) λh=>(V.asInt .i64 (((a.getD (c).toNat [])).getD 1 .undef) λj=>(V.asInt .i64 (((a.getD (c).toNat [])).getD 2 .undef) λk=>(V.asInt .i64 (((a.getD (c).toNat [])).getD 3 .undef) λm=>(V.asStr (((a.getD (c).toNat [])).getD 4 .undef) λn=>((z87.F h j k m n d e g).bind λo=>(bif (!decide (o=0)) then (done (.inr (c,o,d,e,g))) else (rec ((wr .i64 (c+1)),j,k,m))))))))) else none) else (done (.inl (c,d,e,g))))
def z88.l0 (a:J2) (b:Int) (x:(Int×Int×Int×Int)):Option (((Int×Int×Int×Int)⊕(Int×Int×Int×Int×Int))):=lfp (λrec x=>z88.l0P a b rec some x) x
def z88.F (a0:J2):Option (Int×Int):=
 (bif (decide ((((a0).length:Nat):Int)>10000)) then (some ((10000:Int),(6:Int))) else ((z88.l0 a0 (((a0).length:Nat):Int) ((0:Int),(0:Int),(0:Int),(0:Int))).bind λo1=>match o1 with | .inl p2=>(some ((0:Int),(0:Int))) | .inr q3=>(some (q3.1,q3.2.1))))
def z88.enc (r:Int×Int):V:=(.tup [(.int .i64 r.1),(.int .i64 r.2)])
def z88.pack:List V->Option Pack
 |[(.recs _ 5 a0)]=>some ⟨Int×Int,z88.F a0,z88.enc⟩
 |_=>none
def z89.l0P (a b:Nat) {R:Type} (rec done:(Int×Int×J0)->Option R):(Int×Int×J0)->Option R:=λx=>match x with
 |(c,d,e)=>(bif (decide (d>=0)) then (if 0<=d/\d<((b:Nat):Int) then (if (a+(d).toNat)<e.length then (rec ((wr .i64 (Int.tdiv c 10)),(wr .i64 (d-1)),(e.set (a+(d).toNat) (wr .u8 (wr .i64 ((48:Int)+(Int.tmod c 10))))))) else none) else none) else (done (c,d,e)))
def z89.l0 (a b:Nat) (x:(Int×Int×J0)):Option ((Int×Int×J0)):=lfp (λrec x=>z89.l0P a b rec some x) x
def z89.F (a0 a1 a2:Int):Option (J1×Int):=
 ((z28.F a0 a1 a2).bind λr1=>(bif (!decide (r1=0)) then (some (([]:J1),r1)) else (if (0:Int)<=(4:Int)/\(4:Int)<=(([(48:Int),(48:Int),(48:Int),(48:Int),(45:Int),(48:Int),(48:Int),(45:Int),(48:Int),(48:Int)]).length:Int) then ((z89.l0 0 4 (a0,(3:Int),[(48:Int),(48:Int),(48:Int),(48:Int),(45:Int),(48:Int),(48:Int),(45:Int),(48:Int),(48:Int)])).bind λo2=>(if (0:Int)<=(5:Int)/\(5:Int)<=(7:Int)/\(7:Int)<=((o2.2.2).length:Int) then ((z89.l0 5 (7-5) (a1,(wr .i64 ((((7-5):Nat):Int)-1)),o2.2.2)).bind λo3=>(if (0:Int)<=(8:Int)/\(8:Int)<=((o3.2.2).length:Int) then ((z89.l0 8 ((o3.2.2).length-8) (a2,(wr .i64 (((((o3.2.2).length-8):Nat):Int)-1)),o3.2.2)).bind λo4=>(some ((o4.2.2.map λn=>UInt8.ofNat n.toNat),(0:Int)))) else none)) else none)) else none)))
def z89.enc (r:J1×Int):V:=(.tup [(.str r.1),(.int .i64 r.2)])
def z89.pack:List V->Option Pack
 |[(.agg [(.int .i64 a0),(.int .i64 a1),(.int .i64 a2)])]=>some ⟨J1×Int,z89.F a0 a1 a2,z89.enc⟩
 |_=>none
def z90.F:Option ((List J1)):=
 (some [([112,97,121]:J1),([112,114,101,112,97,121]:J1),([114,101,115,101,116]:J1),([112,97,115,115]:J1)])
def z90.pack:List V->Option Pack
 |[]=>some ⟨(List J1),z90.F,z8.enc⟩
 |_=>none
def z91.l0P (a:Int) {R:Type} (rec done:(Int×Int×J0)->Option R):(Int×Int×J0)->Option R:=λx=>match x with
 |(b,c,d)=>(bif (decide (b>0)) then (if 0<=(wr .i64 (c-1))/\(wr .i64 (c-1))<20 then (if ((wr .i64 (c-1))).toNat<d.length then (rec ((wr .u64 (Int.tdiv b 10)),(wr .i64 (c-1)),(d.set ((wr .i64 (c-1))).toNat (wr .u8 (wr .u64 ((48:Int)+(Int.tmod b 10))))))) else none) else none) else (bif (decide ((wr .i64 ((20:Int)-c))<a)) then (if 0<=(wr .i64 (c-1))/\(wr .i64 (c-1))<20 then (if ((wr .i64 (c-1))).toNat<d.length then (rec ((wr .u64 (Int.tdiv b 10)),(wr .i64 (c-1)),(d.set ((wr .i64 (c-1))).toNat (wr .u8 (wr .u64 ((48:Int)+(Int.tmod b 10))))))) else none) else none) else (done (b,c,d))))
def z91.l0 (a:Int) (x:(Int×Int×J0)):Option ((Int×Int×J0)):=lfp (λrec x=>z91.l0P a rec some x) x
def z91.F (a0 a1:Int):Option (J1):=
 ((z91.l0 a1 (a0,(20:Int),(List.replicate 20 0))).bind λo1=>(if (o1.2.2).length=20 then (if 0<=o1.2.1/\o1.2.1<=20 then (some (((o1.2.2.drop (o1.2.1).toNat).take (20-(o1.2.1).toNat)).map λn=>UInt8.ofNat n.toNat)) else none) else none))
def z91.pack:List V->Option Pack
 |[(.int .u64 a0),(.int .i64 a1)]=>some ⟨J1,z91.F a0 a1,z10.enc⟩
 |_=>none
def z92.l2P (a:J0) (b:Int) {R:Type} (rec done:(Int×Int)->Option R):(Int×Int)->Option R:=λx=>match x with
 |(c,d)=>(bif (decide (d<b)) then (if 0<=d/\d<(a.length:Int) then (rec ((a.getD (d).toNat 0),(wr .i64 (d+1)))) else none) else (done (c,d)))
def z92.l2 (a:J0) (b:Int) (x:(Int×Int)):Option ((Int×Int)):=lfp (λrec x=>z92.l2P a b rec some x) x
def z92.j1010a {R:Type} (rec done:(J0×(List J1))->Option R) (a:Int×Int) (b:Int) (c:List J1) (d:J0×J0×Int):Option R:=
 ((z91.F a.1 b).bind λe=>(if ((c).length+([e]).length)*16<=140737488355328 then (rec (d.1,(c++[e]))) else none))
def z92.l0P {R:Type} (rec done:(J0×(List J1))->Option R):(J0×(List J1))->Option R:=λx=>match x with
 |(a,b)=>((z29.F a).bind λc=>(bif (!c) then ((z33.F [(1000000000000000000:Int)]).bind λd=>((z52.F a d).bind λe=>((z43.F e.2.1).bind λg=>((z92.l2 g (((g).length:Nat):Int) ((0:Int),(0:Int))).bind λh=>((z29.F e.1).bind λj=>(bif j then (z92.j1010a rec done h 1 b e) else (z92.j1010a rec done h 18 b e))))))) else (done (a,b))))
def z92.l0 (x:(J0×(List J1))):Option ((J0×(List J1))):=lfp (λrec x=>z92.l0P rec some x) x
def z92.l4P (a:List J1) {R:Type} (rec done:(Int×J0)->Option R):(Int×J0)->Option R:=λx=>match x with
 |(b,d)=>(bif (decide (b>=0)) then (if 0<=b/\b<(a.length:Int) then (if (b).toNat<a.length then (if ((d).length+(((a.getD (b).toNat []).map λc=>(c.toNat:Int))).length)*1<=140737488355328 then (rec ((wr .i64 (b-1)),(d++((a.getD (b).toNat []).map λc=>(c.toNat:Int))))) else none) else none) else none) else (done (b,d)))
def z92.l4 (a:List J1) (x:(Int×J0)):Option ((Int×J0)):=lfp (λrec x=>z92.l4P a rec some x) x
def z92.F (a0:J0):Option (J1):=
 ((z29.F a0).bind λr1=>(bif r1 then (some ([48]:J1)) else ((z92.l0 (a0,[])).bind λo2=>(bif (decide ((wr .i64 ((((o2.2).length:Nat):Int)-1))>=0)) then (if 0<=(wr .i64 ((((o2.2).length:Nat):Int)-1))/\(wr .i64 ((((o2.2).length:Nat):Int)-1))<(o2.2.length:Int) then (if ((wr .i64 ((((o2.2).length:Nat):Int)-1))).toNat<o2.2.length then (if (([]:J0).length+(((o2.2.getD ((wr .i64 ((((o2.2).length:Nat):Int)-1))).toNat []).map λc=>(c.toNat:Int))).length)*1<=140737488355328 then ((z92.l4 o2.2 ((wr .i64 ((wr .i64 ((((o2.2).length:Nat):Int)-1))-1)),([]++((o2.2.getD ((wr .i64 ((((o2.2).length:Nat):Int)-1))).toNat []).map λc=>(c.toNat:Int))))).bind λo3=>(if 0<(o3.2).length then (if (((o3.2).length:Nat):Int)=(o3.2.length:Int)/\0<o3.2.length/\o3.2.all Y7=true then (some (o3.2.map λn=>UInt8.ofNat n.toNat)) else none) else none)) else none) else none) else none) else (if ((([]:J0).length:Nat):Int)=0 then (some ([]:J1)) else none)))))
def z92.pack:List V->Option Pack
 |[(.agg [(.ints _ .u64 a0)])]=>some ⟨J1,z92.F a0,z10.enc⟩
 |_=>none
def z93.F (a0:J0) (a1:Bool):Option (J1):=
 (bif a1 then ((z92.F a0).bind λr1=>(if ([45]:J1).length+r1.length<=9223372036854775807 then (some (([45]:J1)++r1)) else none)) else ((z92.F a0).bind λr2=>(some r2)))
def z93.pack:List V->Option Pack
 |[(.agg [(.ints _ .u64 a0),(.bool a1)])]=>some ⟨J1,z93.F a0 a1,z10.enc⟩
 |_=>none
def z94.j4 (r2:J1×Bool) (j4:J1):Option (J1):=
 (bif r2.2 then (if ([45]:J1).length+j4.length<=9223372036854775807 then (some (([45]:J1)++j4)) else none) else (some j4))
def z94.F (a0:J0) (a1:Bool) (a2:Int):Option (J1):=
 ((z93.F a0 a1).bind λr1=>((z64.F r1 ([45]:J1)).bind λr2=>((z6.F ([48]:J1) (if (wr .i64 ((wr .i64 (a2+1))-(r2.1.length:Int)))>0 then (wr .i64 ((wr .i64 (a2+1))-(r2.1.length:Int))) else 0)).bind λr3=>(if r3.length+r2.1.length<=9223372036854775807 then (bif (decide (a2>0)) then (if 0<=(wr .i64 (((r3++r2.1).length:Int)-a2))/\(wr .i64 (((r3++r2.1).length:Int)-a2))<=(((r3++r2.1)).length:Int) then (if ((r3++r2.1).take ((wr .i64 (((r3++r2.1).length:Int)-a2))).toNat).length+([46]:J1).length<=9223372036854775807 then (if 0<=(wr .i64 (((r3++r2.1).length:Int)-a2))/\(wr .i64 (((r3++r2.1).length:Int)-a2))<=(((r3++r2.1)).length:Int) then (if (((r3++r2.1).take ((wr .i64 (((r3++r2.1).length:Int)-a2))).toNat)++([46]:J1)).length+((r3++r2.1).drop ((wr .i64 (((r3++r2.1).length:Int)-a2))).toNat).length<=9223372036854775807 then (z94.j4 r2 ((((r3++r2.1).take ((wr .i64 (((r3++r2.1).length:Int)-a2))).toNat)++([46]:J1))++((r3++r2.1).drop ((wr .i64 (((r3++r2.1).length:Int)-a2))).toNat))) else none) else none) else none) else none) else (z94.j4 r2 (r3++r2.1))) else none))))
def z94.pack:List V->Option Pack
 |[(.agg [(.ints _ .u64 a0),(.bool a1),(.int .i64 a2)])]=>some ⟨J1,z94.F a0 a1 a2,z10.enc⟩
 |_=>none
def z95.F (a0:J0) (a1:Bool):Option (J1):=
 ((z69.F a0 a1 2).bind λr1=>((z94.F r1.1 r1.2.1 r1.2.2.1).bind λr2=>(some r2)))
def z95.pack:List V->Option Pack
 |[(.agg [(.ints _ .u64 a0),(.bool a1)])]=>some ⟨J1,z95.F a0 a1,z10.enc⟩
 |_=>none
def z96.j3 (j3:Bool) (r2:(List J1)) (a0:Int) (r1:J1×Int) (a4:J1):Option (J1):=
 (bif j3 then (if (([(r2.getD (a0).toNat []),r1.1]).length+([a4]).length)*16<=140737488355328 then ((z7.F ([(r2.getD (a0).toNat []),r1.1]++[a4]) ([32]:J1)).bind λr7=>(if r7.length+([59,10]:J1).length<=9223372036854775807 then (some (r7++([59,10]:J1))) else none)) else none) else ((z82.F a4).bind λr4=>((z95.F r4.1 r4.2.1).bind λr5=>(if (([(r2.getD (a0).toNat []),r1.1]).length+([r5]).length)*16<=140737488355328 then ((z7.F ([(r2.getD (a0).toNat []),r1.1]++[r5]) ([32]:J1)).bind λr8=>(if r8.length+([59,10]:J1).length<=9223372036854775807 then (some (r8++([59,10]:J1))) else none)) else none))))
def z96.F (a0 a1 a2 a3:Int) (a4:J1):Option (J1):=
 ((z89.F a1 a2 a3).bind λr1=>(z90.F.bind λr2=>(if 0<=a0/\a0<(r2.length:Int) then (bif (decide (a0=3)) then ((z7.F [(r2.getD (a0).toNat []),r1.1] ([32]:J1)).bind λr6=>(if r6.length+([59,10]:J1).length<=9223372036854775807 then (some (r6++([59,10]:J1))) else none)) else (bif (decide (a0=2)) then (z96.j3 true r2 a0 r1 a4) else (z96.j3 (decide (a4=([100,117,101]:J1))) r2 a0 r1 a4))) else none)))
def z96.pack:List V->Option Pack
 |[(.agg [(.int .i64 a0),(.int .i64 a1),(.int .i64 a2),(.int .i64 a3),(.str a4)])]=>some ⟨J1,z96.F a0 a1 a2 a3 a4,z10.enc⟩
 |_=>none
def z97.l0P (a:J2) (b:Int) {R:Type} (rec done:(Int×J0)->Option R):(Int×J0)->Option R:=λx=>match x with
 |(d,e)=>(bif (decide (d<b)) then (if 0<=d/\d<(a.length:Int) then (V.asInt .i64 (((a.getD (d).toNat [])).getD 0 .undef) λg=>(V.asInt .i64 (((a.getD (d).toNat [])).getD 1 .undef) λh=>(V.asInt .i64 (((a.getD (d).toNat [])).getD 2 .undef) λj=>(V.asInt .i64 (((a.getD (d).toNat [])).getD 3 .undef) λk=>(V.asStr (((a.getD (d).toNat [])).getD 4 .undef) λm=>((z96.F g h j k m).bind λn=>(if ((e).length+((n.map λc=>(c.toNat:Int))).length)*1<=140737488355328 then (rec ((wr .i64 (d+1)),(e++(n.map λc=>(c.toNat:Int))))) else none))))))) else none) else (done (d,e)))
def z97.l0 (a:J2) (b:Int) (x:(Int×J0)):Option ((Int×J0)):=lfp (λrec x=>z97.l0P a b rec some x) x
def z97.F (a0:J2):Option (J1×Int):=
 ((z88.F a0).bind λr1=>(bif (!decide (r1.2=0)) then (some (([]:J1),r1.2)) else (bif (decide ((0:Int)<(((a0).length:Nat):Int))) then (if (0:Int)<=(0:Int)/\(0:Int)<(a0.length:Int) then (V.asInt .i64 (((a0.getD 0 [])).getD 0 .undef) λc2=>(V.asInt .i64 (((a0.getD 0 [])).getD 1 .undef) λc3=>(V.asInt .i64 (((a0.getD 0 [])).getD 2 .undef) λc4=>(V.asInt .i64 (((a0.getD 0 [])).getD 3 .undef) λc5=>(V.asStr (((a0.getD 0 [])).getD 4 .undef) λc6=>((z96.F c2 c3 c4 c5 c6).bind λr7=>(if (([]:J0).length+((r7.map λc=>(c.toNat:Int))).length)*1<=140737488355328 then ((z97.l0 a0 (((a0).length:Nat):Int) ((1:Int),([]++(r7.map λc=>(c.toNat:Int))))).bind λo8=>(if 0<(o8.2).length then (if (((o8.2).length:Nat):Int)=(o8.2.length:Int)/\0<o8.2.length/\o8.2.all Y7=true then (some ((o8.2.map λn=>UInt8.ofNat n.toNat),(0:Int))) else none) else none)) else none))))))) else none) else (if ((([]:J0).length:Nat):Int)=0 then (some (([]:J1),(0:Int))) else none))))
def z97.pack:List V->Option Pack
 |[(.recs _ 5 a0)]=>some ⟨J1×Int,z97.F a0,z89.enc⟩
 |_=>none
def z98.F (a0:J2) (a1 a2:Int):Option (Int×J1×Int×J2×Int×Int):=
 (bif (decide ((((a0).length:Nat):Int)=0)) then (some ((-1:Int),([]:J1),(0:Int),a0,a1,a1)) else (if (0:Int)<=(0:Int)/\(0:Int)<(a0.length:Int) then (V.asInt .i64 (((a0.getD 0 [])).getD 0 .undef) λc1=>(V.asStr (((a0.getD 0 [])).getD 1 .undef) λc2=>(V.asInt .i64 (((a0.getD 0 [])).getD 2 .undef) λc3=>(if (0:Int)<=(1:Int)/\(1:Int)<=(a0.length:Int) then (some (c1,c2,c3,(a0.drop 1),a1,c3)) else none)))) else none))
def z98.enc (r:Int×J1×Int×J2×Int×Int):V:=(.agg [(.int .i64 r.1),(.str r.2.1),(.int .i64 r.2.2.1)])
def z98.encC (r:Int×J1×Int×J2×Int×Int):J2:=[[(.recs false 3 r.2.2.2.1),(.int .i64 r.2.2.2.2.1),(.int .i64 r.2.2.2.2.2)]]
def z98.pk:J2->List V->Option Qbf
 |[[(.recs _ 3 a0),(.int .i64 a1),(.int .i64 a2)]],[]=>some ⟨Int×J1×Int×J2×Int×Int,z98.F a0 a1 a2,z98.enc,z98.encC⟩
 |_,_=>none
def z99.F (a0:J1):Option (J0×Bool×Int):=
 ((z67.F a0).bind λr1=>(bif (!decide (r1.2.2.2=0)) then (some ([],false,r1.2.2.2)) else ((z79.F r1.1 r1.2.1 r1.2.2.1).bind λr2=>(bif (!decide (r2=2)) then (some ([],false,(10:Int))) else ((z70.F r1.1 r1.2.1 r1.2.2.1).bind λr3=>(some (r3.1,r3.2,(0:Int))))))))
def z99.pack:List V->Option Pack
 |[(.str a0)]=>some ⟨J0×Bool×Int,z99.F a0,z82.enc⟩
 |_=>none
def z100.j3 (j3:Bool) (r1:Int×J1×Int×J2×Int×Int) (a3 a4 a5 a6:Int) (a7:J1):Option (Int×J2×Int×Int×Int×Int×Int×Int×J1):=
 (bif j3 then (some ((0:Int),r1.2.2.2.1,r1.2.2.2.2.1,r1.2.2.2.2.2,a3,a4,a5,a6,([100,117,101]:J1))) else (bif (!decide (r1.1=1)) then (some ((4:Int),r1.2.2.2.1,r1.2.2.2.2.1,r1.2.2.2.2.2,a3,a4,a5,a6,a7)) else (bif (decide (a3=2)) then ((z86.F a3 a4 a5 a6 r1.2.1).bind λr4=>(some (r4,r1.2.2.2.1,r1.2.2.2.2.1,r1.2.2.2.2.2,a3,a4,a5,a6,r1.2.1))) else ((z99.F r1.2.1).bind λr5=>(bif (!decide (r5.2.2=0)) then (some (r5.2.2,r1.2.2.2.1,r1.2.2.2.2.1,r1.2.2.2.2.2,a3,a4,a5,a6,a7)) else ((z93.F r5.1 r5.2.1).bind λr6=>((z86.F a3 a4 a5 a6 r6).bind λr7=>(some (r7,r1.2.2.2.1,r1.2.2.2.2.1,r1.2.2.2.2.2,a3,a4,a5,a6,r6)))))))))
def z100.j2 (j2:Bool) (r1:Int×J1×Int×J2×Int×Int) (a3 a4 a5 a6:Int) (a7:J1):Option (Int×J2×Int×Int×Int×Int×Int×Int×J1):=
 (bif j2 then (some ((14:Int),r1.2.2.2.1,r1.2.2.2.2.1,r1.2.2.2.2.2,a3,a4,a5,a6,a7)) else (bif (decide (r1.1=0)) then (z100.j3 (decide (a3=0)) r1 a3 a4 a5 a6 a7) else (z100.j3 false r1 a3 a4 a5 a6 a7)))
def z100.F (a0:J2) (a1 a2 a3 a4 a5 a6:Int) (a7:J1):Option (Int×J2×Int×Int×Int×Int×Int×Int×J1):=
 ((z98.F a0 a1 a2).bind λr1=>(bif (decide (r1.1=0)) then (bif (decide (a3=0)) then (z100.j2 (!decide (r1.2.1=([100,117,101]:J1))) r1 a3 a4 a5 a6 a7) else (z100.j2 false r1 a3 a4 a5 a6 a7)) else (z100.j2 false r1 a3 a4 a5 a6 a7)))
def z100.enc (r:Int×J2×Int×Int×Int×Int×Int×Int×J1):V:=(.int .i64 r.1)
def z100.encC (r:Int×J2×Int×Int×Int×Int×Int×Int×J1):J2:=[[(.recs false 3 r.2.1),(.int .i64 r.2.2.1),(.int .i64 r.2.2.2.1)],[(.int .i64 r.2.2.2.2.1),(.int .i64 r.2.2.2.2.2.1),(.int .i64 r.2.2.2.2.2.2.1),(.int .i64 r.2.2.2.2.2.2.2.1),(.str r.2.2.2.2.2.2.2.2)]]
def z100.pk:J2->List V->Option Qbf
 |[[(.recs _ 3 a0),(.int .i64 a1),(.int .i64 a2)],[(.int .i64 a3),(.int .i64 a4),(.int .i64 a5),(.int .i64 a6),(.str a7)]],[]=>some ⟨Int×J2×Int×Int×Int×Int×Int×Int×J1,z100.F a0 a1 a2 a3 a4 a5 a6 a7,z100.enc,z100.encC⟩
 |_,_=>none
def z101.l0P (a:List J1) (b:J1) (c:Int) {R:Type} (rec:Int->Option R) (done:((Int)⊕(Int))->Option R):Int->Option R:=λd=>(bif (decide (d<c)) then (if 0<=d/\d<(a.length:Int) then (bif (decide (b=(a.getD (d).toNat []))) then (done (.inr d)) else (rec (wr .i64 (d+1)))) else none) else (done (.inl d)))
def z101.l0 (a:List J1) (b:J1) (c x:Int):Option (((Int)⊕(Int))):=lfp (λrec x=>z101.l0P a b c rec some x) x
def z101.F (a0:List J1) (a1:J1):Option (Int):=
 ((z101.l0 a0 a1 (((a0).length:Nat):Int) 0).bind λo1=>match o1 with | .inl p2=>(some (-1:Int)) | .inr q3=>(some q3))
def z101.pack:List V->Option Pack
 |[(.strs _ a0),(.str a1)]=>some ⟨Int,z101.F a0 a1,z13.enc⟩
 |_=>none
def z102.l0P (a:J1) (b:Int) {R:Type} (rec:(Int×Int)->Option R) (done:((Int×Int)⊕(Int×Bool))->Option R):(Int×Int)->Option R:=λx=>match x with
 |(c,d)=>(bif (decide (d<b)) then (if 0<=d/\d<(a.length:Int) then (bif (decide (((a.getD (d).toNat 0).toNat:Int)<48)) then (done (.inr ((0:Int),false))) else (if 0<=d/\d<(a.length:Int) then (bif (decide (((a.getD (d).toNat 0).toNat:Int)>57)) then (done (.inr ((0:Int),false))) else (if 0<=d/\d<(a.length:Int) then (rec ((wr .i64 ((wr .i64 ((10:Int)*c))+(wr .i64 (wr .u8 (((a.getD (d).toNat 0).toNat:Int)-48))))),(wr .i64 (d+1)))) else none)) else none)) else none) else (done (.inl (c,d))))
def z102.l0 (a:J1) (b:Int) (x:(Int×Int)):Option (((Int×Int)⊕(Int×Bool))):=lfp (λrec x=>z102.l0P a b rec some x) x
def z102.F (a0:J1):Option (Int×Bool):=
 ((z102.l0 a0 (a0.length:Int) ((0:Int),(0:Int))).bind λo1=>match o1 with | .inl p2=>(some (p2.1,true)) | .inr q3=>(some (q3.1,q3.2)))
def z102.enc (r:Int×Bool):V:=(.tup [(.int .i64 r.1),(.bool r.2)])
def z102.pack:List V->Option Pack
 |[(.str a0)]=>some ⟨Int×Bool,z102.F a0,z102.enc⟩
 |_=>none
def z103.j5 (r2 r3 r4:Int×Bool):Option (Int×Int×Int×Int):=
 ((z28.F r2.1 r3.1 r4.1).bind λr6=>(bif (!decide (r6=0)) then (some ((0:Int),(0:Int),(0:Int),r6)) else (some (r2.1,r3.1,r4.1,(0:Int)))))
def z103.j1 (a0:J1):Option (Int×Int×Int×Int):=
 (if (0:Int)<=(4:Int)/\(4:Int)<=((a0).length:Int) then ((z102.F (a0.take 4)).bind λr2=>(if (0:Int)<=(5:Int)/\(5:Int)<=(7:Int)/\(7:Int)<=((a0).length:Int) then ((z102.F ((a0.drop 5).take (7-5))).bind λr3=>(if (0:Int)<=(8:Int)/\(8:Int)<=((a0).length:Int) then ((z102.F (a0.drop 8)).bind λr4=>(bif (!r2.2) then (some ((0:Int),(0:Int),(0:Int),(4:Int))) else (bif (!r3.2) then (some ((0:Int),(0:Int),(0:Int),(4:Int))) else (bif (!r4.2) then (some ((0:Int),(0:Int),(0:Int),(4:Int))) else (z103.j5 r2 r3 r4))))) else none)) else none)) else none)
def z103.F (a0:J1):Option (Int×Int×Int×Int):=
 (bif (!decide ((a0.length:Int)=10)) then (some ((0:Int),(0:Int),(0:Int),(4:Int))) else (if (0:Int)<=(4:Int)/\(4:Int)<(a0.length:Int) then (bif (!decide (((a0.getD 4 0).toNat:Int)=45)) then (some ((0:Int),(0:Int),(0:Int),(4:Int))) else (if (0:Int)<=(7:Int)/\(7:Int)<(a0.length:Int) then (bif (!decide (((a0.getD 7 0).toNat:Int)=45)) then (some ((0:Int),(0:Int),(0:Int),(4:Int))) else (z103.j1 a0)) else none)) else none))
def z103.enc (r:Int×Int×Int×Int):V:=(.tup [(.agg [(.int .i64 r.1),(.int .i64 r.2.1),(.int .i64 r.2.2.1)]),(.int .i64 r.2.2.2)])
def z103.pack:List V->Option Pack
 |[(.str a0)]=>some ⟨Int×Int×Int×Int,z103.F a0,z103.enc⟩
 |_=>none
def z104.j15 (j8:J2) (j9 j10 j11 j12 j13 j14:Int) (j15:J1):Option (Int×Int×Int×Int×J1×Int×J2×Int×Int):=
 ((z98.F j8 j9 j10).bind λr16=>(bif (!decide (r16.1=3)) then (some (j11,j12,j13,j14,j15,(4:Int),r16.2.2.2.1,r16.2.2.2.2.1,r16.2.2.2.2.2)) else (bif (!decide (r16.2.1=([59]:J1))) then (some (j11,j12,j13,j14,j15,(4:Int),r16.2.2.2.1,r16.2.2.2.2.1,r16.2.2.2.2.2)) else (some (j11,j12,j13,j14,j15,(0:Int),r16.2.2.2.1,r16.2.2.2.2.1,r16.2.2.2.2.2)))))
def z104.F (a0:J2) (a1 a2 a3 a4 a5:Int):Option (Int×Int×Int×Int×J1×Int×J2×Int×Int):=
 ((z98.F a0 a1 a2).bind λr1=>(bif (!decide (r1.1=0)) then (some ((0:Int),(0:Int),(0:Int),(0:Int),([]:J1),(4:Int),r1.2.2.2.1,r1.2.2.2.2.1,r1.2.2.2.2.2)) else (z90.F.bind λr2=>((z101.F r2 r1.2.1).bind λr3=>(bif (decide (r3<0)) then (some (r3,(0:Int),(0:Int),(0:Int),([]:J1),(14:Int),r1.2.2.2.1,r1.2.2.2.2.1,r1.2.2.2.2.2)) else ((z98.F r1.2.2.2.1 r1.2.2.2.2.1 r1.2.2.2.2.2).bind λr4=>(bif (!decide (r4.1=2)) then (some (r3,(0:Int),(0:Int),(0:Int),([]:J1),(4:Int),r4.2.2.2.1,r4.2.2.2.2.1,r4.2.2.2.2.2)) else ((z103.F r4.2.1).bind λr5=>(bif (!decide (r5.2.2.2=0)) then (some (r3,(0:Int),(0:Int),(0:Int),([]:J1),r5.2.2.2,r4.2.2.2.1,r4.2.2.2.2.1,r4.2.2.2.2.2)) else ((z24.F r5.1 r5.2.1 r5.2.2.1 a3 a4 a5).bind λr6=>(bif (decide (r6<0)) then (some (r3,(0:Int),(0:Int),(0:Int),([]:J1),(12:Int),r4.2.2.2.1,r4.2.2.2.2.1,r4.2.2.2.2.2)) else (bif (!decide (r3=3)) then ((z100.F r4.2.2.2.1 r4.2.2.2.2.1 r4.2.2.2.2.2 r3 r5.1 r5.2.1 r5.2.2.1 ([]:J1)).bind λr7=>(bif (!decide (r7.1=0)) then (some (r7.2.2.2.2.1,r7.2.2.2.2.2.1,r7.2.2.2.2.2.2.1,r7.2.2.2.2.2.2.2.1,r7.2.2.2.2.2.2.2.2,r7.1,r7.2.1,r7.2.2.1,r7.2.2.2.1)) else (z104.j15 r7.2.1 r7.2.2.1 r7.2.2.2.1 r7.2.2.2.2.1 r7.2.2.2.2.2.1 r7.2.2.2.2.2.2.1 r7.2.2.2.2.2.2.2.1 r7.2.2.2.2.2.2.2.2))) else (z104.j15 r4.2.2.2.1 r4.2.2.2.2.1 r4.2.2.2.2.2 r3 r5.1 r5.2.1 r5.2.2.1 ([]:J1))))))))))))))
def z104.enc (r:Int×Int×Int×Int×J1×Int×J2×Int×Int):V:=(.tup [(.agg [(.int .i64 r.1),(.int .i64 r.2.1),(.int .i64 r.2.2.1),(.int .i64 r.2.2.2.1),(.str r.2.2.2.2.1)]),(.int .i64 r.2.2.2.2.2.1)])
def z104.encC (r:Int×Int×Int×Int×J1×Int×J2×Int×Int):J2:=[[(.recs false 3 r.2.2.2.2.2.2.1),(.int .i64 r.2.2.2.2.2.2.2.1),(.int .i64 r.2.2.2.2.2.2.2.2)]]
def z104.pk:J2->List V->Option Qbf
 |[[(.recs _ 3 a0),(.int .i64 a1),(.int .i64 a2)]],[(.agg [(.int .i64 a3),(.int .i64 a4),(.int .i64 a5)])]=>some ⟨Int×Int×Int×Int×J1×Int×J2×Int×Int,z104.F a0 a1 a2 a3 a4 a5,z104.enc,z104.encC⟩
 |_,_=>none
def z105.F (a0 a1:J1):Option (Bool):=
 ((z62.F a0 a1).bind λr1=>(some r1))
def z105.pack:List V->Option Pack
 |[(.str a0),(.str a1)]=>some ⟨Bool,z105.F a0 a1,z12.enc⟩
 |_=>none
def z106.F (a0:J1) (a1:Int):Option (Int):=
 ((z2.F a0 a1).bind λr1=>(some r1))
def z106.pack:List V->Option Pack
 |[(.str a0),(.int .u8 a1)]=>some ⟨Int,z106.F a0 a1,z13.enc⟩
 |_=>none
def z107.l0P (a:J1) {R:Type} (rec:(J1)->Option R) (done:(Int)->Option R):(J1)->Option R:=λb=>((z5.F b ([32,9,10,13]:J1)).bind λc=>((z105.F c ([35]:J1)).bind λd=>(bif (!d) then (done (wr .i64 ((a.length:Int)-(c.length:Int)))) else ((z106.F c 10).bind λe=>(bif (decide (e<0)) then (done (a.length:Int)) else (if 0<=e/\e<=((c).length:Int) then (rec (c.drop (e).toNat)) else none))))))
def z107.l0 (a:J1) (x:(J1)):Option ((Int)):=lfp (λrec x=>z107.l0P a rec some x) x
def z107.F (a0:J1):Option (Int):=
 ((z107.l0 a0 a0).bind λo1=>(some o1))
def z107.pack:List V->Option Pack
 |[(.str a0)]=>some ⟨Int,z107.F a0,z13.enc⟩
 |_=>none
def z108.F (a0:Int):Option (Bool):=
 (bif (decide (a0>=97)) then (some (decide (a0<=122))) else (some false))
def z108.pack:List V->Option Pack
 |[(.int .i32 a0)]=>some ⟨Bool,z108.F a0,z12.enc⟩
 |_=>none
def z109.F (a0:Int):Option (Bool):=
 (bif (decide (a0>=48)) then (some (decide (a0<=57))) else (some false))
def z109.pack:List V->Option Pack
 |[(.int .i32 a0)]=>some ⟨Bool,z109.F a0,z12.enc⟩
 |_=>none
def z110.F (a0:Int):Option (Bool):=
 ((z108.F a0).bind λr1=>(bif r1 then (some true) else ((z109.F a0).bind λr2=>(bif r2 then (some true) else (some (decide (a0=45)))))))
def z110.pack:List V->Option Pack
 |[(.int .i32 a0)]=>some ⟨Bool,z110.F a0,z12.enc⟩
 |_=>none
def z111.F (a0:Int):Option (Bool):=
 ((z109.F a0).bind λr1=>(bif r1 then (some true) else (bif (decide (a0=45)) then (some true) else (some (decide (a0=46))))))
def z111.pack:List V->Option Pack
 |[(.int .i32 a0)]=>some ⟨Bool,z111.F a0,z12.enc⟩
 |_=>none
def z112.l0P (a b:J1) {R:Type} (rec:Nat->Option R) (done:((Bool×Nat)⊕(Nat))->Option R):Nat->Option R:=λc=>(if c<b.length then ((z109.F ((Utf8.decode ⟨b.toArray⟩ c).1:Int)).bind λd=>(if 0<=((c:Nat):Int)/\((c:Nat):Int)<(a.length:Int) then ((z109.F (wr .i32 ((a.getD (((c:Nat):Int)).toNat 0).toNat:Int))).bind λe=>(bif (!decide (d=e)) then (done (.inl (false,(c+(Utf8.decode ⟨b.toArray⟩ c).2)))) else ((z109.F ((Utf8.decode ⟨b.toArray⟩ c).1:Int)).bind λg=>(bif (!g) then (if 0<=((c:Nat):Int)/\((c:Nat):Int)<(a.length:Int) then (bif (!decide ((wr .u8 ((Utf8.decode ⟨b.toArray⟩ c).1:Int))=((a.getD (((c:Nat):Int)).toNat 0).toNat:Int))) then (done (.inl (false,(c+(Utf8.decode ⟨b.toArray⟩ c).2)))) else (rec (c+(Utf8.decode ⟨b.toArray⟩ c).2))) else none) else (rec (c+(Utf8.decode ⟨b.toArray⟩ c).2)))))) else none)) else (done (.inr c)))
def z112.l0 (a b:J1) (x:Nat):Option (((Bool×Nat)⊕(Nat))):=lfp (λrec x=>z112.l0P a b rec some x) x
def z112.F (a0:J1):Option (Bool):=
 (bif (!decide ((a0.length:Int)=10)) then (some false) else ((z112.l0 a0 ([48,48,48,48,45,48,48,45,48,48]:J1) 0).bind λo1=>match o1 with | .inl p2=>(some p2.1) | .inr q3=>(some true)))
def z112.pack:List V->Option Pack
 |[(.str a0)]=>some ⟨Bool,z112.F a0,z12.enc⟩
 |_=>none
def z113.j1 (j1:Bool) (a0:Int):Option (Bool):=
 (bif j1 then (some true) else (bif (decide ((57343:Int)<a0)) then (bif (decide (a0<=1114111)) then (some true) else (some false)) else (some false)))
def z113.F (a0:Int):Option (Bool):=
 (bif (decide ((0:Int)<=a0)) then (z113.j1 (decide (a0<55296)) a0) else (z113.j1 false a0))
def z113.pack:List V->Option Pack
 |[(.int .i32 a0)]=>some ⟨Bool,z113.F a0,z12.enc⟩
 |_=>none
def z114.j1 (j1:Bool) (a0:J1) (a1:Int):Option (Int):=
 (bif j1 then ((z106.F a0 (wr .u8 a1)).bind λr2=>(some r2)) else (bif (decide (a1=65533)) then none else ((z113.F a1).bind λr3=>(bif (!r3) then (some (-1:Int)) else (bif (decide ((wr .i64 (((Utf8.encode a1).data.toList.length:Int)-1))<(a0.length:Int))) then (if 0<=(wr .i64 (((Utf8.encode a1).data.toList.length:Int)-1))/\(wr .i64 (((Utf8.encode a1).data.toList.length:Int)-1))<(a0.length:Int) then (if 0<=(wr .i64 (((Utf8.encode a1).data.toList.length:Int)-1))/\(wr .i64 (((Utf8.encode a1).data.toList.length:Int)-1))<((Utf8.encode a1).data.toList.length:Int) then (bif (!decide (((a0.getD ((wr .i64 (((Utf8.encode a1).data.toList.length:Int)-1))).toNat 0).toNat:Int)=(((Utf8.encode a1).data.toList.getD ((wr .i64 (((Utf8.encode a1).data.toList.length:Int)-1))).toNat 0).toNat:Int))) then (if 0<=(wr .i64 ((wr .i64 (((Utf8.encode a1).data.toList.length:Int)-1))+1))/\(wr .i64 ((wr .i64 (((Utf8.encode a1).data.toList.length:Int)-1))+1))<=((a0).length:Int) then (if 0<=(wr .i64 (((Utf8.encode a1).data.toList.length:Int)-1))/\(wr .i64 (((Utf8.encode a1).data.toList.length:Int)-1))<((Utf8.encode a1).data.toList.length:Int) then ((z106.F (a0.drop ((wr .i64 ((wr .i64 (((Utf8.encode a1).data.toList.length:Int)-1))+1))).toNat) (((Utf8.encode a1).data.toList.getD ((wr .i64 (((Utf8.encode a1).data.toList.length:Int)-1))).toNat 0).toNat:Int)).bind λr4=>(bif (decide (r4<0)) then (some (-1:Int)) else none)) else none) else none) else none) else none) else none) else (some (-1:Int)))))))
def z114.F (a0:J1) (a1:Int):Option (Int):=
 (bif (decide ((0:Int)<=a1)) then (z114.j1 (decide (a1<128)) a0 a1) else (z114.j1 false a0 a1))
def z114.pack:List V->Option Pack
 |[(.str a0),(.int .i32 a1)]=>some ⟨Int,z114.F a0 a1,z13.enc⟩
 |_=>none
def z115.F (a0:J1) (a1:Int):Option (Bool):=
 ((z114.F a0 a1).bind λr1=>(some (decide (r1>=0))))
def z115.pack:List V->Option Pack
 |[(.str a0),(.int .i32 a1)]=>some ⟨Bool,z115.F a0 a1,z12.enc⟩
 |_=>none
def z116.l0P (a b:J1) {R:Type} (rec:Nat->Option R) (done:((J1×Nat)⊕(Nat))->Option R):Nat->Option R:=λc=>(if c<b.length then ((z110.F ((Utf8.decode ⟨b.toArray⟩ c).1:Int)).bind λd=>(bif (!d) then (if 0<=((c:Nat):Int)/\((c:Nat):Int)<=((a).length:Int) then (done (.inl ((a.take (((c:Nat):Int)).toNat),(c+(Utf8.decode ⟨b.toArray⟩ c).2)))) else none) else (rec (c+(Utf8.decode ⟨b.toArray⟩ c).2)))) else (done (.inr c)))
def z116.l0 (a b:J1) (x:Nat):Option (((J1×Nat)⊕(Nat))):=lfp (λrec x=>z116.l0P a b rec some x) x
def z116.l0aP (a b:J1) {R:Type} (rec:Nat->Option R) (done:((J1×Nat)⊕(Nat))->Option R):Nat->Option R:=λc=>(if c<b.length then ((z111.F ((Utf8.decode ⟨b.toArray⟩ c).1:Int)).bind λd=>(bif (!d) then (if 0<=((c:Nat):Int)/\((c:Nat):Int)<=((a).length:Int) then (done (.inl ((a.take (((c:Nat):Int)).toNat),(c+(Utf8.decode ⟨b.toArray⟩ c).2)))) else none) else (rec (c+(Utf8.decode ⟨b.toArray⟩ c).2)))) else (done (.inr c)))
def z116.l0a (a b:J1) (x:Nat):Option (((J1×Nat)⊕(Nat))):=lfp (λrec x=>z116.l0aP a b rec some x) x
def z116.j6 (j6:Bool) (a0:J1):Option (Int×J1×Int×Int):=
 (bif j6 then ((z116.l0a a0 a0 0).bind λo7=>match o7 with | .inl p8=>((z112.F p8.1).bind λr10=>(bif r10 then (some ((2:Int),p8.1,(0:Int),(0:Int))) else ((z67.F p8.1).bind λr11=>(bif (!decide (r11.2.2.2=0)) then (some ((0:Int),([]:J1),(0:Int),(5:Int))) else (some ((1:Int),p8.1,(0:Int),(0:Int))))))) | .inr q9=>((z112.F a0).bind λr12=>(bif r12 then (some ((2:Int),a0,(0:Int),(0:Int))) else ((z67.F a0).bind λr13=>(bif (!decide (r13.2.2.2=0)) then (some ((0:Int),([]:J1),(0:Int),(5:Int))) else (some ((1:Int),a0,(0:Int),(0:Int)))))))) else ((z115.F ([123,125,61,59,44]:J1) (wr .i32 ((a0.getD 0 0).toNat:Int))).bind λr14=>(bif r14 then (if (0:Int)<=(1:Int)/\(1:Int)<=((a0).length:Int) then (some ((3:Int),(a0.take 1),(0:Int),(0:Int))) else none) else (some ((0:Int),([]:J1),(0:Int),(4:Int))))))
def z116.F (a0:J1):Option (Int×J1×Int×Int):=
 (if (0:Int)<=(0:Int)/\(0:Int)<(a0.length:Int) then ((z108.F (wr .i32 ((a0.getD 0 0).toNat:Int))).bind λr1=>(bif r1 then ((z116.l0 a0 a0 0).bind λo2=>match o2 with | .inl p3=>(some ((0:Int),p3.1,(0:Int),(0:Int))) | .inr q4=>(some ((0:Int),a0,(0:Int),(0:Int)))) else ((z109.F (wr .i32 ((a0.getD 0 0).toNat:Int))).bind λr5=>(bif r5 then (z116.j6 true a0) else (z116.j6 (decide ((wr .i32 ((a0.getD 0 0).toNat:Int))=45)) a0))))) else none)
def z116.enc (r:Int×J1×Int×Int):V:=(.tup [(.agg [(.int .i64 r.1),(.str r.2.1),(.int .i64 r.2.2.1)]),(.int .i64 r.2.2.2)])
def z116.pack:List V->Option Pack
 |[(.str a0)]=>some ⟨Int×J1×Int×Int,z116.F a0,z116.enc⟩
 |_=>none
def z117.l0P (a:J1) {R:Type} (rec:(Int×J2)->Option R) (done:((Int×J2)⊕(J2×Int×Int×J2))->Option R):(Int×J2)->Option R:=λx=>match x with
 |(b,c)=>(bif (decide (b<(a.length:Int))) then (if 0<=b/\b<=((a).length:Int) then ((z116.F (a.drop (b).toNat)).bind λd=>(bif (!decide (d.2.2.2=0)) then (done (.inr ([],b,d.2.2.2,c))) else (if ((c).length+(([[(.int .i64 d.1),(.str d.2.1),(.int .i64 b)]]:J2)).length)*32<=140737488355328 then (if 0<=(wr .i64 (b+(d.2.1.length:Int)))/\(wr .i64 (b+(d.2.1.length:Int)))<=((a).length:Int) then ((z107.F (a.drop ((wr .i64 (b+(d.2.1.length:Int)))).toNat)).bind λe=>(rec ((wr .i64 ((wr .i64 (b+(d.2.1.length:Int)))+e)),(c++([[(.int .i64 d.1),(.str d.2.1),(.int .i64 b)]]:J2))))) else none) else none))) else none) else (done (.inl (b,c))))
def z117.l0 (a:J1) (x:(Int×J2)):Option (((Int×J2)⊕(J2×Int×Int×J2))):=lfp (λrec x=>z117.l0P a rec some x) x
def z117.F (a0:J1):Option (J2×Int×Int):=
 (bif (decide ((a0.length:Int)>1048576)) then (some ([],(0:Int),(7:Int))) else ((z107.F a0).bind λr1=>((z117.l0 a0 (r1,[])).bind λo2=>match o2 with | .inl p3=>(some (p3.2,(0:Int),(0:Int))) | .inr q4=>(some (q4.1,q4.2.1,q4.2.2.1)))))
def z117.enc (r:J2×Int×Int):V:=(.tup [(.recs false 3 r.1),(.int .i64 r.2.1),(.int .i64 r.2.2)])
def z117.pack:List V->Option Pack
 |[(.str a0)]=>some ⟨J2×Int×Int,z117.F a0,z117.enc⟩
 |_=>none
def z118.l0P {R:Type} (rec:(J2×Int×Int×J2×Int×Int×Int)->Option R) (done:((J2×Int×Int×J2×Int×Int×Int)⊕(J2×Int×Int×J2×Int×Int×J2×Int×Int×Int))->Option R):(J2×Int×Int×J2×Int×Int×Int)->Option R:=λx=>match x with
 |(a,b,c,d,e,g,h)=>(bif (decide ((((a).length:Nat):Int)>0)) then (bif (decide ((((d).length:Nat):Int)=10000)) then (if (0:Int)<=(0:Int)/\(0:Int)<(a.length:Int) then (V.asInt .i64 (((a.getD 0 [])).getD 0 .undef) λj=>(V.asStr (((a.getD 0 [])).getD 1 .undef) λk=>(V.asInt .i64 (((a.getD 0 [])).getD 2 .undef) λm=>(bif (decide (j=0)) then (if (0:Int)<=(0:Int)/\(0:Int)<(a.length:Int) then (V.asInt .i64 (((a.getD 0 [])).getD 0 .undef) λn=>(V.asStr (((a.getD 0 [])).getD 1 .undef) λo=>(V.asInt .i64 (((a.getD 0 [])).getD 2 .undef) λp=>(done (.inr ([],p,(6:Int),a,b,c,d,e,g,h)))))) else none) else ((z104.F a b c e g h).bind λq=>(bif (!decide (q.2.2.2.2.2.1=0)) then (done (.inr ([],q.2.2.2.2.2.2.2.2,q.2.2.2.2.2.1,q.2.2.2.2.2.2.1,q.2.2.2.2.2.2.2.1,q.2.2.2.2.2.2.2.2,d,e,g,h))) else (if ((d).length+(([[(.int .i64 q.1),(.int .i64 q.2.1),(.int .i64 q.2.2.1),(.int .i64 q.2.2.2.1),(.str q.2.2.2.2.1)]]:J2)).length)*48<=140737488355328 then (rec (q.2.2.2.2.2.2.1,q.2.2.2.2.2.2.2.1,q.2.2.2.2.2.2.2.2,(d++([[(.int .i64 q.1),(.int .i64 q.2.1),(.int .i64 q.2.2.1),(.int .i64 q.2.2.2.1),(.str q.2.2.2.2.1)]]:J2)),q.2.1,q.2.2.1,q.2.2.2.1)) else none))))))) else none) else ((z104.F a b c e g h).bind λr=>(bif (!decide (r.2.2.2.2.2.1=0)) then (done (.inr ([],r.2.2.2.2.2.2.2.2,r.2.2.2.2.2.1,r.2.2.2.2.2.2.1,r.2.2.2.2.2.2.2.1,r.2.2.2.2.2.2.2.2,d,e,g,h))) else (if ((d).length+(([[(.int .i64 r.1),(.int .i64 r.2.1),(.int .i64 r.2.2.1),(.int .i64 r.2.2.2.1),(.str r.2.2.2.2.1)]]:J2)).length)*48<=140737488355328 then (rec (r.2.2.2.2.2.2.1,r.2.2.2.2.2.2.2.1,r.2.2.2.2.2.2.2.2,(d++([[(.int .i64 r.1),(.int .i64 r.2.1),(.int .i64 r.2.2.1),(.int .i64 r.2.2.2.1),(.str r.2.2.2.2.1)]]:J2)),r.2.1,r.2.2.1,r.2.2.2.1)) else none)))) else (done (.inl (a,b,c,d,e,g,h))))
def z118.l0 (x:(J2×Int×Int×J2×Int×Int×Int)):Option (((J2×Int×Int×J2×Int×Int×Int)⊕(J2×Int×Int×J2×Int×Int×J2×Int×Int×Int))):=lfp (λrec x=>z118.l0P rec some x) x
def z118.F (a0:J1):Option (J2×Int×Int):=
 ((z117.F a0).bind λr1=>(bif (!decide (r1.2.2=0)) then (some ([],r1.2.1,r1.2.2)) else ((z118.l0 (r1.1,(a0.length:Int),(0:Int),[],(0:Int),(0:Int),(0:Int))).bind λo2=>match o2 with | .inl p3=>(some (p3.2.2.2.1,(0:Int),(0:Int))) | .inr q4=>(some (q4.1,q4.2.1,q4.2.2.1)))))
def z118.enc (r:J2×Int×Int):V:=(.tup [(.recs false 5 r.1),(.int .i64 r.2.1),(.int .i64 r.2.2)])
def z118.pack:List V->Option Pack
 |[(.str a0)]=>some ⟨J2×Int×Int,z118.F a0,z118.enc⟩
 |_=>none
def z119.F:Option (Bool):=
 ((z118.F ([112,97,121,32,50,48,50,52,45,48,50,45,48,49,32,100,117,101,59,32,114,101,115,101,116,32,50,48,50,52,45,48,51,45,49,53,32,53,46,53,59]:J1)).bind λr1=>((z97.F r1.1).bind λr2=>((z118.F ([112,97,115,115,32,50,48,50,52,45,48,50,45,48,49,59,32,112,97,115,115,32,50,48,50,52,45,48,49,45,48,49,59]:J1)).bind λr3=>(bif (decide (r1.2.2=0)) then (bif (decide (r1.2.1=0)) then (bif (decide ((((r1.1).length:Nat):Int)=2)) then (if (0:Int)<=(0:Int)/\(0:Int)<(r1.1.length:Int) then (V.asInt .i64 (((r1.1.getD 0 [])).getD 0 .undef) λc4=>(V.asInt .i64 (((r1.1.getD 0 [])).getD 1 .undef) λc5=>(V.asInt .i64 (((r1.1.getD 0 [])).getD 2 .undef) λc6=>(V.asInt .i64 (((r1.1.getD 0 [])).getD 3 .undef) λc7=>(V.asStr (((r1.1.getD 0 [])).getD 4 .undef) λc8=>(bif (decide (c8=([100,117,101]:J1))) then (if (0:Int)<=(1:Int)/\(1:Int)<(r1.1.length:Int) then (V.asInt .i64 (((r1.1.getD 1 [])).getD 0 .undef) λc9=>(V.asInt .i64 (((r1.1.getD 1 [])).getD 1 .undef) λc10=>(V.asInt .i64 (((r1.1.getD 1 [])).getD 2 .undef) λc11=>(V.asInt .i64 (((r1.1.getD 1 [])).getD 3 .undef) λc12=>(V.asStr (((r1.1.getD 1 [])).getD 4 .undef) λc13=>(bif (decide (c9=2)) then (bif (decide (r2.1=([112,97,121,32,50,48,50,52,45,48,50,45,48,49,32,100,117,101,59,10,114,101,115,101,116,32,50,48,50,52,45,48,51,45,49,53,32,53,46,53,59,10]:J1))) then (bif (decide (r2.2=0)) then (bif (decide (r3.2.1=22)) then (some (decide (r3.2.2=12))) else (some false)) else (some false)) else (some false)) else (some false))))))) else none) else (some false))))))) else none) else (some false)) else (some false)) else (some false)))))
def z119.pack:List V->Option Pack
 |[]=>some ⟨Bool,z119.F,z12.enc⟩
 |_=>none
def z120.l0P (a b:J2) (c:Int) {R:Type} (rec:Int->Option R) (done:((Int)⊕(Bool))->Option R):Int->Option R:=λd=>(bif (decide (d<c)) then (if 0<=d/\d<(a.length:Int) then (V.asInt .i64 (((a.getD (d).toNat [])).getD 0 .undef) λe=>(V.asInt .i64 (((a.getD (d).toNat [])).getD 1 .undef) λg=>(V.asInt .i64 (((a.getD (d).toNat [])).getD 2 .undef) λh=>(V.asInt .i64 (((a.getD (d).toNat [])).getD 3 .undef) λj=>(V.asStr (((a.getD (d).toNat [])).getD 4 .undef) λk=>(if 0<=d/\d<(b.length:Int) then (V.asInt .i64 (((b.getD (d).toNat [])).getD 0 .undef) λm=>(V.asInt .i64 (((b.getD (d).toNat [])).getD 1 .undef) λn=>(V.asInt .i64 (((b.getD (d).toNat [])).getD 2 .undef) λo=>(V.asInt .i64 (((b.getD (d).toNat [])).getD 3 .undef) λp=>(V.asStr (((b.getD (d).toNat [])).getD 4 .undef) λq=>(bif (!(decide (e=m)&&((decide (g=n)&&(decide (h=o)&&decide (j=p)))&&decide (k=q)))) then (done (.inr false)) else (rec (wr .i64 (d+1))))))))) else none)))))) else none) else (done (.inl d)))
def z120.l0 (a b:J2) (c x:Int):Option (((Int)⊕(Bool))):=lfp (λrec x=>z120.l0P a b c rec some x) x
def z120.F (a0 a1:J2):Option (Bool):=
 (bif (!decide ((((a0).length:Nat):Int)=(((a1).length:Nat):Int))) then (some false) else ((z120.l0 a0 a1 (((a0).length:Nat):Int) 0).bind λo1=>match o1 with | .inl p2=>(some true) | .inr q3=>(some q3)))
def z120.pack:List V->Option Pack
 |[(.recs _ 5 a0),(.recs _ 5 a1)]=>some ⟨Bool,z120.F a0 a1,z12.enc⟩
 |_=>none
def z121.F (a0 a1:J1):Option (Bool):=
 (bif (decide ((a0.length:Int)>=(a1.length:Int))) then (if 0<=(wr .i64 ((a0.length:Int)-(a1.length:Int)))/\(wr .i64 ((a0.length:Int)-(a1.length:Int)))<=((a0).length:Int) then (some (decide ((a0.drop ((wr .i64 ((a0.length:Int)-(a1.length:Int)))).toNat)=a1))) else none) else (some false))
def z121.pack:List V->Option Pack
 |[(.str a0),(.str a1)]=>some ⟨Bool,z121.F a0 a1,z12.enc⟩
 |_=>none
def z122.F (a0 a1:J1):Option (Bool):=
 ((z121.F a0 a1).bind λr1=>(some r1))
def z122.pack:List V->Option Pack
 |[(.str a0),(.str a1)]=>some ⟨Bool,z122.F a0 a1,z12.enc⟩
 |_=>none
def z123.l0P (a:J1) {R:Type} (rec done:(Int×Nat)->Option R):(Int×Nat)->Option R:=λx=>match x with
 |(b,c)=>(if c<a.length then (rec ((wr .i64 (b+1)),(c+(Utf8.decode ⟨a.toArray⟩ c).2))) else (done (b,c)))
def z123.l0 (a:J1) (x:(Int×Nat)):Option ((Int×Nat)):=lfp (λrec x=>z123.l0P a rec some x) x
def z123.F (a0:J1):Option (Int):=
 ((z123.l0 a0 ((0:Int),0)).bind λo1=>(some o1.1))
def z123.pack:List V->Option Pack
 |[(.str a0)]=>some ⟨Int,z123.F a0,z13.enc⟩
 |_=>none
def z124.j1 (j1:Bool) (a1 a0:J1):Option (Int):=
 (bif j1 then (some 0) else (bif (decide ((a1.length:Int)=1)) then (if (0:Int)<=(0:Int)/\(0:Int)<(a1.length:Int) then ((z2.F a0 ((a1.getD 0 0).toNat:Int)).bind λr2=>(some r2)) else none) else (bif (decide ((a1.length:Int)>=(a0.length:Int))) then (some (-1:Int)) else none)))
def z124.F (a0 a1:J1):Option (Int):=
 (bif (decide ((a1.length:Int)=0)) then (z124.j1 true a1 a0) else (z124.j1 (decide (a1=a0)) a1 a0))
def z124.pack:List V->Option Pack
 |[(.str a0),(.str a1)]=>some ⟨Int,z124.F a0 a1,z13.enc⟩
 |_=>none
def z125.l0P (a:J1) {R:Type} (rec:(J1×Int)->Option R) (done:(Int)->Option R):(J1×Int)->Option R:=λx=>match x with
 |(b,c)=>((z124.F b a).bind λd=>(bif (decide (d=(-1:Int))) then (done c) else (if 0<=(wr .i64 (d+(a.length:Int)))/\(wr .i64 (d+(a.length:Int)))<=((b).length:Int) then (rec ((b.drop ((wr .i64 (d+(a.length:Int)))).toNat),(wr .i64 (c+1)))) else none)))
def z125.l0 (a:J1) (x:(J1×Int)):Option ((Int)):=lfp (λrec x=>z125.l0P a rec some x) x
def z125.F (a0 a1:J1):Option (Int):=
 (bif (decide ((a1.length:Int)=0)) then ((z123.F a0).bind λr1=>(some (wr .i64 (r1+1)))) else (bif (decide ((a1.length:Int)=1)) then (if (0:Int)<=(0:Int)/\(0:Int)<(a1.length:Int) then ((z3.F a0 ((a1.getD 0 0).toNat:Int)).bind λr2=>(some r2)) else none) else ((z125.l0 a1 (a0,(0:Int))).bind λo3=>(some o3))))
def z125.pack:List V->Option Pack
 |[(.str a0),(.str a1)]=>some ⟨Int,z125.F a0 a1,z13.enc⟩
 |_=>none
def z126.l0P (a:J1) (b c:Int) {R:Type} (rec done:(J1×Int×(List J1))->Option R):(J1×Int×(List J1))->Option R:=λx=>match x with
 |(d,e,g)=>(bif (decide (e<c)) then ((z124.F d a).bind λh=>(bif (decide (h<0)) then (done (d,e,g)) else (if 0<=(wr .i64 (h+b))/\(wr .i64 (h+b))<=((d).length:Int) then (if 0<=e/\e<(g.length:Int) then (if (e).toNat<g.length then (if 0<=(wr .i64 (h+(a.length:Int)))/\(wr .i64 (h+(a.length:Int)))<=((d).length:Int) then (rec ((d.drop ((wr .i64 (h+(a.length:Int)))).toNat),(wr .i64 (e+1)),(g.set (e).toNat (d.take ((wr .i64 (h+b))).toNat)))) else none) else none) else none) else none))) else (done (d,e,g)))
def z126.l0 (a:J1) (b c:Int) (x:(J1×Int×(List J1))):Option ((J1×Int×(List J1))):=lfp (λrec x=>z126.l0P a b c rec some x) x
def z126.j5 (r2:J2) (r3:J1×Int) (a6:Int):Option (Bool):=
 (bif (decide ((((r2).length:Nat):Int)=0)) then (some (decide (r3.1=([]:J1)))) else ((z125.F r3.1 ([10]:J1)).bind λr6=>(if 0<=(if (wr .i64 ((r3.1.length:Int)+1))<(wr .i64 (r6+1)) then (wr .i64 ((r3.1.length:Int)+1)) else (wr .i64 (r6+1)))/\(if (wr .i64 ((r3.1.length:Int)+1))<(wr .i64 (r6+1)) then (wr .i64 ((r3.1.length:Int)+1)) else (wr .i64 (r6+1)))*16<=140737488355328 then ((z126.l0 ([10]:J1) 1 (wr .i64 ((if (wr .i64 ((r3.1.length:Int)+1))<(wr .i64 (r6+1)) then (wr .i64 ((r3.1.length:Int)+1)) else (wr .i64 (r6+1)))-1)) (r3.1,(0:Int),(List.replicate ((if (wr .i64 ((r3.1.length:Int)+1))<(wr .i64 (r6+1)) then (wr .i64 ((r3.1.length:Int)+1)) else (wr .i64 (r6+1)))).toNat ([]:J1)))).bind λo7=>(if 0<=o7.2.1/\o7.2.1<(o7.2.2.length:Int) then (if (o7.2.1).toNat<o7.2.2.length then (if 0<=(wr .i64 (o7.2.1+1))/\(wr .i64 (o7.2.1+1))<=(((o7.2.2.set (o7.2.1).toNat o7.1)).length:Int) then (if (((r2).length:Nat):Int)=0 then none else (if ((wr .i64 (o7.2.1+1))).toNat*16<=140737488355328 then ((z8.F (((o7.2.2.set (o7.2.1).toNat o7.1).drop 0).take ((wr .i64 (o7.2.1+1))).toNat) (Int.tmod (wr .i64 a6) (((r2).length:Nat):Int)) (wr .i64 ((Int.tmod (wr .i64 a6) (((r2).length:Nat):Int))+1))).bind λr8=>((z7.F r8 ([]:J1)).bind λr9=>((z118.F r9).bind λr10=>(if 0<=(wr .i64 ((((r2).length:Nat):Int)-1))/\(wr .i64 ((((r2).length:Nat):Int)-1))<(r2.length:Int) then (V.asInt .i64 (((r2.getD ((wr .i64 ((((r2).length:Nat):Int)-1))).toNat [])).getD 0 .undef) λc11=>(V.asInt .i64 (((r2.getD ((wr .i64 ((((r2).length:Nat):Int)-1))).toNat [])).getD 1 .undef) λc12=>(V.asInt .i64 (((r2.getD ((wr .i64 ((((r2).length:Nat):Int)-1))).toNat [])).getD 2 .undef) λc13=>(V.asInt .i64 (((r2.getD ((wr .i64 ((((r2).length:Nat):Int)-1))).toNat [])).getD 3 .undef) λc14=>(V.asStr (((r2.getD ((wr .i64 ((((r2).length:Nat):Int)-1))).toNat [])).getD 4 .undef) λc15=>(if 0<=(((r2).length:Nat):Int)/\(((r2).length:Nat):Int)<=(((r2).length:Nat):Int)/\(((r2).length:Nat):Int)<=(r2.length:Int) then (if (((r2.take ((((r2).length:Nat):Int)).toNat)).length+(([[(.int .i64 2),(.int .i64 c12),(.int .i64 c13),(.int .i64 c14),(.str ([55,46,50,53]:J1))]]:J2)).length)*48<=140737488355328 then (bif (decide ((((r2).length:Nat):Int)=(((r2).length:Nat):Int))) then ((z97.F ((r2.take ((((r2).length:Nat):Int)).toNat)++([[(.int .i64 2),(.int .i64 c12),(.int .i64 c13),(.int .i64 c14),(.str ([55,46,50,53]:J1))]]:J2))).bind λr16=>(bif (decide (r10.2.2=0)) then (if (r2).length*48<=140737488355328 then ((z9.F r2 (Int.tmod (wr .i64 a6) (((r2).length:Nat):Int)) (wr .i64 ((Int.tmod (wr .i64 a6) (((r2).length:Nat):Int))+1))).bind λr17=>((z120.F r10.1 r17).bind λr18=>(bif r18 then (bif (decide (r16.2=0)) then ((z105.F r16.1 r3.1).bind λr19=>(bif r19 then ((z122.F r16.1 ([32,55,46,50,53,59,10]:J1)).bind λr20=>(bif r20 then ((z125.F r16.1 ([10]:J1)).bind λr21=>(some (decide (r21=(wr .i64 ((((r2).length:Nat):Int)+1)))))) else (some false))) else (some false))) else (some false)) else (some false)))) else none) else (some false))) else none) else none) else none)))))) else none)))) else none)) else none) else none) else none)) else none)))
def z126.F (a0 a1 a2:Int) (a3 a4 a5:J0) (a6:Int):Option (Bool):=
 ((z20.F a0 a1 a2 a3 a4 a5).bind λr1=>((z18.F a0 a1 a2 a3 a4 a5 r1.1 r1.2.1 r1.2.2).bind λr2=>((z97.F r2).bind λr3=>(z119.F.bind λr4=>(bif (!r4) then (some false) else (bif (!decide (r3.2=0)) then (some false) else (z126.j5 r2 r3 a6)))))))
def z126.pack:List V->Option Pack
 |[(.agg [(.int .i64 a0),(.int .i64 a1),(.int .i64 a2),(.ints _ .u8 a3),(.ints _ .u8 a4),(.ints _ .u32 a5)]),(.int .u8 a6)]=>some ⟨Bool,z126.F a0 a1 a2 a3 a4 a5 a6,z12.enc⟩
 |_=>none
def z127.l0P (a:J0) {R:Type} (rec:Int->Option R) (done:(Int)->Option R):Int->Option R:=λb=>(bif (decide (b>0)) then (if 0<=(wr .i64 (b-1))/\(wr .i64 (b-1))<(a.length:Int) then (bif (decide ((a.getD ((wr .i64 (b-1))).toNat 0)=0)) then (rec (wr .i64 (b-1))) else (done b)) else none) else (done b))
def z127.l0 (a:J0) (x:Int):Option ((Int)):=lfp (λrec x=>z127.l0P a rec some x) x
def z127.F (a0:J0):Option (J0):=
 ((z127.l0 a0 (((a0).length:Nat):Int)).bind λo1=>(if 0<=o1/\o1<=(a0.length:Int) then (some (a0.take (o1).toNat)) else none))
end
end Go.Proofs.YtihfdjkjpncjfaaGreatDoor.A
end
section
set_option maxRecDepth 100000
namespace Go.Proofs.YtihfdjkjpncjfaaGreatDoor.A
open Go
noncomputable section
def z8.C:Ctx where
 T:=tab
 draws:=λf i=>match f,i with|53,5=>([(21,[(0,8)],0),(22,[(1,0)],0),(23,[(20,1),(21,2)],3),(24,[(0,8)],0),(25,[(2,0)],0),(26,[(23,4),(24,5)],24),(27,[(22,3),(25,6)],63),(1,[(26,7)],127)],133169153)|_,_=>([],0)
 keeps:=λd=>match d with|26=>true|_=>false
def z8.dec:V->Option ((List J1))
 |(.strs _ x0)=>some x0
 |_=>none
theorem z8.link (a0:List J1) (a1 a2:Int):z8.C.evRow 53 (ifun Tryz.f53) 9 (.strs false a0) [(.int .i64 a1),(.int .i64 a2)] z8.dec=z8.F a0 a1 a2:=by kernel_rfl
def z9.C:Ctx where
 T:=tab
 draws:=λf i=>match f,i with|56,5=>([(21,[(0,8)],0),(22,[(1,0)],0),(23,[(20,1),(21,2)],3),(24,[(0,8)],0),(25,[(2,0)],0),(26,[(23,4),(24,5)],24),(27,[(22,3),(25,6)],63),(1,[(26,7)],127)],133169153)|_,_=>([],0)
 keeps:=λd=>match d with|26=>true|_=>false
def z9.dec:V->Option (J2)
 |(.recs _ 5 x0)=>some x0
 |_=>none
theorem z9.link (a0:J2) (a1 a2:Int):z9.C.evRow 56 (ifun Tryz.f56) 85 (.recs false 5 a0) [(.int .i64 a1),(.int .i64 a2)] z9.dec=z9.F a0 a1 a2:=by kernel_rfl
def z17.C:Ctx where
 T:=tab
 call:=Qh [(111,z16.pack),(35,z15.pack)]
def z17.dec:V->Option (J0×Bool)
 |(.agg [(.ints _ .i64 x0),(.bool x1)])=>some (x0,x1)
 |_=>none
theorem z17.link (a0:Int):z17.C.evTop 64 (ifun Tryz.f64) [(.int .i64 a0)] z17.dec=z17.F a0:=by kernel_rfl
def z20.C:Ctx where
 T:=tab
 call:=Qh [(62,z19.pack)]
def z20.dec:V->Option (Int×Int×Int)
 |(.agg [(.int .i64 x0),(.int .i64 x1),(.int .i64 x2)])=>some (x0,x1,x2)
 |_=>none
theorem z20.link (a0 a1 a2:Int) (a3 a4 a5:J0):z20.C.evTop 47 (ifun Tryz.f47) [(.agg [(.int .i64 a0),(.int .i64 a1),(.int .i64 a2),(.ints false .u8 a3),(.ints false .u8 a4),(.ints false .u32 a5)])] z20.dec=z20.F a0 a1 a2 a3 a4 a5:=by kernel_rfl
def z23.l0sh:Env×Store:=(.undef :: .undef::(.int .i64 0)::(.int .i64 0) :: .undef :: .undef::(.ints false .i64 [])::(.int .i64 0)::(.int .i64 0)::un 9 [],[])
def z23.l0so1:Env×Store:=(.undef :: .undef::(.int .i64 0)::un 15 [],[])
def z23.l0out0 (a b:Int) (c:J0) (d e o:Int):X×Env×Store:=((.exit 0),Qb z23.l0sh [.i a,.i b,.li c,.i d,.i o])
def z23.l0out1 (a b:Int) (c:J0) (d e o:Int):X×Env×Store:=(.ret,Qb z23.l0so1 [.i o])
def z23.l0pack:List Leaf->Option LPack
 |[.i a,.i b,.li c,.i d,.i e]=>some (.two _ _ (z23.l0 b c d e) (z23.l0out0 a b c d e) (z23.l0out1 a b c d e))
 |_=>none
def z23.C:Ctx where
 T:=tab
 keep:=λf i=>match f,i with|210,0=>([2,3,6,7,8],[],[])|_,_=>([],[],[])
 keepR:=λf i=>match f,i with|210,0=>([2],[],[2])|_,_=>([],[],[])
 L:=λf i b st=>match f,i,b with|210,0,0=>(matchSt z23.l0sh st).bind z23.l0pack|_,_,_=>none
def z23.dec:V->Option (Int)
 |(.int .i64 x0)=>some x0
 |_=>none
theorem z23.l0_link (R:Type) (k:Env×Store->Option R) (d:X×Env×Store->Option R) (a b:Int) (c:J0) (e g:Int) :
  z23.C.loopP 210 0 (Qf 0 (ifun Tryz.f210).body) 0 k d (Qb z23.l0sh [.i a,.i b,.li c,.i e,.i g]) =
  z23.l0P b c e (λx'=>k (Qb z23.l0sh [.i a,.i b,.li c,.i e,.i x'])) (λo=>match o with | .inl o=>d (z23.l0out0 a b c e g o) | .inr o=>d (z23.l0out1 a b c e g o)) g:=by kernel_rfl
theorem z23.link (a0:J0):z23.C.evTop 210 (ifun Tryz.f210) [(.ints false .i64 a0)] z23.dec=z23.F a0:=by kernel_rfl
def z25.C:Ctx where
 T:=tab
def z25.dec:V->Option (Bool)
 |(.bool x0)=>some x0
 |_=>none
theorem z25.link (a0:Int):z25.C.evTop 248 (ifun Tryz.f248) [(.int .i64 a0)] z25.dec=z25.F a0:=by kernel_rfl
def z26.C:Ctx where
 T:=tab
 call:=Qh [(248,z25.pack)]
theorem z26.link (a0:Int):z26.C.evTop 249 (ifun Tryz.f249) [(.int .i64 a0)] z25.dec=z26.F a0:=by kernel_rfl
def z27.C:Ctx where
 T:=tab
 call:=Qh [(248,z25.pack),(249,z26.pack)]
theorem z27.link (a0 a1:Int):z27.C.evTop 183 (ifun Tryz.f183) [(.int .i64 a0),(.int .i64 a1)] z23.dec=z27.F a0 a1:=by kernel_rfl
def z28.C:Ctx where
 T:=tab
 draws:=λf i=>match f,i with|181,1=>([(4,[(1,0)],0),(5,[(3,1)],1),(6,[(4,2)],3),(7,[(5,3)],7),(8,[(1,0),(6,4)],15),(9,[(7,5),(6,4)],31),(10,[(1,0),(6,4)],15),(11,[(9,7),(6,4)],79),(12,[(1,0),(6,4)],15),(13,[(11,9),(6,4)],271),(14,[(10,8),(12,10),(6,4)],975),(15,[(8,6),(13,11),(6,4)],2047),(16,[(6,4),(14,12)],4095)],65528)|_,_=>([],0)
 call:=Qh [(183,z27.pack)]
theorem z28.link (a0 a1 a2:Int):z28.C.evTop 181 (ifun Tryz.f181) [(.agg [(.int .i64 a0),(.int .i64 a1),(.int .i64 a2)])] z23.dec=z28.F a0 a1 a2:=by kernel_rfl
def z31.C:Ctx where
 T:=tab
 draws:=λf i=>match f,i with|32,1=>([(6,[(2,0)],0),(7,[(1,0)],0),(8,[(6,2)],2),(9,[(2,0),(7,3)],6),(10,[(8,4),(7,3)],14),(11,[(9,5),(7,3)],30),(12,[(7,3),(10,6)],62),(13,[(5,1),(11,7)],127),(0,[(4,0),(12,8)],255)],8160)|_,_=>([],0)
 call:=Qh [(75,z29.pack)]
def z31.dec:V->Option (J0×Bool)
 |(.agg [(.ints _ .u64 x0),(.bool x1)])=>some (x0,x1)
 |_=>none
theorem z31.link (a0:J0) (a1:Bool):z31.C.evTop 32 (ifun Tryz.f32) [(.agg [(.ints false .u64 a0)]),(.bool a1)] z31.dec=z31.F a0 a1:=by kernel_rfl
def z36.C:Ctx where
 T:=tab
 call:=Qh [(32,z31.pack)]
theorem z36.link (a0:J0) (a1:Bool):z36.C.evTop 81 (ifun Tryz.f81) [(.agg [(.ints false .u64 a0),(.bool a1)])] z31.dec=z36.F a0 a1:=by kernel_rfl
def z42.l0sh:Env×Store:=(.undef :: .undef::(.ptr 0 0)::(.ptr 1 0)::(.ptr 2 0)::(.bool false)::(.sref 3 0)::(.int .u64 0)::un 11 ((.int .i64 0)::(.int .i64 0)::un 21 []),[(.cells 37 [(.ints false .u64 [])]),(.cells 37 [(.ints false .u64 [])]),(.cells 37 [(.ints false .u64 [])]),(.arr 0 false 63 (.ints false .u64 []))])
def z42.l0out0 (a:Bool) (c d e:Int) (g h j k:J0) (o:Int×Int×J0):X×Env×Store:=((.exit 0),Qb z42.l0sh [.b a,.i o.1,.i d,.i o.2.1,.li g,.li h,.li j,.li o.2.2])
def z42.l0pack:List Leaf->Option LPack
 |[.b a,.i c,.i d,.i e,.li g,.li h,.li j,.li k]=>some (.one _ (z42.l0 d g h (c,e,k)) (z42.l0out0 a c d e g h j k))
 |_=>none
def z42.C:Ctx where
 T:=tab
 draws:=λf i=>match f,i with|69,8=>([(25,[(6,0)],0),(26,[(8,0)],0),(27,[(2,0)],0),(28,[(26,3)],4),(29,[(8,0)],0),(30,[(27,4),(28,5)],28),(31,[(29,6)],60),(32,[(3,0)],0),(33,[(8,0)],0),(34,[(31,8),(32,9)],384),(35,[(7,18)],0),(36,[(30,7),(33,10),(34,11)],2044),(24,[(35,12)],4092),(37,[(23,13)],8188),(38,[(23,13)],8188),(39,[(24,1),(25,2)],16383),(0,[(38,16),(36,14)],49151),(8,[(37,15)],131071)],549747425408)|_,_=>([],0)
 call:=Qh [(140,z41.pack),(139,z38.pack),(141,z1.pack),(107,z32.pack)]
 keep:=λf i=>match f,i with|69,0=>([2,3,4,5,6,7,19,20],[0,1,2,3],[])|_,_=>([],[],[])
 keepR:=λf i=>match f,i with|69,0=>([4,5],[0,1,2,3],[4,5])|_,_=>([],[],[])
 L:=λf i b st=>match f,i,b with|69,0,0=>(matchSt z42.l0sh st).bind z42.l0pack|_,_,_=>none
def z42.dec:V->Option (J0×Bool)
 |(.tup [(.agg [(.ints _ .u64 x0)]),(.bool x1)])=>some (x0,x1)
 |_=>none
theorem z42.l0_link (R:Type) (k:Env×Store->Option R) (d:X×Env×Store->Option R) (a:Bool) (c e g:Int) (h j m n:J0) :
  z42.C.loopP 69 0 (Qf 0 (ifun Tryz.f69).body) 4 k d (Qb z42.l0sh [.b a,.i c,.i e,.i g,.li h,.li j,.li m,.li n]) =
  z42.l0P e h j (λx'=>k (Qb z42.l0sh [.b a,.i x'.1,.i e,.i x'.2.1,.li h,.li j,.li m,.li x'.2.2])) (λo=>d (z42.l0out0 a c e g h j m n o)) (c,g,n):=by kernel_rfl
theorem z42.link (a0 a1:J0):z42.C.evTop 69 (ifun Tryz.f69) [(.agg [(.ints false .u64 a0)]),(.agg [(.ints false .u64 a1)])] z42.dec=z42.F a0 a1:=by kernel_rfl
def z44.C:Ctx where
 T:=tab
theorem z44.link (a0:Int):z44.C.evTop 324 (ifun Tryz.f324) [(.int .u64 a0)] z23.dec=z44.F a0:=by kernel_rfl
def z49.l0sh:Env×Store:=(un 4 ((.ptr 1 0)::(.int .i64 0)::(.sview 4 0 0 0)::(.int .u64 0)::un 17 ((.int .i64 0)::(.int .i64 0)::un 31 [])),[.dead,(.cells 37 [(.ints false .u64 [])]),.dead,.dead,(.arr 0 true 63 (.ints false .u64 []))])
def z49.l0out0 (a:Int) (b c:Nat) (d e g:Int) (h j:J0) (o:Int×J0):X×Env×Store:=((.exit 0),Qb z49.l0sh [.i a,.n b,.n c,.i d,.i e,.i o.1,.li h,.li o.2])
def z49.l0pack:List Leaf->Option LPack
 |[.i a,.n b,.n c,.i d,.i e,.i g,.li h,.li j]=>some (.one _ (z49.l0 b c d e (g,j)) (z49.l0out0 a b c d e g h j))
 |_=>none
def z49.C:Ctx where
 T:=tab
 draws:=λf i=>match f,i with|291,11=>([(42,[(6,0)],0),(43,[(8,0)],0),(44,[(41,1),(42,2)],3),(45,[(43,3)],7),(46,[(6,0)],0),(47,[(8,0)],0),(48,[(46,6)],32),(49,[(45,5),(47,7)],112),(50,[(48,8)],240),(51,[(7,0)],0),(52,[(50,10)],512),(53,[(49,9),(51,11)],2032),(54,[(44,4),(52,12)],4095),(55,[(41,1),(42,2)],8191),(0,[(54,14),(53,13)],16383)],36026597995708416)|_,_=>([],0)
 call:=Qh [(325,z48.pack),(33,z33.pack)]
 inl:=λg=>match g with|143=>some (ifun Tryz.f143)|_=>none
 rank:=λg=>match g with|143=>1|_=>0
 prim:=λg=>match g with|108=>some (cloneP (.ints true .u64 []) 63 8)|_=>none
 keep:=λf i=>match f,i with|291,0=>([4,5,6,7,25,26],[1,4],[])|_,_=>([],[],[])
 keepR:=λf i=>match f,i with|291,0=>([4,5],[1,4],[4,5])|_,_=>([],[],[])
 L:=λf i b st=>match f,i,b with|291,0,0=>(matchSt z49.l0sh st).bind z49.l0pack|_,_,_=>none
def z49.dec:V->Option (J0×Int)
 |(.tup [(.agg [(.ints _ .u64 x0)]),(.int .i64 x1)])=>some (x0,x1)
 |_=>none
theorem z49.l0_link (R:Type) (k:Env×Store->Option R) (d:X×Env×Store->Option R) (a:Int) (b c:Nat) (e g h:Int) (j m:J0) :
  z49.C.loopP 291 0 (Qf 0 (ifun Tryz.f291).body) 5 k d (Qb z49.l0sh [.i a,.n b,.n c,.i e,.i g,.i h,.li j,.li m]) =
  z49.l0P b c e g (λx'=>k (Qb z49.l0sh [.i a,.n b,.n c,.i e,.i g,.i x'.1,.li j,.li x'.2])) (λo=>d (z49.l0out0 a b c e g h j m o)) (h,m):=by kernel_rfl
theorem z49.link (a0:J0) (a1:Int):z49.C.evTop 291 (ifun Tryz.f291) [(.agg [(.ints false .u64 a0)]),(.int .i64 a1)] z49.dec=z49.F a0 a1:=by kernel_rfl
def z51.l0sh:Env×Store:=(.undef::(.int .u64 0) :: .undef :: .undef::(.sref 2 0)::(.sref 3 0)::un 6 ((.ints false .u64 [])::(.int .i64 0)::(.int .i64 0)::un 23 []),[(.arr 0 true 63 (.ints false .u64 [])),(.arr 0 true 63 (.ints false .u64 [])),(.arr 0 true 63 (.ints false .u64 [])),(.arr 0 false 63 (.ints false .u64 []))])
def z51.l0out0 (a:Int) (b:J0) (c d:Int) (e g h j:J0) (o:Int×J0):X×Env×Store:=((.exit 0),Qb z51.l0sh [.i a,.li b,.i c,.i o.1,.li e,.li g,.li h,.li o.2])
def z51.l0pack:List Leaf->Option LPack
 |[.i a,.li b,.i c,.i d,.li e,.li g,.li h,.li j]=>some (.one _ (z51.l0 a b c (d,j)) (z51.l0out0 a b c d e g h j))
 |_=>none
def z51.l0ash:Env×Store:=(.undef::(.int .u64 0) :: .undef :: .undef::(.sref 4 0)::(.sref 5 0)::un 6 ((.ints false .u64 [])::(.int .i64 0)::(.int .i64 0)::un 23 []),[(.arr 0 true 63 (.ints false .u64 [])),(.arr 0 true 63 (.ints false .u64 [])),(.arr 0 true 63 (.ints false .u64 [])),(.arr 0 false 63 (.ints false .u64 [])),(.arr 0 true 63 (.ints false .u64 [])),(.arr 0 false 63 (.ints false .u64 []))])
def z51.l0aout0 (a:Int) (b:J0) (c d:Int) (e g h j k m:J0) (o:Int×J0):X×Env×Store:=((.exit 0),Qb z51.l0ash [.i a,.li b,.i c,.i o.1,.li e,.li g,.li h,.li j,.li k,.li o.2])
def z51.l0apack:List Leaf->Option LPack
 |[.i a,.li b,.i c,.i d,.li e,.li g,.li h,.li j,.li k,.li m]=>some (.one _ (z51.l0a a b c (d,m)) (z51.l0aout0 a b c d e g h j k m))
 |_=>none
def z51.l0b3sh:Env×Store:=((.sview 3 0 0 0)::(.sview 5 0 0 0)::(.int .u64 0)::un 3 ((.int .u64 0)::(.int .u64 0)::(.int .u64 0)::un 5 ((.sview 5 0 0 0)::(.int .i64 0)::(.int .i64 0)::un 49 [])),[(.arr 0 true 63 (.ints false .u64 [])),(.arr 0 true 63 (.ints false .u64 [])),.dead,(.arr 0 false 63 (.ints false .u64 [])),.dead,(.arr 0 false 63 (.ints false .u64 [])),(.arr 0 false 63 (.ints false .u64 []))])
def z51.l0b3out0 (a b c d:Nat) (e g h j:Int) (k m:Nat) (p q:Int) (r s t u v:J0) (o:Int×Int×Int×J0):X×Env×Store:=((.exit 0),Qb z51.l0b3sh [.n a,.n b,.n c,.n d,.i e,.i g,.i o.1,.i o.2.1,.n k,.n m,.i p,.i o.2.2.1,.li r,.li s,.li o.2.2.2,.li u,.li v])
def z51.l0b3pack:List Leaf->Option LPack
 |[.n a,.n b,.n c,.n d,.i e,.i g,.i h,.i j,.n k,.n m,.i o,.i p,.li q,.li r,.li s,.li t,.li u]=>some (.one _ (z51.l0b3 a b e k m o t (h,j,p,s)) (z51.l0b3out0 a b c d e g h j k m o p q r s t u))
 |_=>none
def z51.l0b4sh:Env×Store:=((.sview 3 0 0 0)::(.sview 5 0 0 0) :: .undef :: .undef::(.int .u64 0) :: .undef :: .undef::(.sview 5 0 0 0)::(.int .i64 0)::(.int .i64 0)::un 26 [],[(.arr 0 true 63 (.ints false .u64 [])),(.arr 0 true 63 (.ints false .u64 [])),.dead,(.arr 0 false 63 (.ints false .u64 [])),.dead,(.arr 0 false 63 (.ints false .u64 [])),(.arr 0 false 63 (.ints false .u64 []))])
def z51.l0b4out0 (a b c d:Nat) (e:Int) (g h:Nat) (j k:Int) (m p q r s:J0) (o:Int×Int×J0):X×Env×Store:=((.exit 0),Qb z51.l0b4sh [.n a,.n b,.n c,.n d,.i o.1,.n g,.n h,.i j,.i o.2.1,.li m,.li p,.li o.2.2,.li r,.li s])
def z51.l0b4pack:List Leaf->Option LPack
 |[.n a,.n b,.n c,.n d,.i e,.n g,.n h,.i j,.i k,.li m,.li o,.li p,.li q,.li r]=>some (.one _ (z51.l0b4 a b g h j q (e,k,p)) (z51.l0b4out0 a b c d e g h j k m o p q r))
 |_=>none
def z51.l2sh:Env×Store:=((.sref 3 0)::(.sview 5 0 0 0) :: .undef :: .undef::(.sref 0 0)::(.sref 1 0)::(.int .u64 0)::(.sref 6 0)::(.int .i64 0)::(.sview 3 0 0 0)::(.int .u64 0)::(.int .u64 0)::un 75 [],[(.arr 0 true 63 (.ints false .u64 [])),(.arr 0 true 63 (.ints false .u64 [])),.dead,(.arr 0 false 63 (.ints false .u64 [])),.dead,(.arr 0 false 63 (.ints false .u64 [])),(.arr 0 false 63 (.ints false .u64 []))])
def z51.l2out0 (a b:Nat) (c d:Int) (e g:Nat) (h j:Int) (k m p q r:J0) (o:Int×Int×J0):X×Env×Store:=((.exit 2),Qb z51.l2sh [.n a,.n b,.i c,.i d,.n e,.n g,.i o.1,.i o.2.1,.li k,.li m,.li o.2.2,.li q,.li r])
def z51.l2pack:List Leaf->Option LPack
 |[.n a,.n b,.i c,.i d,.n e,.n g,.i h,.i j,.li k,.li m,.li o,.li p,.li q]=>some (.one _ (z51.l2 a b e g p (h,j,o)) (z51.l2out0 a b c d e g h j k m o p q))
 |_=>none
def z51.l0aash:Env×Store:=((.sref 3 0)::(.sview 5 0 0 0) :: .undef :: .undef::(.sref 0 0)::(.sref 1 0)::(.int .u64 0)::(.sref 6 0)::(.int .i64 0)::un 78 [],[(.arr 0 true 63 (.ints false .u64 [])),(.arr 0 true 63 (.ints false .u64 [])),.dead,(.arr 0 false 63 (.ints false .u64 [])),.dead,(.arr 0 false 63 (.ints false .u64 [])),(.arr 0 false 63 (.ints false .u64 []))])
def z51.l0aaout0 (a b:Nat) (c d:Int) (e g h j k:J0) (o:Int×J0×J0):X×Env×Store:=((.exit 0),Qb z51.l0aash [.n a,.n b,.i c,.i o.1,.li e,.li g,.li o.2.1,.li j,.li o.2.2])
def z51.l0aapack:List Leaf->Option LPack
 |[.n a,.n b,.i c,.i d,.li e,.li g,.li h,.li j,.li k]=>some (.one _ (z51.l0aa a b j (d,h,k)) (z51.l0aaout0 a b c d e g h j k))
 |_=>none
def z51.C:Ctx where
 T:=tab
 draws:=λf i=>match f,i with|209,2=>([(23,[(0,10)],0),(24,[(6,0)],0),(25,[(22,1),(23,2)],3),(26,[(1,11)],0),(27,[(6,0)],0),(28,[(25,4),(26,5)],31),(29,[(1,11)],0),(30,[(28,7)],64),(31,[(27,6),(29,8)],255),(1,[(24,3)],63),(2,[(30,9)],1023)],2143289347)|288,2=>([(18,[(0,0)],0),(19,[(5,0)],0),(20,[(17,1),(18,2)],3),(21,[(19,3)],7),(22,[(0,0)],0),(23,[(5,0)],0),(24,[(22,6)],32),(25,[(21,5),(23,7)],112),(26,[(24,8)],240),(27,[(0,0)],0),(28,[(5,0)],0),(29,[(27,11)],1024),(30,[(26,10),(28,12)],3584),(31,[(29,13)],7680),(7,[(20,4)],15),(8,[(25,9)],16895),(9,[(30,14)],65535)],2147353024)|_,_=>([],0)
 call:=Qh [(286,z45.pack),(297,z50.pack),(138,z0.pack),(141,z1.pack),(285,z46.pack),(33,z33.pack),(291,z49.pack),(143,z43.pack)]
 inl:=λg=>match g with|287=>some (ifun Tryz.f287)|288=>some (ifun Tryz.f288)|289=>some (ifun Tryz.f289)|290=>some (ifun Tryz.f290)|_=>none
 keep:=λf i=>match f,i with|287,0=>([1,4,5,12,13,14],List.range 64,[])|289,0=>([0,1,2,6,7,8,14,15,16],List.range 64,[])|290,0=>([0,1,4,7,8,9],List.range 64,[])|209,2=>([0,1,4,5,6,7,8,9,10,11],[0,1,3,5,6],[])|209,0=>([0,1,4,5,6,7,8],[0,1,3,5,6],[])|_,_=>([],[],[])
 keepR:=λf i=>match f,i with|287,0=>([4],List.range 64,[])|289,0=>([6],List.range 64,[])|290,0=>([],List.range 64,[])|209,2=>([4,5],[0,1,3,5,6],[4,5])|209,0=>([4,5],[0,1,3,5,6],[4,5])|_,_=>([],[],[])
 unroll:=λf i=>match f,i with|288,1000000=>2|_,_=>0
 L:=λf i b st=>match f,i,b with|287,0,2=>(matchSt z51.l0sh st).bind z51.l0pack|287,0,4=>(matchSt z51.l0ash st).bind z51.l0apack|289,0,7=>(matchSt z51.l0b3sh st).bind z51.l0b3pack|290,0,7=>(matchSt z51.l0b4sh st).bind z51.l0b4pack|209,2,0=>(matchSt z51.l2sh st).bind z51.l2pack|209,0,0=>(matchSt z51.l0aash st).bind z51.l0aapack|_,_,_=>none
def z51.dec:V->Option (J0×J0)
 |(.tup [(.ints _ .u64 x0),(.ints _ .u64 x1)])=>some (x0,x1)
 |_=>none
theorem z51.l0_link (R:Type) (k:Env×Store->Option R) (d:X×Env×Store->Option R) (a:Int) (b:J0) (c e:Int) (g h j m:J0) :
  z51.C.loopPI (z51.C.inlK 0) 287 0 2 (Qf 0 (ifun Tryz.f287).body) 4 k d (Qb z51.l0sh [.i a,.li b,.i c,.i e,.li g,.li h,.li j,.li m]) =
  z51.l0P a b c (λx'=>k (Qb z51.l0sh [.i a,.li b,.i c,.i x'.1,.li g,.li h,.li j,.li x'.2])) (λo=>d (z51.l0out0 a b c e g h j m o)) (e,m):=by kernel_rfl
theorem z51.l0a_link (R:Type) (k:Env×Store->Option R) (d:X×Env×Store->Option R) (a:Int) (b:J0) (c e:Int) (g h j m n p:J0) :
  z51.C.loopPI (z51.C.inlK 0) 287 0 4 (Qf 0 (ifun Tryz.f287).body) 6 k d (Qb z51.l0ash [.i a,.li b,.i c,.i e,.li g,.li h,.li j,.li m,.li n,.li p]) =
  z51.l0aP a b c (λx'=>k (Qb z51.l0ash [.i a,.li b,.i c,.i x'.1,.li g,.li h,.li j,.li m,.li n,.li x'.2])) (λo=>d (z51.l0aout0 a b c e g h j m n p o)) (e,p):=by kernel_rfl
theorem z51.l0b3_link (R:Type) (k:Env×Store->Option R) (d:X×Env×Store->Option R) (a b c e:Nat) (g h j m:Int) (p q:Nat) (r s:Int) (t u v w x:J0) :
  z51.C.loopPI (z51.C.inlK 0) 289 0 7 (Qf 0 (ifun Tryz.f289).body) 7 k d (Qb z51.l0b3sh [.n a,.n b,.n c,.n e,.i g,.i h,.i j,.i m,.n p,.n q,.i r,.i s,.li t,.li u,.li v,.li w,.li x]) =
  z51.l0b3P a b g p q r w (λx'=>k (Qb z51.l0b3sh [.n a,.n b,.n c,.n e,.i g,.i h,.i x'.1,.i x'.2.1,.n p,.n q,.i r,.i x'.2.2.1,.li t,.li u,.li x'.2.2.2,.li w,.li x])) (λo=>d (z51.l0b3out0 a b c e g h j m p q r s t u v w x o)) (j,m,s,v):=by kernel_rfl
theorem z51.l0b4_link (R:Type) (k:Env×Store->Option R) (d:X×Env×Store->Option R) (a b c e:Nat) (g:Int) (h j:Nat) (m p:Int) (q r s t u:J0) :
  z51.C.loopPI (z51.C.inlK 0) 290 0 7 (Qf 0 (ifun Tryz.f290).body) 7 k d (Qb z51.l0b4sh [.n a,.n b,.n c,.n e,.i g,.n h,.n j,.i m,.i p,.li q,.li r,.li s,.li t,.li u]) =
  z51.l0b4P a b h j m t (λx'=>k (Qb z51.l0b4sh [.n a,.n b,.n c,.n e,.i x'.1,.n h,.n j,.i m,.i x'.2.1,.li q,.li r,.li x'.2.2,.li t,.li u])) (λo=>d (z51.l0b4out0 a b c e g h j m p q r s t u o)) (g,p,s):=by kernel_rfl
theorem z51.l2_link (R:Type) (k:Env×Store->Option R) (d:X×Env×Store->Option R) (a b:Nat) (c e:Int) (g h:Nat) (j m:Int) (p q r s t:J0) :
  z51.C.loopP 209 2 (Qf 2 (ifun Tryz.f209).body) 7 k d (Qb z51.l2sh [.n a,.n b,.i c,.i e,.n g,.n h,.i j,.i m,.li p,.li q,.li r,.li s,.li t]) =
  z51.l2P a b g h s (λx'=>k (Qb z51.l2sh [.n a,.n b,.i c,.i e,.n g,.n h,.i x'.1,.i x'.2.1,.li p,.li q,.li x'.2.2,.li s,.li t])) (λo=>d (z51.l2out0 a b c e g h j m p q r s t o)) (j,m,r):=by kernel_rfl
theorem z51.l0aa_link (R:Type) (k:Env×Store->Option R) (d:X×Env×Store->Option R) (a b:Nat) (c e:Int) (g h j m p:J0) :
  z51.C.loopP 209 0 (Qf 0 (ifun Tryz.f209).body) 7 k d (Qb z51.l0aash [.n a,.n b,.i c,.i e,.li g,.li h,.li j,.li m,.li p]) =
  z51.l0aaP a b m (λx'=>k (Qb z51.l0aash [.n a,.n b,.i c,.i x'.1,.li g,.li h,.li x'.2.1,.li m,.li x'.2.2])) (λo=>d (z51.l0aaout0 a b c e g h j m p o)) (e,j,p):=by kernel_rfl
theorem z51.link (a0 a1:J0):z51.C.evTop 209 (ifun Tryz.f209) [(.ints false .u64 a0),(.ints false .u64 a1)] z51.dec=z51.F a0 a1:=by kernel_rfl
def z67.C:Ctx where
 T:=tab
 draws:=λf i=>match f,i with|329,3=>([(14,[(0,0)],0),(15,[(7,0)],0),(16,[(13,1),(14,2)],3),(17,[(0,0)],0),(18,[(7,0)],0),(19,[(1,0)],0),(20,[(18,6)],32),(21,[(17,5),(19,7)],112),(22,[(16,4),(20,8)],248),(5,[(15,3)],7),(6,[(21,9)],1023),(7,[],2047)],4186224)|_,_=>([],0)
 call:=Qh [(92,z64.pack),(310,z66.pack),(160,z4.pack),(260,z5.pack),(93,z65.pack),(32,z31.pack),(317,z2.pack)]
 inl:=λg=>match g with|309=>some (ifun Tryz.f309)|329=>some (ifun Tryz.f329)|197=>some (ifun Tryz.f197)|272=>some (ifun Tryz.f272)|_=>none
 rank:=λg=>match g with|309=>3|329=>2|197=>1|_=>0
def z67.dec:V->Option (J0×Bool×Int×Int)
 |(.tup [(.agg [(.ints _ .u64 x0),(.bool x1),(.int .i64 x2)]),(.int .i64 x3)])=>some (x0,x1,x2,x3)
 |_=>none
theorem z67.link (a0:J1):z67.C.evTop 250 (ifun Tryz.f250) [(.str a0)] z67.dec=z67.F a0:=by kernel_rfl
def z71.C:Ctx where
 T:=tab
 draws:=λf i=>match f,i with|12,2=>([(15,[(2,0)],0),(16,[(14,1)],1),(17,[(3,0)],0),(18,[(16,3)],4),(19,[(15,2),(17,4)],15),(20,[(2,0)],0),(21,[(19,6)],32),(22,[(18,5),(20,7)],127),(0,[(4,0),(21,8)],255)],4177920)|_,_=>([],0)
 call:=Qh [(68,z58.pack),(32,z31.pack),(69,z42.pack)]
theorem z71.link (a0:J0) (a1:Bool) (a2:J0) (a3:Bool):z71.C.evTop 12 (ifun Tryz.f12) [(.agg [(.ints false .u64 a0),(.bool a1)]),(.agg [(.ints false .u64 a2),(.bool a3)])] z31.dec=z71.F a0 a1 a2 a3:=by kernel_rfl
def z73.C:Ctx where
 T:=tab
 call:=Qh [(132,z72.pack),(16,z30.pack)]
theorem z73.link (a0:J0) (a1:Bool) (a2:J0) (a3:Bool):z73.C.evTop 155 (ifun Tryz.f155) [(.agg [(.ints false .u64 a0),(.bool a1)]),(.agg [(.ints false .u64 a2),(.bool a3)])] z23.dec=z73.F a0 a1 a2 a3:=by kernel_rfl
def z75.C:Ctx where
 T:=tab
 call:=Qh [(33,z33.pack),(293,z74.pack)]
theorem z75.link (a0:Int):z75.C.evTop 213 (ifun Tryz.f213) [(.int .i64 a0)] z49.dec=z75.F a0:=by kernel_rfl
def z79.C:Ctx where
 T:=tab
theorem z79.link (a0:J0) (a1:Bool) (a2:Int):z79.C.evTop 254 (ifun Tryz.f254) [(.agg [(.ints false .u64 a0),(.bool a1),(.int .i64 a2)])] z23.dec=z79.F a0 a1 a2:=by kernel_rfl
def z91.l0sh:Env×Store:=((.int .u64 0)::(.int .i64 0) :: .undef :: .undef::(.str ([]:J1))::(.ptr 0 0)::(.int .i64 0)::un 21 [],[(.arr 0 false 322 (.ints false .u8 []))])
def z91.l0out0 (a b:Int) (c:J1) (d:Int) (e:J0) (o:Int×Int×J0):X×Env×Store:=((.exit 0),Qb z91.l0sh [.i o.1,.i b,.s c,.i o.2.1,.li o.2.2])
def z91.l0pack:List Leaf->Option LPack
 |[.i a,.i b,.s c,.i d,.li e]=>some (.one _ (z91.l0 b (a,d,e)) (z91.l0out0 a b c d e))
 |_=>none
def z91.C:Ctx where
 T:=tab
 keep:=λf i=>match f,i with|144,0=>([0,1,4,5,6],[0],[])|_,_=>([],[],[])
 keepR:=λf i=>match f,i with|144,0=>([4],[0],[4])|_,_=>([],[],[])
 L:=λf i b st=>match f,i,b with|144,0,0=>(matchSt z91.l0sh st).bind z91.l0pack|_,_,_=>none
def z91.dec:V->Option (J1)
 |(.str x0)=>some x0
 |_=>none
theorem z91.l0_link (R:Type) (k:Env×Store->Option R) (d:X×Env×Store->Option R) (a b:Int) (c:J1) (e:Int) (g:J0) :
  z91.C.loopP 144 0 (Qf 0 (ifun Tryz.f144).body) 1 k d (Qb z91.l0sh [.i a,.i b,.s c,.i e,.li g]) =
  z91.l0P b (λx'=>k (Qb z91.l0sh [.i x'.1,.i b,.s c,.i x'.2.1,.li x'.2.2])) (λo=>d (z91.l0out0 a b c e g o)) (a,e,g):=by kernel_rfl
theorem z91.link (a0 a1:Int):z91.C.evTop 144 (ifun Tryz.f144) [(.int .u64 a0),(.int .i64 a1)] z91.dec=z91.F a0 a1:=by kernel_rfl
def z93.C:Ctx where
 T:=tab
 call:=Qh [(70,z92.pack)]
theorem z93.link (a0:J0) (a1:Bool):z93.C.evTop 13 (ifun Tryz.f13) [(.agg [(.ints false .u64 a0),(.bool a1)])] z91.dec=z93.F a0 a1:=by kernel_rfl
def z98.C:Ctx where
 T:=tab
 draws:=λf i=>match f,i with|192,5=>([(25,[(0,0)],0),(26,[(0,0)],0),(27,[(0,0)],0),(28,[(26,3)],4),(29,[(27,4)],12),(30,[(28,5)],28),(31,[(29,6)],60),(32,[(3,0)],0),(33,[(31,8)],128),(34,[(24,1)],125),(35,[(33,10)],637),(0,[(34,11),(30,7)],1661),(36,[(25,2)],4095),(37,[(35,13)],8191),(0,[(36,14),(32,9)],16383)],137422176256)|_,_=>([],0)
def z98.dec:V->J2->Option (Int×J1×Int×J2×Int×Int)
 |(.agg [(.int .i64 x0),(.str x1),(.int .i64 x2)]),[[(.recs _ 3 x3),(.int .i64 x4),(.int .i64 x5)]]=>some (x0,x1,x2,x3,x4,x5)
 |_,_=>none
theorem z98.link (a0:J2) (a1 a2:Int):z98.C.evBlk 192 (ifun Tryz.f192) [227] [[(.recs false 3 a0),(.int .i64 a1),(.int .i64 a2)]] [] z98.dec=z98.F a0 a1 a2:=by kernel_rfl
def z99.C:Ctx where
 T:=tab
 call:=Qh [(250,z67.pack),(254,z79.pack),(252,z70.pack)]
def z99.dec:V->Option (J0×Bool×Int)
 |(.tup [(.agg [(.ints _ .u64 x0),(.bool x1)]),(.int .i64 x2)])=>some (x0,x1,x2)
 |_=>none
theorem z99.link (a0:J1):z99.C.evTop 270 (ifun Tryz.f270) [(.str a0)] z99.dec=z99.F a0:=by kernel_rfl
def z101.l0sh:Env×Store:=((.strs false [])::(.str ([]:J1)) :: .undef :: .undef::(.int .i64 0) :: .undef :: .undef::(.int .i64 0)::(.int .i64 0)::un 10 [],[])
def z101.l0so1:Env×Store:=(un 4 ((.int .i64 0)::un 14 []),[])
def z101.l0out0 (a:List J1) (b:J1) (c d e o:Int):X×Env×Store:=((.exit 0),Qb z101.l0sh [.ls a,.s b,.i c,.i d,.i o])
def z101.l0out1 (a:List J1) (b:J1) (c d e o:Int):X×Env×Store:=(.ret,Qb z101.l0so1 [.i o])
def z101.l0pack:List Leaf->Option LPack
 |[.ls a,.s b,.i c,.i d,.i e]=>some (.two _ _ (z101.l0 a b d e) (z101.l0out0 a b c d e) (z101.l0out1 a b c d e))
 |_=>none
def z101.C:Ctx where
 T:=tab
 keep:=λf i=>match f,i with|193,0=>([0,1,4,7,8],[],[])|_,_=>([],[],[])
 keepR:=λf i=>match f,i with|193,0=>([4],[],[4])|_,_=>([],[],[])
 L:=λf i b st=>match f,i,b with|193,0,0=>(matchSt z101.l0sh st).bind z101.l0pack|_,_,_=>none
theorem z101.l0_link (R:Type) (k:Env×Store->Option R) (d:X×Env×Store->Option R) (a:List J1) (b:J1) (c e g:Int) :
  z101.C.loopP 193 0 (Qf 0 (ifun Tryz.f193).body) 0 k d (Qb z101.l0sh [.ls a,.s b,.i c,.i e,.i g]) =
  z101.l0P a b e (λx'=>k (Qb z101.l0sh [.ls a,.s b,.i c,.i e,.i x'])) (λo=>match o with | .inl o=>d (z101.l0out0 a b c e g o) | .inr o=>d (z101.l0out1 a b c e g o)) g:=by kernel_rfl
theorem z101.link (a0:List J1) (a1:J1):z101.C.evTop 193 (ifun Tryz.f193) [(.strs false a0),(.str a1)] z23.dec=z101.F a0 a1:=by kernel_rfl
def z105.C:Ctx where
 T:=tab
 call:=Qh [(124,z62.pack)]
theorem z105.link (a0 a1:J1):z105.C.evTop 58 (ifun Tryz.f58) [(.str a0),(.str a1)] z25.dec=z105.F a0 a1:=by kernel_rfl
def z106.C:Ctx where
 T:=tab
 call:=Qh [(317,z2.pack)]
 inl:=λg=>match g with|272=>some (ifun Tryz.f272)|_=>none
theorem z106.link (a0:J1) (a1:Int):z106.C.evTop 261 (ifun Tryz.f261) [(.str a0),(.int .u8 a1)] z23.dec=z106.F a0 a1:=by kernel_rfl
def z111.C:Ctx where
 T:=tab
 call:=Qh [(265,z109.pack)]
theorem z111.link (a0:Int):z111.C.evTop 266 (ifun Tryz.f266) [(.int .i32 a0)] z25.dec=z111.F a0:=by kernel_rfl
def z112.l0sh:Env×Store:=((.str ([]:J1)) :: .undef::(.bool false)::un 5 ((.ptr 0 0)::un 25 []),[(.siter ([]:J1) 0)])
def z112.l0so0:Env×Store:=(.undef :: .undef::(.bool false)::un 31 [],[(.siter ([]:J1) 0)])
def z112.l0out0 (a:J1) (c:Bool) (d:J1) (e:Nat) (o:Bool×Nat):X×Env×Store:=(.ret,Qb z112.l0so0 [.b o.1,.s d,.n o.2])
def z112.l0out1 (a:J1) (c:Bool) (d:J1) (e o:Nat):X×Env×Store:=((.exit 0),Qb z112.l0sh [.s a,.b c,.s d,.n o])
def z112.l0pack:List Leaf->Option LPack
 |[.s a,.b c,.s d,.n e]=>some (.two _ _ (z112.l0 a d e) (z112.l0out0 a c d e) (z112.l0out1 a c d e))
 |_=>none
def z112.C:Ctx where
 T:=tab
 draws:=λf i=>match f,i with|267,6=>([(14,[(4,0)],0),(15,[(13,1)],1),(16,[(0,0)],0),(17,[(3,0)],0),(18,[(15,3),(16,4)],12),(19,[(17,5)],28),(20,[(18,6)],63),(21,[(14,2),(19,7)],127),(22,[(20,8)],255),(23,[(4,0),(21,9)],511),(24,[(22,10),(21,9)],1023),(25,[(23,11),(21,9)],2047),(26,[(24,12),(21,9)],4095),(27,[(4,0),(25,13)],8191),(28,[(26,14),(25,13)],16383),(29,[(0,0),(25,13)],8191),(30,[(3,0),(25,13)],8191),(31,[(28,16),(29,17),(25,13)],106495),(32,[(27,15),(30,18),(25,13)],262143),(33,[(25,13),(31,19),(21,9)],524287),(34,[(21,9),(32,20)],1048575)],17179860992)|_,_=>([],0)
 call:=Qh [(265,z109.pack)]
 keep:=λf i=>match f,i with|267,0=>([0,2,8],[0],[])|_,_=>([],[],[])
 keepR:=λf i=>match f,i with|267,0=>([2],[0],[2])|_,_=>([],[],[])
 L:=λf i b st=>match f,i,b with|267,0,0=>(matchSt z112.l0sh st).bind z112.l0pack|_,_,_=>none
theorem z112.l0_link (R:Type) (k:Env×Store->Option R) (d:X×Env×Store->Option R) (a:J1) (c:Bool) (e:J1) (g:Nat) :
  z112.C.loopP 267 0 (Qf 0 (ifun Tryz.f267).body) 1 k d (Qb z112.l0sh [.s a,.b c,.s e,.n g]) =
  z112.l0P a e (λx'=>k (Qb z112.l0sh [.s a,.b c,.s e,.n x'])) (λo=>match o with | .inl o=>d (z112.l0out0 a c e g o) | .inr o=>d (z112.l0out1 a c e g o)) g:=by kernel_rfl
theorem z112.link (a0:J1):z112.C.evTop 267 (ifun Tryz.f267) [(.str a0)] z25.dec=z112.F a0:=by kernel_rfl
def z120.l0sh:Env×Store:=((.recs false 5 [])::(.recs false 5 []) :: .undef :: .undef::(.bool false)::un 7 ((.int .i64 0)::(.int .i64 0)::un 12 []),[])
def z120.l0so1:Env×Store:=(un 4 ((.bool false)::un 21 []),[])
def z120.l0out0 (a c:J2) (d:Bool) (e g o:Int):X×Env×Store:=((.exit 0),Qb z120.l0sh [.lr a,.lr c,.b d,.i e,.i o])
def z120.l0out1 (a c:J2) (d:Bool) (e g:Int) (o:Bool):X×Env×Store:=(.ret,Qb z120.l0so1 [.b o])
def z120.l0pack:List Leaf->Option LPack
 |[.lr a,.lr c,.b d,.i e,.i g]=>some (.two _ _ (z120.l0 a c e g) (z120.l0out0 a c d e g) (z120.l0out1 a c d e g))
 |_=>none
def z120.C:Ctx where
 T:=tab
 draws:=λf i=>match f,i with|55,6=>([(17,[(0,0)],0),(18,[(5,0)],0),(19,[(16,1),(17,2)],3),(20,[(18,3)],7),(21,[(1,0)],0),(22,[(5,0)],0),(23,[(20,5),(21,6)],48),(24,[(22,7)],112),(25,[(19,4),(23,8)],255)],33488896)|_,_=>([],0)
 keep:=λf i=>match f,i with|55,0=>([0,1,4,12,13],[],[])|_,_=>([],[],[])
 keepR:=λf i=>match f,i with|55,0=>([4],[],[4])|_,_=>([],[],[])
 L:=λf i b st=>match f,i,b with|55,0,0=>(matchSt z120.l0sh st).bind z120.l0pack|_,_,_=>none
theorem z120.l0_link (R:Type) (k:Env×Store->Option R) (d:X×Env×Store->Option R) (a c:J2) (e:Bool) (g h:Int) :
  z120.C.loopP 55 0 (Qf 0 (ifun Tryz.f55).body) 0 k d (Qb z120.l0sh [.lr a,.lr c,.b e,.i g,.i h]) =
  z120.l0P a c g (λx'=>k (Qb z120.l0sh [.lr a,.lr c,.b e,.i g,.i x'])) (λo=>match o with | .inl o=>d (z120.l0out0 a c e g h o) | .inr o=>d (z120.l0out1 a c e g h o)) h:=by kernel_rfl
theorem z120.link (a0 a1:J2):z120.C.evTop 55 (ifun Tryz.f55) [(.recs false 5 a0),(.recs false 5 a1)] z25.dec=z120.F a0 a1:=by kernel_rfl
def z121.C:Ctx where
 T:=tab
theorem z121.link (a0 a1:J1):z121.C.evTop 125 (ifun Tryz.f125) [(.str a0),(.str a1)] z25.dec=z121.F a0 a1:=by kernel_rfl
end
noncomputable section
def z10.l2sh:Env×Store:=((.ints false .i64 []) :: .undef::(.str ([]:J1))::(.str ([]:J1))::(.int .i64 0)::(.int .i64 0)::(.int .i64 0)::un 37 [],[])
def z10.l2out0 (a:J0) (b c:J1) (d e g:Int) (o:J1×Int×Int):X×Env×Store:=((.exit 2),Qb z10.l2sh [.li a,.s b,.s o.1,.i d,.i o.2.1,.i o.2.2])
def z10.l2pack:List Leaf->Option LPack
 |[.li a,.s b,.s c,.i d,.i e,.i g]=>some (.one _ (z10.l2 (c,e,g)) (z10.l2out0 a b c d e g))
 |_=>none
def z10.l0sh:Env×Store:=((.ints false .i64 []) :: .undef::(.str ([]:J1))::(.str ([]:J1))::(.int .i64 0)::un 39 [],[])
def z10.l0out0 (a:J0) (b c:J1) (d:Int) (o:J1×Int):X×Env×Store:=((.exit 0),Qb z10.l0sh [.li a,.s b,.s o.1,.i o.2])
def z10.l0pack:List Leaf->Option LPack
 |[.li a,.s b,.s c,.i d]=>some (.one _ (z10.l0 a (c,d)) (z10.l0out0 a b c d))
 |_=>none
def z10.l4sh:Env×Store:=(.undef :: .undef::(.str ([]:J1))::(.str ([]:J1))::un 3 ((.int .i64 0)::un 36 []),[])
def z10.l4out0 (a b:J1) (c o:Int):X×Env×Store:=((.exit 4),Qb z10.l4sh [.s a,.s b,.i o])
def z10.l4pack:List Leaf->Option LPack
 |[.s a,.s b,.i c]=>some (.one _ (z10.l4 b c) (z10.l4out0 a b c))
 |_=>none
def z10.C:Ctx where
 T:=tab
 keep:=λf i=>match f,i with|71,2=>([0,2,3,4,5,6],[],[])|71,0=>([0,2,3,4],[],[])|71,4=>([2,3,7],[],[])|_,_=>([],[],[])
 keepR:=λf i=>match f,i with|71,2=>([2],[],[2])|71,0=>([2],[],[2])|71,4=>([2],[],[2])|_,_=>([],[],[])
 L:=λf i b st=>match f,i,b with|71,2,0=>(matchSt z10.l2sh st).bind z10.l2pack|71,0,0=>(matchSt z10.l0sh st).bind z10.l0pack|71,4,0=>(matchSt z10.l4sh st).bind z10.l4pack|_,_,_=>none
theorem z10.l2_link (R:Type) (k:Env×Store->Option R) (d:X×Env×Store->Option R) (a:J0) (b c:J1) (e g h:Int) :
  z10.C.loopP 71 2 (Qf 2 (ifun Tryz.f71).body) 0 k d (Qb z10.l2sh [.li a,.s b,.s c,.i e,.i g,.i h]) =
  z10.l2P (λx'=>k (Qb z10.l2sh [.li a,.s b,.s x'.1,.i e,.i x'.2.1,.i x'.2.2])) (λo=>d (z10.l2out0 a b c e g h o)) (c,g,h):=by kernel_rfl
theorem z10.l0_link (R:Type) (k:Env×Store->Option R) (d:X×Env×Store->Option R) (a:J0) (b c:J1) (e:Int) :
  z10.C.loopP 71 0 (Qf 0 (ifun Tryz.f71).body) 0 k d (Qb z10.l0sh [.li a,.s b,.s c,.i e]) =
  z10.l0P a (λx'=>k (Qb z10.l0sh [.li a,.s b,.s x'.1,.i x'.2])) (λo=>d (z10.l0out0 a b c e o)) (c,e):=by kernel_rfl
theorem z10.l4_link (R:Type) (k:Env×Store->Option R) (d:X×Env×Store->Option R) (a b:J1) (c:Int) :
  z10.C.loopP 71 4 (Qf 4 (ifun Tryz.f71).body) 0 k d (Qb z10.l4sh [.s a,.s b,.i c]) =
  z10.l4P b (λx'=>k (Qb z10.l4sh [.s a,.s b,.i x'])) (λo=>d (z10.l4out0 a b c o)) c:=by kernel_rfl
theorem z10.link (a0:J0):z10.C.evTop 71 (ifun Tryz.f71) [(.ints false .i64 a0)] z91.dec=z10.F a0:=by kernel_rfl
def z12.C:Ctx where
 T:=tab
theorem z12.link (a0:Int):z12.C.evTop 202 (ifun Tryz.f202) [(.int .i64 a0)] z25.dec=z12.F a0:=by kernel_rfl
def z15.C:Ctx where
 T:=tab
theorem z15.link (a0:J0) (a1:Bool):z15.C.evTop 35 (ifun Tryz.f35) [(.ints false .i64 a0),(.bool a1)] z17.dec=z15.F a0 a1:=by kernel_rfl
def z19.C:Ctx where
 T:=tab
 call:=Qh [(133,z13.pack)]
theorem z19.link (a0 a1 a2 a3:Int):z19.C.evTop 62 (ifun Tryz.f62) [(.agg [(.int .i64 a0),(.int .i64 a1),(.int .i64 a2)]),(.int .i64 a3)] z20.dec=z19.F a0 a1 a2 a3:=by kernel_rfl
def z24.C:Ctx where
 T:=tab
 draws:=λf i=>match f,i with|148,1=>([(6,[(2,0)],0),(7,[(5,1)],1),(8,[(3,0)],0),(9,[(7,3)],4),(10,[(6,2),(8,4)],15),(11,[(2,0)],0),(12,[(10,6)],32),(13,[(3,0)],0),(14,[(12,8)],128),(15,[(11,7),(13,9)],511),(16,[(2,0)],0),(17,[(15,11)],1024),(18,[(3,0)],0),(19,[(17,13)],4096),(20,[(16,12),(18,14)],16383),(21,[(9,5),(14,10),(19,15)],32767),(22,[(20,16)],65535),(5,[(21,17)],131071)],4194288)|_,_=>([],0)
 call:=Qh [(206,z22.pack),(210,z23.pack)]
theorem z24.link (a0 a1 a2 a3 a4 a5:Int):z24.C.evTop 148 (ifun Tryz.f148) [(.agg [(.int .i64 a0),(.int .i64 a1),(.int .i64 a2)]),(.agg [(.int .i64 a3),(.int .i64 a4),(.int .i64 a5)])] z23.dec=z24.F a0 a1 a2 a3 a4 a5:=by kernel_rfl
def z33.C:Ctx where
 T:=tab
 call:=Qh [(107,z32.pack)]
 prim:=λg=>match g with|108=>some (cloneP (.ints true .u64 []) 63 8)|_=>none
def z33.dec:V->Option (J0)
 |(.agg [(.ints _ .u64 x0)])=>some x0
 |_=>none
theorem z33.link (a0:J0):z33.C.evTop 33 (ifun Tryz.f33) [(.ints false .u64 a0)] z33.dec=z33.F a0:=by kernel_rfl
def z34.C:Ctx where
 T:=tab
 call:=Qh [(33,z33.pack),(32,z31.pack)]
theorem z34.link (a0:Int):z34.C.evTop 37 (ifun Tryz.f37) [(.int .i64 a0)] z31.dec=z34.F a0:=by kernel_rfl
def z37.C:Ctx where
 T:=tab
theorem z37.link (a0:J0) (a1:Bool):z37.C.evTop 237 (ifun Tryz.f237) [(.agg [(.ints false .u64 a0),(.bool a1)])] z33.dec=z37.F a0 a1:=by kernel_rfl
def z38.C:Ctx where
 T:=tab
def z38.dec:V->Option (Int)
 |(.int .u64 x0)=>some x0
 |_=>none
theorem z38.link (a0:J0) (a1:Int):z38.C.evTop 139 (ifun Tryz.f139) [(.agg [(.ints false .u64 a0)]),(.int .i64 a1)] z38.dec=z38.F a0 a1:=by kernel_rfl
def z39.C:Ctx where
 T:=tab
theorem z39.link (a0:Int):z39.C.evTop 284 (ifun Tryz.f284) [(.int .u64 a0)] z25.dec=z39.F a0:=by kernel_rfl
def z41.l0sh:Env×Store:=(.undef :: .undef::(.ptr 0 0)::(.ptr 1 0)::(.int .i64 0) :: .undef::(.int .i64 0)::un 33 [],[(.cells 37 [(.ints false .u64 [])]),(.cells 37 [(.ints false .u64 [])])])
def z41.l0so1:Env×Store:=(un 4 ((.int .i64 0)::un 35 []),[(.cells 37 [(.ints false .u64 [])]),(.cells 37 [(.ints false .u64 [])])])
def z41.l0out0 (a b:Int) (c d:J0) (o:Int):X×Env×Store:=((.exit 0),Qb z41.l0sh [.i a,.i o,.li c,.li d])
def z41.l0out1 (a b:Int) (c d:J0) (o:Int):X×Env×Store:=(.ret,Qb z41.l0so1 [.i o,.li c,.li d])
def z41.l0pack:List Leaf->Option LPack
 |[.i a,.i b,.li c,.li d]=>some (.two _ _ (z41.l0 c d b) (z41.l0out0 a b c d) (z41.l0out1 a b c d))
 |_=>none
def z41.C:Ctx where
 T:=tab
 draws:=λf i=>match f,i with|140,7=>([(27,[(2,0)],0),(28,[(26,1)],1),(29,[(6,0)],0),(30,[(27,2),(28,3)],7),(31,[(29,4)],15),(32,[(3,0)],0),(33,[(31,6)],32),(34,[(6,0)],0),(35,[(32,7),(33,8)],224),(36,[(34,9)],480),(37,[(30,5),(35,10)],1023),(8,[(36,11)],2047)],137371844736)|_,_=>([],0)
 call:=Qh [(206,z22.pack),(207,z40.pack)]
 keep:=λf i=>match f,i with|140,0=>([2,3,4,6],[0,1],[])|_,_=>([],[],[])
 keepR:=λf i=>match f,i with|140,0=>([4],[0,1],[4])|_,_=>([],[],[])
 L:=λf i b st=>match f,i,b with|140,0,0=>(matchSt z41.l0sh st).bind z41.l0pack|_,_,_=>none
theorem z41.l0_link (R:Type) (k:Env×Store->Option R) (d:X×Env×Store->Option R) (a b:Int) (c e:J0) :
  z41.C.loopP 140 0 (Qf 0 (ifun Tryz.f140).body) 2 k d (Qb z41.l0sh [.i a,.i b,.li c,.li e]) =
  z41.l0P c e (λx'=>k (Qb z41.l0sh [.i a,.i x',.li c,.li e])) (λo=>match o with | .inl o=>d (z41.l0out0 a b c e o) | .inr o=>d (z41.l0out1 a b c e o)) b:=by kernel_rfl
theorem z41.link (a0 a1:J0):z41.C.evTop 140 (ifun Tryz.f140) [(.agg [(.ints false .u64 a0)]),(.agg [(.ints false .u64 a1)])] z23.dec=z41.F a0 a1:=by kernel_rfl
def z43.C:Ctx where
 T:=tab
 prim:=λg=>match g with|108=>some (cloneP (.ints true .u64 []) 63 8)|_=>none
def z43.dec:V->Option (J0)
 |(.ints _ .u64 x0)=>some x0
 |_=>none
theorem z43.link (a0:J0):z43.C.evTop 143 (ifun Tryz.f143) [(.agg [(.ints false .u64 a0)])] z43.dec=z43.F a0:=by kernel_rfl
def z52.C:Ctx where
 T:=tab
 draws:=λf i=>match f,i with|142,4=>([(22,[],0),(23,[(2,0)],0),(0,[(4,0),(21,1)],1),(0,[(5,0),(22,2)],7),(7,[],15)],6291520)|142,5=>([(24,[(2,0)],0),(25,[(23,1)],1),(26,[(3,0)],0),(27,[(25,3)],7),(8,[(24,2)],15),(9,[(26,4)],31)],125829504)|_,_=>([],0)
 call:=Qh [(75,z29.pack),(140,z41.pack),(143,z43.pack),(208,z47.pack),(33,z33.pack),(209,z51.pack)]
def z52.dec:V->Option (J0×J0×Int)
 |(.tup [(.agg [(.ints _ .u64 x0)]),(.agg [(.ints _ .u64 x1)]),(.int .i64 x2)])=>some (x0,x1,x2)
 |_=>none
theorem z52.link (a0 a1:J0):z52.C.evTop 142 (ifun Tryz.f142) [(.agg [(.ints false .u64 a0)]),(.agg [(.ints false .u64 a1)])] z52.dec=z52.F a0 a1:=by kernel_rfl
def z60.C:Ctx where
 T:=tab
 call:=Qh [(235,z59.pack),(32,z31.pack)]
theorem z60.link (a0:J0) (a1:Bool) (a2:J0):z60.C.evTop 304 (ifun Tryz.f304) [(.agg [(.ints false .u64 a0),(.bool a1),(.ints false .u64 a2)])] z31.dec=z60.F a0 a1 a2:=by kernel_rfl
def z63.C:Ctx where
 T:=tab
 call:=Qh [(124,z62.pack)]
def z63.dec:V->Option (J1×Bool)
 |(.tup [(.str x0),(.bool x1)])=>some (x0,x1)
 |_=>none
theorem z63.link (a0 a1:J1):z63.C.evTop 159 (ifun Tryz.f159) [(.str a0),(.str a1)] z63.dec=z63.F a0 a1:=by kernel_rfl
def z68.C:Ctx where
 T:=tab
theorem z68.link (a0:Int):z68.C.evTop 311 (ifun Tryz.f311) [(.int .i64 a0)] z25.dec=z68.F a0:=by kernel_rfl
def z74.l0sh:Env×Store:=(.undef::(.int .i64 0)::(.ptr 0 0) :: .undef::(.ptr 1 0)::(.ptr 2 0)::un 18 [],[(.cells 37 [(.ints false .u64 [])]),(.cells 37 [(.ints false .u64 [])]),(.cells 37 [(.ints false .u64 [])])])
def z74.l0out0 (a:Int) (b c d:J0) (o:Int×J0×J0):X×Env×Store:=((.exit 0),Qb z74.l0sh [.i o.1,.li o.2.1,.li c,.li o.2.2])
def z74.l0pack:List Leaf->Option LPack
 |[.i a,.li b,.li c,.li d]=>some (.one _ (z74.l0 (a,b,d)) (z74.l0out0 a b c d))
 |_=>none
def z74.C:Ctx where
 T:=tab
 call:=Qh [(33,z33.pack),(161,z56.pack)]
 keep:=λf i=>match f,i with|293,0=>([1,2,4,5],[0,1,2],[])|_,_=>([],[],[])
 keepR:=λf i=>match f,i with|293,0=>([4],[0,1,2],[4])|_,_=>([],[],[])
 L:=λf i b st=>match f,i,b with|293,0,0=>(matchSt z74.l0sh st).bind z74.l0pack|_,_,_=>none
theorem z74.l0_link (R:Type) (k:Env×Store->Option R) (d:X×Env×Store->Option R) (a:Int) (b c e:J0) :
  z74.C.loopP 293 0 (Qf 0 (ifun Tryz.f293).body) 3 k d (Qb z74.l0sh [.i a,.li b,.li c,.li e]) =
  z74.l0P (λx'=>k (Qb z74.l0sh [.i x'.1,.li x'.2.1,.li c,.li x'.2.2])) (λo=>d (z74.l0out0 a b c e o)) (a,b,e):=by kernel_rfl
theorem z74.link (a0:J0) (a1:Int):z74.C.evTop 293 (ifun Tryz.f293) [(.agg [(.ints false .u64 a0)]),(.int .i64 a1)] z33.dec=z74.F a0 a1:=by kernel_rfl
def z80.C:Ctx where
 T:=tab
 draws:=λf i=>match f,i with|255,1=>([(7,[(1,0)],0),(8,[(6,1)],1),(9,[(1,0)],0),(10,[(8,3)],4),(11,[(9,4)],12),(12,[(7,2),(10,5)],31),(6,[(11,6)],63),(13,[(5,7)],127),(14,[(5,7)],127),(4,[],0),(0,[(3,10),(12,8)],767),(5,[(13,9)],2047)],16376)|_,_=>([],0)
 call:=Qh [(313,z76.pack),(174,z55.pack)]
def z80.dec:V->Option (J0×Bool×J0)
 |(.agg [(.ints _ .u64 x0),(.bool x1),(.ints _ .u64 x2)])=>some (x0,x1,x2)
 |_=>none
theorem z80.link (a0:J0) (a1:Bool) (a2:Int):z80.C.evTop 255 (ifun Tryz.f255) [(.agg [(.ints false .u64 a0),(.bool a1),(.int .i64 a2)])] z80.dec=z80.F a0 a1 a2:=by kernel_rfl
def z81.C:Ctx where
 T:=tab
 call:=Qh [(250,z67.pack),(37,z34.pack),(251,z69.pack),(252,z70.pack),(16,z30.pack),(253,z78.pack),(254,z79.pack),(255,z80.pack),(172,z35.pack),(234,z61.pack)]
def z81.dec:V->Option (J0×Bool×J0×Int)
 |(.tup [(.agg [(.ints _ .u64 x0),(.bool x1),(.ints _ .u64 x2)]),(.int .i64 x3)])=>some (x0,x1,x2,x3)
 |_=>none
theorem z81.link (a0:J1):z81.C.evTop 184 (ifun Tryz.f184) [(.str a0)] z81.dec=z81.F a0:=by kernel_rfl
def z83.C:Ctx where
 T:=tab
 call:=Qh [(213,z75.pack),(32,z31.pack)]
theorem z83.link:z83.C.evTop 156 (ifun Tryz.f156) [] z31.dec=z83.F:=by kernel_rfl
def z87.C:Ctx where
 T:=tab
 call:=Qh [(181,z28.pack),(148,z24.pack),(212,z86.pack)]
theorem z87.link (a0 a1 a2 a3:Int) (a4:J1) (a5 a6 a7:Int):z87.C.evTop 154 (ifun Tryz.f154) [(.agg [(.int .i64 a0),(.int .i64 a1),(.int .i64 a2),(.int .i64 a3),(.str a4)]),(.agg [(.int .i64 a5),(.int .i64 a6),(.int .i64 a7)])] z23.dec=z87.F a0 a1 a2 a3 a4 a5 a6 a7:=by kernel_rfl
def z88.l0sh:Env×Store:=(.undef :: .undef::(.int .i64 0)::(.int .i64 0)::(.ptr 0 0)::un 6 ((.recs false 5 [])::(.int .i64 0)::(.int .i64 0)::un 14 []),[(.cells 41 [(.int .i64 0),(.int .i64 0),(.int .i64 0)])])
def z88.l0so1:Env×Store:=(.undef :: .undef::(.int .i64 0)::(.int .i64 0)::un 24 [],[(.cells 41 [(.int .i64 0),(.int .i64 0),(.int .i64 0)])])
def z88.l0out0 (a b:Int) (c:J2) (d e g h j:Int) (o:Int×Int×Int×Int):X×Env×Store:=((.exit 0),Qb z88.l0sh [.i a,.i b,.lr c,.i d,.i o.1,.i o.2.1,.i o.2.2.1,.i o.2.2.2])
def z88.l0out1 (a b:Int) (c:J2) (d e g h j:Int) (o:Int×Int×Int×Int×Int):X×Env×Store:=(.ret,Qb z88.l0so1 [.i o.1,.i o.2.1,.i o.2.2.1,.i o.2.2.2.1,.i o.2.2.2.2])
def z88.l0pack:List Leaf->Option LPack
 |[.i a,.i b,.lr c,.i d,.i e,.i g,.i h,.i j]=>some (.two _ _ (z88.l0 c d (e,g,h,j)) (z88.l0out0 a b c d e g h j) (z88.l0out1 a b c d e g h j))
 |_=>none
def z88.C:Ctx where
 T:=tab
 call:=Qh [(154,z87.pack)]
 keep:=λf i=>match f,i with|87,0=>([2,3,4,11,12,13],[0],[])|_,_=>([],[],[])
 keepR:=λf i=>match f,i with|87,0=>([2,3],[0],[2,3])|_,_=>([],[],[])
 L:=λf i b st=>match f,i,b with|87,0,0=>(matchSt z88.l0sh st).bind z88.l0pack|_,_,_=>none
def z88.dec:V->Option (Int×Int)
 |(.tup [(.int .i64 x0),(.int .i64 x1)])=>some (x0,x1)
 |_=>none
theorem z88.l0_link (R:Type) (k:Env×Store->Option R) (d:X×Env×Store->Option R) (a b:Int) (c:J2) (e g h j m:Int) :
  z88.C.loopP 87 0 (Qf 0 (ifun Tryz.f87).body) 1 k d (Qb z88.l0sh [.i a,.i b,.lr c,.i e,.i g,.i h,.i j,.i m]) =
  z88.l0P c e (λx'=>k (Qb z88.l0sh [.i a,.i b,.lr c,.i e,.i x'.1,.i x'.2.1,.i x'.2.2.1,.i x'.2.2.2])) (λo=>match o with | .inl o=>d (z88.l0out0 a b c e g h j m o) | .inr o=>d (z88.l0out1 a b c e g h j m o)) (g,h,j,m):=by kernel_rfl
theorem z88.link (a0:J2):z88.C.evTop 87 (ifun Tryz.f87) [(.recs false 5 a0)] z88.dec=z88.F a0:=by kernel_rfl
def z89.l0sh:Env×Store:=((.sview 1 0 0 0)::(.int .i64 0) :: .undef :: .undef::(.int .i64 0)::un 16 [],[(.cells 41 [(.int .i64 0),(.int .i64 0),(.int .i64 0)]),(.arr 0 false 5 (.ints true .u8 []))])
def z89.l0out0 (a b:Nat) (c d e g h:Int) (j:J0) (o:Int×Int×J0):X×Env×Store:=((.exit 0),Qb z89.l0sh [.n a,.n b,.i o.1,.i o.2.1,.i e,.i g,.i h,.li o.2.2])
def z89.l0pack:List Leaf->Option LPack
 |[.n a,.n b,.i c,.i d,.i e,.i g,.i h,.li j]=>some (.one _ (z89.l0 a b (c,d,j)) (z89.l0out0 a b c d e g h j))
 |_=>none
def z89.C:Ctx where
 T:=tab
 draws:=λf i=>match f,i with|186,5=>([(14,[(5,0)],0),(15,[(13,1)],1),(16,[(1,0)],0),(17,[(15,3)],4),(18,[(14,2),(16,4)],15)],253952)|186,6=>([(19,[(5,0)],0),(20,[(18,1)],1),(21,[(1,0)],0),(22,[(20,3)],4),(23,[(19,2),(21,4)],15)],8126464)|186,7=>([(24,[(5,0)],0),(25,[(23,1)],1),(26,[(1,0)],0),(27,[(25,3)],4),(28,[(24,2),(26,4)],15)],260046848)|_,_=>([],0)
 call:=Qh [(181,z28.pack)]
 inl:=λg=>match g with|257=>some (ifun Tryz.f257)|_=>none
 own:=λd=>match d with|11=>true|_=>false
 keep:=λf i=>match f,i with|257,0=>([0,1,4],List.range 64,[])|_,_=>([],[],[])
 keepR:=λf i=>match f,i with|257,0=>([],List.range 64,[])|_,_=>([],[],[])
 L:=λf i b st=>match f,i,b with|257,0,2=>(matchSt z89.l0sh st).bind z89.l0pack|_,_,_=>none
def z89.dec:V->Option (J1×Int)
 |(.tup [(.str x0),(.int .i64 x1)])=>some (x0,x1)
 |_=>none
theorem z89.l0_link (R:Type) (k:Env×Store->Option R) (d:X×Env×Store->Option R) (a b:Nat) (c e g h j:Int) (m:J0) :
  z89.C.loopPI (z89.C.inlK 0) 257 0 2 (Qf 0 (ifun Tryz.f257).body) 2 k d (Qb z89.l0sh [.n a,.n b,.i c,.i e,.i g,.i h,.i j,.li m]) =
  z89.l0P a b (λx'=>k (Qb z89.l0sh [.n a,.n b,.i x'.1,.i x'.2.1,.i g,.i h,.i j,.li x'.2.2])) (λo=>d (z89.l0out0 a b c e g h j m o)) (c,e,m):=by kernel_rfl
theorem z89.link (a0 a1 a2:Int):z89.C.evTop 186 (ifun Tryz.f186) [(.agg [(.int .i64 a0),(.int .i64 a1),(.int .i64 a2)])] z89.dec=z89.F a0 a1 a2:=by kernel_rfl
def z90.C:Ctx where
 T:=tab
theorem z90.link:z90.C.evTop 187 (ifun Tryz.f187) [] z8.dec=z90.F:=by kernel_rfl
def z94.C:Ctx where
 T:=tab
 draws:=λf i=>match f,i with|258,5=>([(32,[(3,9)],0),(33,[(5,0)],0),(34,[(31,1),(32,2)],3),(35,[(33,3)],7),(36,[(3,9)],0),(37,[(5,0)],0),(38,[(35,5),(36,6)],48),(39,[(34,4),(37,7)],127),(4,[(38,8)],255)],547608330248)|_,_=>([],0)
 call:=Qh [(13,z93.pack),(92,z64.pack),(314,z6.pack)]
theorem z94.link (a0:J0) (a1:Bool) (a2:Int):z94.C.evTop 258 (ifun Tryz.f258) [(.agg [(.ints false .u64 a0),(.bool a1),(.int .i64 a2)])] z91.dec=z94.F a0 a1 a2:=by kernel_rfl
def z96.C:Ctx where
 T:=tab
 draws:=λf i=>match f,i with|118,2=>([(15,[],0),(16,[(1,0)],0),(17,[(15,2)],2),(18,[(14,1),(16,3)],7),(19,[(17,4)],15),(20,[(3,0)],0),(21,[(18,5),(19,6)],63),(6,[(20,7)],127)],2080800)|_,_=>([],0)
 call:=Qh [(186,z89.pack),(187,z90.pack),(27,z82.pack),(188,z95.pack),(52,z7.pack)]
theorem z96.link (a0 a1 a2 a3:Int) (a4:J1):z96.C.evTop 118 (ifun Tryz.f118) [(.agg [(.int .i64 a0),(.int .i64 a1),(.int .i64 a2),(.int .i64 a3),(.str a4)])] z91.dec=z96.F a0 a1 a2 a3 a4:=by kernel_rfl
def z97.l0sh:Env×Store:=(.undef :: .undef::(.str ([]:J1))::(.int .i64 0) :: .undef :: .undef::(.ptr 0 0)::un 10 ((.recs false 5 [])::(.int .i64 0)::(.int .i64 0)::un 8 []),[(.cells 215 [(.ptr 0 0),(.sref 2 0)]),.dead,(.arr 0 true 5 (.ints false .u8 []))])
def z97.l0out0 (a:J1) (b:Int) (c:J2) (d e:Int) (g:J0) (o:Int×J0):X×Env×Store:=((.exit 0),Qb z97.l0sh [.s a,.i b,.lr c,.i d,.i o.1,.li o.2])
def z97.l0pack:List Leaf->Option LPack
 |[.s a,.i b,.lr c,.i d,.i e,.li g]=>some (.one _ (z97.l0 c d (e,g)) (z97.l0out0 a b c d e g))
 |_=>none
def z97.C:Ctx where
 T:=tab
 draws:=λf i=>match f,i with|119,1=>([(4,[(0,0)],0),(5,[(3,1)],1),(6,[(4,2)],3),(7,[(5,3)],7),(8,[(6,4)],15),(9,[(0,0)],0),(10,[(8,6)],32),(11,[(9,7)],96),(12,[(10,8)],224),(13,[(11,9)],480),(14,[(7,5),(12,10)],1023),(3,[(13,11)],2047)],16380)|_,_=>([],0)
 call:=Qh [(87,z88.pack),(118,z96.pack)]
 inl:=λg=>match g with|119=>some (ifun Tryz.f119)|117=>some (ifun Tryz.f117)|_=>none
 rank:=λg=>match g with|117=>1|_=>0
 prim:=λg=>match g with|185=>some (copyP 215)|_=>none
 keep:=λf i=>match f,i with|48,0=>([2,3,6,17,18,19],[0,2],[])|_,_=>([],[],[])
 keepR:=λf i=>match f,i with|48,0=>([2,3],[0,2],[2,3])|_,_=>([],[],[])
 unroll:=λf i=>match f,i with|48,0=>1|_,_=>0
 L:=λf i b st=>match f,i,b with|48,0,0=>(matchSt z97.l0sh st).bind z97.l0pack|_,_,_=>none
theorem z97.l0_link (R:Type) (k:Env×Store->Option R) (d:X×Env×Store->Option R) (a:J1) (b:Int) (c:J2) (e g:Int) (h:J0) :
  z97.C.loopP 48 0 (Qf 0 (ifun Tryz.f48).body) 3 k d (Qb z97.l0sh [.s a,.i b,.lr c,.i e,.i g,.li h]) =
  z97.l0P c e (λx'=>k (Qb z97.l0sh [.s a,.i b,.lr c,.i e,.i x'.1,.li x'.2])) (λo=>d (z97.l0out0 a b c e g h o)) (g,h):=by kernel_rfl
theorem z97.link (a0:J2):z97.C.evTop 48 (ifun Tryz.f48) [(.recs false 5 a0)] z89.dec=z97.F a0:=by kernel_rfl
def z103.C:Ctx where
 T:=tab
 call:=Qh [(269,z102.pack),(181,z28.pack)]
def z103.dec:V->Option (Int×Int×Int×Int)
 |(.tup [(.agg [(.int .i64 x0),(.int .i64 x1),(.int .i64 x2)]),(.int .i64 x3)])=>some (x0,x1,x2,x3)
 |_=>none
theorem z103.link (a0:J1):z103.C.evTop 194 (ifun Tryz.f194) [(.str a0)] z103.dec=z103.F a0:=by kernel_rfl
def z104.C:Ctx where
 T:=tab
 draws:=λf i=>match f,i with|122,4=>([(19,[],0),(20,[(6,0)],0),(21,[(19,2)],2),(22,[(18,1),(20,3)],7),(23,[(21,4)],15),(8,[],0),(0,[(7,6),(22,5)],63)],8126592)|_,_=>([],0)
 call:=Qh [(187,z90.pack),(193,z101.pack),(194,z103.pack),(148,z24.pack)]
 prim:=λg=>match g with|192=>some (blkP [227] z98.pk)|195=>some (blkP [227,85] z100.pk)|_=>none
def z104.dec:V->J2->Option (Int×Int×Int×Int×J1×Int×J2×Int×Int)
 |(.tup [(.agg [(.int .i64 x0),(.int .i64 x1),(.int .i64 x2),(.int .i64 x3),(.str x4)]),(.int .i64 x5)]),[[(.recs _ 3 x6),(.int .i64 x7),(.int .i64 x8)]]=>some (x0,x1,x2,x3,x4,x5,x6,x7,x8)
 |_,_=>none
theorem z104.link (a0:J2) (a1 a2 a3 a4 a5:Int):z104.C.evBlk 122 (ifun Tryz.f122) [227] [[(.recs false 3 a0),(.int .i64 a1),(.int .i64 a2)]] [(.agg [(.int .i64 a3),(.int .i64 a4),(.int .i64 a5)])] z104.dec=z104.F a0 a1 a2 a3 a4 a5:=by kernel_rfl
def z107.l0sh:Env×Store:=((.str ([]:J1)) :: .undef::(.int .i64 0)::(.str ([]:J1))::un 21 [],[])
def z107.l0so0:Env×Store:=(.undef :: .undef::(.int .i64 0)::un 22 [],[])
def z107.l0out0 (a:J1) (b:Int) (c:J1) (o:Int):X×Env×Store:=(.ret,Qb z107.l0so0 [.i o])
def z107.l0pack:List Leaf->Option LPack
 |[.s a,.i b,.s c]=>some (.one _ (z107.l0 a c) (z107.l0out0 a b c))
 |_=>none
def z107.C:Ctx where
 T:=tab
 call:=Qh [(260,z5.pack),(58,z105.pack),(261,z106.pack)]
 keep:=λf i=>match f,i with|190,0=>([0,2,3],[],[])|_,_=>([],[],[])
 keepR:=λf i=>match f,i with|190,0=>([2],[],[2])|_,_=>([],[],[])
 L:=λf i b st=>match f,i,b with|190,0,0=>(matchSt z107.l0sh st).bind z107.l0pack|_,_,_=>none
theorem z107.l0_link (R:Type) (k:Env×Store->Option R) (d:X×Env×Store->Option R) (a:J1) (b:Int) (c:J1) :
  z107.C.loopP 190 0 (Qf 0 (ifun Tryz.f190).body) 0 k d (Qb z107.l0sh [.s a,.i b,.s c]) =
  z107.l0P a (λx'=>k (Qb z107.l0sh [.s a,.i b,.s x'])) (λo=>d (z107.l0out0 a b c o)) c:=by kernel_rfl
theorem z107.link (a0:J1):z107.C.evTop 190 (ifun Tryz.f190) [(.str a0)] z23.dec=z107.F a0:=by kernel_rfl
def z122.C:Ctx where
 T:=tab
 call:=Qh [(125,z121.pack)]
theorem z122.link (a0 a1:J1):z122.C.evTop 59 (ifun Tryz.f59) [(.str a0),(.str a1)] z25.dec=z122.F a0 a1:=by kernel_rfl
def z126.l0sh:Env×Store:=((.str ([]:J1))::(.str ([]:J1))::(.int .i64 0)::(.int .i64 0)::un 4 ((.sref 2 0)::(.sref 3 0)::(.int .i64 0)::un 55 []),[(.cells 69 [(.int .i64 0),(.int .i64 0),(.int .i64 0),(.ints false .u8 []),(.ints false .u8 []),(.ints false .u32 [])]),(.arr 0 true 9 (.strs false [])),(.arr 0 true 9 (.strs false [])),(.arr 0 false 9 (.strs false []))])
def z126.l0out0 (a b:J1) (c d e g h j:Int) (k m n:J0) (p q r:List J1) (o:J1×Int×(List J1)):X×Env×Store:=((.exit 0),Qb z126.l0sh [.s o.1,.s b,.i c,.i d,.i o.2.1,.i g,.i h,.i j,.li k,.li m,.li n,.ls p,.ls q,.ls o.2.2])
def z126.l0pack:List Leaf->Option LPack
 |[.s a,.s b,.i c,.i d,.i e,.i g,.i h,.i j,.li k,.li m,.li n,.ls o,.ls p,.ls q]=>some (.one _ (z126.l0 b c d (a,e,q)) (z126.l0out0 a b c d e g h j k m n o p q))
 |_=>none
def z126.C:Ctx where
 T:=tab
 draws:=λf i=>match f,i with|8,1=>([(17,[(2,0)],0),(18,[(2,0)],0),(19,[(17,2)],2),(20,[(16,1),(18,3)],7),(6,[(19,4)],15)],983072)|8,11=>([(65,[(5,0)],0),(66,[(5,0)],0),(67,[(65,2)],2),(68,[(5,0)],0),(69,[(67,4)],8),(70,[(64,1),(66,3),(68,5)],31),(71,[(13,0)],0),(72,[(70,7)],64),(73,[(69,6),(71,8)],255),(74,[(72,9)],511),(64,[(73,10)],1023),(75,[(63,11)],2047),(76,[(63,11)],2047),(15,[(74,12)],4095),(16,[(75,13)],16383)],75548640353877468692480)|_,_=>([],0)
 call:=Qh [(47,z20.pack),(46,z18.pack),(48,z97.pack),(49,z119.pack),(60,z125.pack),(128,z124.pack),(52,z7.pack),(51,z118.pack),(55,z120.pack),(58,z105.pack),(59,z122.pack)]
 inl:=λg=>match g with|50=>some (ifun Tryz.f50)|120=>some (ifun Tryz.f120)|_=>none
 rank:=λg=>match g with|50=>1|_=>0
 prim:=λg=>match g with|54=>some (cloneP (.strs true []) 9 16)|53=>some (rowP 9 z8.pk)|57=>some (cloneP (.recs true 5 []) 85 48)|56=>some (rowP 85 z9.pk)|_=>none
 keeps:=λd=>match d with|72=>true|_=>false
 keep:=λf i=>match f,i with|120,0=>([0,1,2,3,8,9,10],List.range 64,[])|_,_=>([],[],[])
 keepR:=λf i=>match f,i with|120,0=>([8],List.range 64,[])|_,_=>([],[],[])
 L:=λf i b st=>match f,i,b with|120,0,2=>(matchSt z126.l0sh st).bind z126.l0pack|_,_,_=>none
theorem z126.l0_link (R:Type) (k:Env×Store->Option R) (d:X×Env×Store->Option R) (a b:J1) (c e g h j m:Int) (n p q:J0) (r t u:List J1) :
  z126.C.loopPI (z126.C.inlK 0) 120 0 2 (Qf 0 (ifun Tryz.f120).body) 4 k d (Qb z126.l0sh [.s a,.s b,.i c,.i e,.i g,.i h,.i j,.i m,.li n,.li p,.li q,.ls r,.ls t,.ls u]) =
  z126.l0P b c e (λx'=>k (Qb z126.l0sh [.s x'.1,.s b,.i c,.i e,.i x'.2.1,.i h,.i j,.i m,.li n,.li p,.li q,.ls r,.ls t,.ls x'.2.2])) (λo=>d (z126.l0out0 a b c e g h j m n p q r t u o)) (a,g,u):=by kernel_rfl
theorem z126.link (a0 a1 a2:Int) (a3 a4 a5:J0) (a6:Int):z126.C.evTop 8 (ifun Tryz.f8) [(.agg [(.int .i64 a0),(.int .i64 a1),(.int .i64 a2),(.ints false .u8 a3),(.ints false .u8 a4),(.ints false .u32 a5)]),(.int .u8 a6)] z25.dec=z126.F a0 a1 a2 a3 a4 a5 a6:=by kernel_rfl
end
end Go.Proofs.YtihfdjkjpncjfaaGreatDoor.A
end
